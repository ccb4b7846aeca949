/- Texts of the claim FrontTries, one behind the other. -/
import Derived.Test.YteolfpghafdmdaaFrontTriesM3
import GoSem.Instr.MapEntry
/- prog.Check: which transactions are right. -/
namespace Go.Proofs.Yteolfpghafdmdaa
open Go Go.Sep
set_option linter.unusedSimpArgs false
set_option linter.unusedVariables false
set_option maxRecDepth 100000

/-- What prog.step says. -/
def stepOk (t : TxX) (o : OpM) : Bool :=
  if 32 < o.val.length ∨ (o.n ≠ 0 ∧ o.kind ≠ 6) then false
  else if o.kind = 2 then decide (o.key ∈ t.writes)
  else if o.kind = 3 ∨ o.kind = 6 then decide (o.key ∈ t.writes) && decide (o.val.length = 0)
  else if o.kind = 4 then decide (o.key ∈ t.reads ++ t.writes)
  else if o.kind = 1 ∨ o.kind = 5 then decide (o.key ∈ t.reads ++ t.writes) && decide (o.val.length = 0)
  else if o.kind = 7 then decide (o.key = [])
  else false
theorem stepOk_eq (t : TxX) (o : OpM) : stepOk t o = opRight t o := by
  unfold stepOk opRight
  by_cases h1 : 32 < o.val.length
  · simp [h1]
  simp only [h1, false_or]
  by_cases hw : o.key ∈ t.writes <;> by_cases hr : o.key ∈ t.reads <;> by_cases hn : o.n = 0 <;> by_cases hv : o.val.length = 0 <;>
    (by_cases k1 : o.kind = 1
     · simp [k1, hw, hr, hn, hv]
     by_cases k2 : o.kind = 2
     · simp [k2, hw, hr, hn, hv]
     by_cases k3 : o.kind = 3
     · simp [k3, hw, hr, hn, hv]
     by_cases k4 : o.kind = 4
     · simp [k4, hw, hr, hn, hv]
     by_cases k5 : o.kind = 5
     · simp [k5, hw, hr, hn, hv]
     by_cases k6 : o.kind = 6
     · simp [k6, hw, hr, hn, hv]
     by_cases k7 : o.kind = 7
     · simp [k7, hw, hr, hn, hv]
     have k8 : o.kind < 1 ∨ 7 < o.kind := by omega
     simp [k1, k2, k3, k4, k5, k6, k7, k8])
abbrev KeyOk (k : TX) : Prop := 1 ≤ k.length ∧ k.length ≤ 16
/-- What prog.declared says. -/
abbrev DeclOk (t : TxX) : Prop := t.reads.length ≤ 8 ∧ t.writes.length ≤ 8 - t.reads.length ∧ (Rises t.reads ∧ ∀ k ∈ t.reads, KeyOk k) ∧ (Rises t.writes ∧ ∀ k ∈ t.writes, KeyOk k) ∧ ∀ k ∈ t.reads, k ∉ t.writes
theorem decl_iff {n : Int} {t : TxX} (h1 : 1 ≤ n) (h3 : n ≤ 3) : DeclOk t ↔ ¬ headBad n t ∧ ¬ keysBad t := by
  constructor
  · rintro ⟨a1, a2, ⟨a3, a4⟩, ⟨a5, a6⟩, a7⟩
    refine ⟨?_, ?_⟩
    · rintro (h | h | h | h | h | h | h)
      · omega
      · omega
      · exact h a3
      · exact h a5
      · omega
      · omega
      · omega
    · rintro (⟨k, hk, h⟩ | ⟨k, hk, h⟩)
      · rcases List.mem_append.1 hk with hk | hk
        · have := a4 k hk; omega
        · have := a6 k hk; omega
      · exact a7 k hk h
  · rintro ⟨h, g⟩
    simp only [headBad, not_or, Classical.not_not] at h
    obtain ⟨_, _, b1, b2, b3, b4, b5⟩ := h
    refine ⟨by omega, by omega, ⟨b1, fun k hk => ?_⟩, ⟨b2, fun k hk => ?_⟩, fun k hk hw => g (.inr ⟨k, hk, hw⟩)⟩
    · have h6 : ¬ (k.length < 1 ∨ 16 < k.length) := fun h => g (.inl ⟨k, List.mem_append_left _ hk, h⟩)
      exact ⟨by omega, by omega⟩
    · have h6 : ¬ (k.length < 1 ∨ 16 < k.length) := fun h => g (.inl ⟨k, List.mem_append_right _ hk, h⟩)
      exact ⟨by omega, by omega⟩
section
variable {B : World} {Γ Δ : List HProp} {k : K}
theorem contains_hg {s : Sl} {L : List TX} {key : TX} {Q : Bool → K} (hL : L.length < 100000000) (hr : ∀ w, Holds B Γ w → RdC w s 1 (L.map strV)) (h : HG B Γ (Q (decide (key ∈ L)))) : HG B Γ (slices_Contains_s_string_string.call s (bs key) Q) := fun w hw => by
  refine slices_Contains_s_string_string_ok _ _ _ _ ?_
  have hn : s.n = L.length := by have := (hr w hw).len; simpa using this.symm
  refine Sep.hg hw ?_
  clear hw w
  unfold slices_Contains_s_string_string
  refine fun w hw => slices_Index_s_string_string_ok _ _ _ _ ?_
  refine Sep.hg hw ?_
  clear hw w
  unfold slices_Index_s_string_string
  refine s_loopC (α := Int) (fun x => ∃ i : Nat, x = (i : Int) ∧ i ≤ L.length ∧ key ∉ L.take i) (fun x => L.length - x.toNat) ⟨0, rfl, Nat.zero_le _, by simp⟩ fun k' x hx hk' => ?_
  obtain ⟨i, rfl, hi, hno⟩ := hx
  unfold slices_Index_s_string_string.b1
  refine s_ite (fun hb => ?_) fun hb => ?_
  · have hil : i < L.length := by simp only [decide_eq_true_eq] at hb; omega
    have hge : L[i]? = some L[i] := List.getElem?_eq_getElem hil
    have hmem : L[i] ∈ L := List.getElem_mem hil
    have htk : L.take (i + 1) = L.take i ++ [L[i]] := List.take_succ_eq_append_getElem hil
    generalize L[i] = x at hge hmem htk
    refine s_idxS hr hge ?_
    rw [bs_list, bs_list]
    refine s_ite (fun he => ?_) fun he => ?_
    · have he' : key = x := by simpa using he
      rw [show decide (key ∈ L) = true from decide_eq_true (by rw [he']; exact hmem)] at h
      show HG B Γ (Q (decide ((0 : Int) ≤ (i : Int))))
      rw [show decide ((0 : Int) ≤ (i : Int)) = true by simp]
      exact h
    · have he' : ¬ key = x := by simpa using he
      refine s_ai ?_
      refine hk' _ ⟨i + 1, by simp, hil, ?_⟩ (by omega)
      rw [htk]
      simp only [List.mem_append, List.mem_singleton, not_or]
      exact ⟨hno, he'⟩
  · have hil : i = L.length := by simp only [decide_eq_false_iff_not] at hb; omega
    rw [hil, List.take_length] at hno
    rw [show decide (key ∈ L) = false from decide_eq_false hno] at h
    show HG B Γ (Q (decide ((0 : Int) ≤ -1)))
    rw [show decide ((0 : Int) ≤ -1) = false by decide]
    exact h
theorem rises_hg {s : Sl} {L : List TX} {Q : Bool → K} (hL : L.length < 1000000000) (hr : ∀ w, Holds B Γ w → RdC w s 1 (L.map strV)) (h : HG B Γ (Q (decide (Rises L ∧ ∀ k ∈ L, KeyOk k)))) : HG B Γ (prog_rises.call s Q) := fun w hw => by
  refine prog_rises_ok _ _ _ ?_
  have hn : s.n = L.length := by have := (hr w hw).len; simpa using this.symm
  refine Sep.hg hw ?_
  clear hw w
  unfold prog_rises
  refine s_loopC (α := Int) (fun x => ∃ i : Nat, x = (i : Int) ∧ i ≤ L.length ∧ Rises (L.take i) ∧ ∀ k ∈ L.take i, KeyOk k) (fun x => L.length - x.toNat) ⟨0, rfl, Nat.zero_le _, by simp, by simp⟩ fun k' x hx hk' => ?_
  obtain ⟨i, rfl, hi, hp, hks⟩ := hx
  unfold prog_rises.b1
  refine s_ite (fun hb => ?_) fun hb => ?_
  · have hil : i < L.length := by simp only [decide_eq_true_eq] at hb; omega
    have g2 : L[i]? = some L[i] := List.getElem?_eq_getElem hil
    have t2 : L.take (i + 1) = L.take i ++ [L[i]] := List.take_succ_eq_append_getElem hil
    have m2 : L[i] ∈ L := List.getElem_mem hil
    have hpi : ∀ j x, L[j]? = some x → j < i → Rises L → x < L[i] := fun j x hx hj h => by
      obtain ⟨h1, rfl⟩ := List.getElem?_eq_some_iff.1 hx
      exact (List.pairwise_iff_getElem.1 h) j i h1 hil hj
    generalize L[i] = y at g2 t2 m2 hpi
    have hsz : (bs y).size = y.length := rfl
    have no : ¬ (Rises L ∧ ∀ k ∈ L, KeyOk k) → HG B Γ (prog_rises.s2 Q k' s s (s.n : Int) (i : Int) true) := fun hn => by
      rw [decide_eq_false hn] at h
      unfold prog_rises.s2
      exact s_t h
    refine s_idxS hr g2 ?_
    rw [bs_list]
    refine s_ite (fun hc => ?_) fun hc => ?_
    · refine no fun hh => ?_
      have : y = [] := by simpa using hc
      have := (hh.2 y m2).1
      simp_all
    have hy1 : 1 ≤ y.length := by
      have : y ≠ [] := by simpa using hc
      exact List.length_pos_iff.2 this
    refine s_ite (fun hd => ?_) fun hd => ?_
    · refine no fun hh => ?_
      have := (hh.2 y m2).2
      simp only [decide_eq_true_eq] at hd; omega
    have hy16 : y.length ≤ 16 := by simp only [decide_eq_false_iff_not] at hd; omega
    have yes : Rises (L.take (i + 1)) → HG B Γ (prog_rises.s2 Q k' s s (s.n : Int) (i : Int) false) := fun hp2 => by
      unfold prog_rises.s2
      refine s_f ?_
      refine s_ai ?_
      refine hk' _ ⟨i + 1, by simp, hil, hp2, fun k hk => ?_⟩ (by omega)
      rw [t2] at hk
      rcases List.mem_append.1 hk with hk | hk
      · exact hks k hk
      · rw [List.mem_singleton.1 hk]; exact ⟨hy1, hy16⟩
    refine s_ite (fun he => ?_) fun he => ?_
    · obtain ⟨j, rfl⟩ : ∃ j, i = j + 1 := ⟨i - 1, by simp only [decide_eq_true_eq] at he; omega⟩
      have g1 : L[j]? = some L[j] := List.getElem?_eq_getElem (by omega)
      have t1 : L.take (j + 1) = L.take j ++ [L[j]] := List.take_succ_eq_append_getElem (by omega)
      have hxy := hpi j _ g1 (by omega)
      generalize L[j] = x at g1 t1 hxy
      refine s_ai ?_
      refine s_idxS hr g1 ?_ (by omega)
      rw [bs_list, bytesLess_dec]
      by_cases hlt : x < y
      · rw [decide_eq_true hlt]
        refine yes ?_
        rw [t2]
        refine List.pairwise_append.2 ⟨hp, List.pairwise_singleton _ _, fun a ha b hb => ?_⟩
        rw [List.mem_singleton.1 hb]
        rw [t1] at ha hp
        rcases List.mem_append.1 ha with ha | ha
        · exact List.lt_trans ((List.pairwise_append.1 hp).2.2 a ha x (by simp)) hlt
        · rw [List.mem_singleton.1 ha]; exact hlt
      · rw [decide_eq_false hlt]
        exact no fun hh => hlt (hxy hh.1)
    · have hi0 : i = 0 := by simp only [decide_eq_false_iff_not] at he; omega
      subst hi0
      refine yes ?_
      rw [t2]; simp
  · have hil : i = L.length := by simp only [decide_eq_false_iff_not] at hb; omega
    rw [hil, List.take_length] at hp hks
    rw [decide_eq_true (show Rises L ∧ ∀ k ∈ L, KeyOk k from ⟨hp, hks⟩)] at h
    exact h
theorem step_hg {t : TxX} {x : OpX} {Q : Bool → K} (hr : ∀ w, Holds B Γ w → txRd w t) (hl : t.reads.length < 10000000 ∧ t.writes.length < 10000000) (hx : ∀ w, Holds B Γ w → RdB w x.2 x.1.val) (h : HG B Γ (Q (opRight t x.1))) : HG B Γ (prog_step.call (txL t).toArray (opF x).toArray Q) := fun w hw => by
  refine prog_step_ok _ _ _ _ ?_
  have hxl : x.2.n = x.1.val.length := by have := (hx w hw).len; simpa using this.symm
  refine Sep.hg hw ?_
  clear hw w
  unfold prog_step
  refine s_new fun t2 => ?_
  refine s_new fun o3 => ?_
  have fin : HG B (blk o3 (.cells (opF x).toArray ty_api_Op (0, 0)) :: blk t2 (.cells (txL t).toArray ty_api_Txn (0, 0)) :: Γ) (Q (stepOk t x.1)) := by rw [stepOk_eq]; exact s_end h
  generalize hR : stepOk t x.1 = R at fin
  unfold stepOk at hR
  have hlen : decide ((x.2.n : Int) = 0) = decide (x.1.val.length = 0) := decide_eq_decide.2 (by omega)
  have S2 : ∀ w k : Bool, w = decide (x.1.key ∈ t.writes) → k = decide (x.1.key ∈ t.reads ++ t.writes) → ¬ (32 < x.1.val.length ∨ (x.1.n ≠ 0 ∧ x.1.kind ≠ 6)) → HG B (blk o3 (.cells (opF x).toArray ty_api_Op (0, 0)) :: blk t2 (.cells (txL t).toArray ty_api_Txn (0, 0)) :: Γ) (prog_step.s2 Q ⟨o3, 0, none⟩ w k) := fun w k hw hk hn => by
    rw [if_neg hn, ← hw, ← hk] at hR
    unfold prog_step.s2
    repeat refine s_nx ?_
    refine s_ite (fun h2 => ?_) fun h2 => ?_
    · rw [if_pos (by simpa using h2)] at hR
      rw [hR]; exact fin
    have h2' : ¬ x.1.kind = 2 := by simpa using h2
    rw [if_neg h2'] at hR
    have S3t : x.1.kind = 3 ∨ x.1.kind = 6 → HG B (blk o3 (.cells (opF x).toArray ty_api_Op (0, 0)) :: blk t2 (.cells (txL t).toArray ty_api_Txn (0, 0)) :: Γ) (prog_step.s3 Q ⟨o3, 0, none⟩ w k x.1.kind true) := fun h36 => by
      rw [if_pos h36] at hR
      unfold prog_step.s3 prog_step.s4
      refine s_t ?_
      refine s_ite (fun hb => ?_) fun hb => ?_
      · rw [hb, Bool.true_and] at hR
        repeat refine s_nx ?_
        rw [hlen, hR]; exact fin
      · rw [hb, Bool.false_and] at hR
        rw [hR]; exact fin
    refine s_ite (fun h3 => ?_) fun h3 => ?_
    · rw [show decide (x.1.kind = 3) = true from h3]
      exact S3t (.inl (by simpa using h3))
    have h3' : ¬ x.1.kind = 3 := by simpa using h3
    by_cases h6 : x.1.kind = 6
    · rw [decide_eq_true h6]
      exact S3t (.inr h6)
    rw [decide_eq_false h6]
    rw [if_neg (by omega)] at hR
    unfold prog_step.s3
    refine s_f ?_
    refine s_ite (fun h4 => ?_) fun h4 => ?_
    · rw [if_pos (by simpa using h4)] at hR
      rw [hR]; exact fin
    have h4' : ¬ x.1.kind = 4 := by simpa using h4
    rw [if_neg h4'] at hR
    have S5t : x.1.kind = 1 ∨ x.1.kind = 5 → HG B (blk o3 (.cells (opF x).toArray ty_api_Op (0, 0)) :: blk t2 (.cells (txL t).toArray ty_api_Txn (0, 0)) :: Γ) (prog_step.s5 Q ⟨o3, 0, none⟩ k x.1.kind true) := fun h15 => by
      rw [if_pos h15] at hR
      unfold prog_step.s5 prog_step.s6
      refine s_t ?_
      refine s_ite (fun hb => ?_) fun hb => ?_
      · rw [hb, Bool.true_and] at hR
        repeat refine s_nx ?_
        rw [hlen, hR]; exact fin
      · rw [hb, Bool.false_and] at hR
        rw [hR]; exact fin
    refine s_ite (fun h1 => ?_) fun h1 => ?_
    · rw [show decide (x.1.kind = 1) = true from h1]
      exact S5t (.inl (by simpa using h1))
    have h1' : ¬ x.1.kind = 1 := by simpa using h1
    by_cases h5 : x.1.kind = 5
    · rw [decide_eq_true h5]
      exact S5t (.inr h5)
    rw [decide_eq_false h5]
    rw [if_neg (by omega)] at hR
    unfold prog_step.s5
    refine s_f ?_
    refine s_ite (fun h7 => ?_) fun h7 => ?_
    · rw [if_pos (by simpa using h7)] at hR
      repeat refine s_nx ?_
      rw [bs_list]
      rw [show (x.1.key == (⟨#[]⟩ : ByteArray).toList) = R by rw [← hR]; cases x.1.key <;> simp]
      exact fin
    · rw [if_neg (by simpa using h7)] at hR
      rw [hR]; exact fin
  have S1 : ∀ b, (b = true ↔ 32 < x.1.val.length ∨ (x.1.n ≠ 0 ∧ x.1.kind ≠ 6)) → HG B (blk o3 (.cells (opF x).toArray ty_api_Op (0, 0)) :: blk t2 (.cells (txL t).toArray ty_api_Txn (0, 0)) :: Γ) (prog_step.s1 Q ⟨t2, 0, none⟩ ⟨o3, 0, none⟩ b) := fun b hb => by
    unfold prog_step.s1
    refine s_ite (fun hb1 => ?_) fun hb1 => ?_
    · rw [if_pos (hb.1 hb1)] at hR
      rw [hR]; exact fin
    have hn : ¬ (32 < x.1.val.length ∨ (x.1.n ≠ 0 ∧ x.1.kind ≠ 6)) := fun h => by rw [hb.2 h] at hb1; cases hb1
    repeat refine s_nx ?_
    refine contains_hg (L := t.writes) (key := x.1.key) (by omega) (fun w hw => (hr w hw.drops).2.1) ?_
    by_cases hw1 : x.1.key ∈ t.writes
    · rw [decide_eq_true hw1]
      refine s_t ?_
      exact S2 true true (by simp [hw1]) (by simp [hw1]) hn
    rw [decide_eq_false hw1]
    refine s_f ?_
    repeat refine s_nx ?_
    refine contains_hg (L := t.reads) (key := x.1.key) (by omega) (fun w hw => (hr w hw.drops).1) ?_
    exact S2 false _ (by simp [hw1]) (by simp [hw1]) hn
  repeat refine s_nx ?_
  refine s_ite (fun hb => ?_) fun hb => ?_
  · exact S1 true (by have : 32 < x.1.val.length := by simp only [decide_eq_true_eq] at hb; omega
                      simp [this])
  have h32 : ¬ 32 < x.1.val.length := by simp only [decide_eq_false_iff_not] at hb; omega
  repeat refine s_nx ?_
  refine s_ite (fun hc => ?_) fun hc => ?_
  · have hc' : x.1.n ≠ 0 := by simpa using hc
    repeat refine s_nx ?_
    exact S1 _ (by simp [h32, hc'])
  · have hc' : x.1.n = 0 := by simpa using hc
    exact S1 _ (by simp [h32, hc'])
abbrev dfV (b : Nat) : Value := .func (.func 40) #[] #[.pointer (some ⟨b, 0, none⟩)]
abbrev cfV (b : Nat) : Value := .func (.func 28) #[] #[.pointer (some ⟨b, 0, none⟩)]
theorem declared_hg {t : TxX} {Q : Bool → K} (hr : ∀ w, Holds B Γ w → txRd w t) (hl : t.reads.length < 10000000 ∧ t.writes.length < 10000000) (h : HG B Γ (Q (decide (DeclOk t)))) : HG B Γ (prog_declared.call (txL t).toArray Q) := fun w hw => by
  refine prog_declared_ok _ _ _ ?_
  obtain ⟨n1, n2, n3⟩ := tx_lens (hr w hw)
  refine Sep.hg hw ?_
  clear hw w
  unfold prog_declared
  refine s_new fun t1 => ?_
  have no : ¬ DeclOk t → HG B (blk t1 (.cells (txL t).toArray ty_api_Txn (0, 0)) :: Γ) (prog_declared.s1 Q ⟨t1, 0, none⟩ true) := fun hn => by
    rw [decide_eq_false hn] at h
    unfold prog_declared.s1
    exact s_t (s_end h)
  repeat refine s_nx ?_
  refine s_ite (fun hb => no fun hd => by have := hd.1; simp only [decide_eq_true_eq] at hb; omega) fun hb => ?_
  have hr8 : t.reads.length ≤ 8 := by simp only [decide_eq_false_iff_not] at hb; omega
  repeat refine s_nx ?_
  refine s_ar (e' := 8 - (t.rs.n : Int)) (by rw [wrap64 (by omega) (by omega)]) ?_
  refine s_ite (fun hb2 => no fun hd => by have := hd.2.1; simp only [decide_eq_true_eq] at hb2; omega) fun hb2 => ?_
  have hw8 : t.writes.length ≤ 8 - t.reads.length := by simp only [decide_eq_false_iff_not] at hb2; omega
  repeat refine s_nx ?_
  refine rises_hg (L := t.reads) (by omega) (fun w hw => (hr w hw.drops).1) ?_
  by_cases hr1 : Rises t.reads ∧ ∀ k ∈ t.reads, KeyOk k
  rotate_left
  · rw [decide_eq_false hr1]
    exact s_t (no fun hd => hr1 hd.2.2.1)
  rw [decide_eq_true hr1]
  refine s_f ?_
  repeat refine s_nx ?_
  refine rises_hg (L := t.writes) (by omega) (fun w hw => (hr w hw.drops).2.1) ?_
  by_cases hr2 : Rises t.writes ∧ ∀ k ∈ t.writes, KeyOk k
  rotate_left
  · rw [decide_eq_false hr2]
    exact no fun hd => hr2 hd.2.2.2.1
  rw [decide_eq_true hr2]
  unfold prog_declared.s1
  refine s_f ?_
  repeat refine s_nx ?_
  have ok : decide (DeclOk t) = !(t.reads.any fun k => decide (k ∈ t.writes)) := by
    rw [Bool.eq_iff_iff]
    simp only [decide_eq_true_eq, Bool.not_eq_true', List.any_eq_false]
    constructor
    · exact fun hd => fun k hk => hd.2.2.2.2 k hk
    · exact fun ha => ⟨hr8, hw8, hr1, hr2, fun k hk => by simpa using ha k hk⟩
  rw [ok] at h
  refine fun w hw => slices_ContainsFunc_s_string_string_ok _ _ _ _ ?_
  refine Sep.hg hw ?_
  clear hw w
  unfold slices_ContainsFunc_s_string_string
  refine fun w hw => slices_IndexFunc_s_string_string_ok _ _ _ _ ?_
  refine Sep.hg hw ?_
  clear hw w
  show HG B _ (idxFK Try.prog (acc1 Value.string) t.rs (dfV t1) _)
  refine s_idxFp (vV := fun x : TX => strV x) (L := t.reads) (fun k => decide (k ∈ t.writes)) n1 (by omega) (fun i x k hx hk => s_idxS (fun w hw => (hr w hw.drops).1) hx hk) (fun x q _ hq => ?_) ?_
  · refine s_callvC (cs := [.pointer (some ⟨t1, 0, none⟩)]) ?_
    refine fun w hw => prog_declared_1_ok _ _ _ _ ?_
    refine Sep.hg hw ?_
    clear hw w
    unfold prog_declared_1
    repeat refine s_nx ?_
    refine contains_hg (L := t.writes) (key := x) (by omega) (fun w hw => (hr w hw.drops).2.1) ?_
    exact hq
  · rw [idxI_nonneg, any_idx]
    exact s_end h
theorem check_hg {t : TxX} {n : Int} {Q : Int → K} (hr : ∀ w, Holds B Γ w → txRd w t) (hl : t.reads.length < 10000000 ∧ t.writes.length < 10000000 ∧ t.ops.length < 10000000) (h : HG B Γ (Q (if rightT n t then 0 else 1))) : HG B Γ (prog_Check.call (txL t).toArray n Q) := fun w hw => by
  refine prog_Check_ok _ _ _ _ ?_
  obtain ⟨n1, n2, n3⟩ := tx_lens (hr w hw)
  refine Sep.hg hw ?_
  clear hw w
  unfold prog_Check
  refine s_new fun t2 => ?_
  have S2 : ∀ b, b = rightT n t → HG B (blk t2 (.cells (txL t).toArray ty_api_Txn (0, 0)) :: Γ) (prog_Check.s2 Q b) := fun b hb => by
    unfold prog_Check.s2
    rw [← hb] at h
    refine s_ite (fun hc => ?_) fun hc => ?_
    · have : b = false := by simpa using hc
      rw [this] at h
      exact s_end h
    · have : b = true := by simpa using hc
      rw [this] at h
      exact s_end h
  have S1 : ∀ b, (b = true ↔ ¬ headBad n t ∧ ¬ keysBad t) → HG B (blk t2 (.cells (txL t).toArray ty_api_Txn (0, 0)) :: Γ) (prog_Check.s1 Q n ⟨t2, 0, none⟩ b) := fun b hb => by
    have hR : rightT n t = (b && if t.kind = 2 then decide (t.reads.length = 0) && (decide (t.ops.length = 0) && (decide (t.writes.length = 1) && (decide (0 ≤ t.to) && decide (t.to < n))))
        else if t.kind ≠ 1 ∨ t.to ≠ 0 ∨ 16 < t.ops.length then false else t.ops.all fun x => opRight t x.1) := by
      unfold rightT
      cases b with
      | true =>
        obtain ⟨h1, h2⟩ := hb.1 rfl
        rw [if_neg h1, if_neg h2, Bool.true_and]
      | false =>
        rw [Bool.false_and]
        by_cases h1 : headBad n t
        · rw [if_pos h1]
        · rw [if_neg h1]
          by_cases h2 : keysBad t
          · rw [if_pos h2]
          · exact absurd (hb.2 ⟨h1, h2⟩) (by simp)
    unfold prog_Check.s1
    repeat refine s_nx ?_
    refine s_ite (fun hk1 => ?_) fun hk1 => ?_
    · have hk1' : t.kind = 1 := by simpa using hk1
      rw [if_neg (by omega)] at hR
      refine s_ite (fun hb1 => ?_) fun hb1 => ?_
      rotate_left
      · exact S2 _ (by rw [hR, hb1]; rfl)
      rw [hb1, Bool.true_and] at hR
      repeat refine s_nx ?_
      refine s_ite (fun hto => ?_) fun hto => ?_
      rotate_left
      · have : t.to ≠ 0 := by simpa using hto
        exact S2 _ (by rw [hR, if_pos (.inr (.inl this))])
      have hto' : t.to = 0 := by simpa using hto
      repeat refine s_nx ?_
      refine s_ite (fun ho => ?_) fun ho => ?_
      rotate_left
      · have : 16 < t.ops.length := by simp only [decide_eq_false_iff_not] at ho; omega
        exact S2 _ (by rw [hR, if_pos (.inr (.inr this))])
      have ho' : ¬ 16 < t.ops.length := by simp only [decide_eq_true_eq] at ho; omega
      rw [if_neg (by rintro (g | g | g) <;> contradiction)] at hR
      repeat refine s_nx ?_
      refine fun w hw => slices_ContainsFunc_s_api_Op_api_Op_ok _ _ _ _ ?_
      refine Sep.hg hw ?_
      clear hw w
      unfold slices_ContainsFunc_s_api_Op_api_Op
      refine fun w hw => slices_IndexFunc_s_api_Op_api_Op_ok _ _ _ _ ?_
      refine Sep.hg hw ?_
      clear hw w
      show HG B _ (idxFK Try.prog (accN 4) t.os (cfV t2) _)
      refine s_idxFp (vV := fun x => .agg (opF x).toArray) (L := t.ops) (fun x => !opRight t x.1) n3 (by omega) (fun i x k hx hk => acc_rd opF_len (by omega) (fun w hw => (hr w hw.drops).2.2.1) hx hk) (fun x q hx hq => ?_) ?_
      · refine s_callvC (cs := [.pointer (some ⟨t2, 0, none⟩)]) ?_
        refine fun w hw => prog_Check_1_ok _ _ _ _ ?_
        refine Sep.hg hw ?_
        clear hw w
        unfold prog_Check_1
        refine s_new fun o2 => ?_
        repeat refine s_nx ?_
        refine step_hg (t := t) (x := x) (fun w hw => hr w hw.drops) ⟨by omega, by omega⟩ (fun w hw => (hr w hw.drops).2.2.2 x hx) ?_
        exact s_end hq
      · rw [idxI_nonneg, any_idx]
        refine S2 _ ?_
        rw [hR, List.all_eq_not_any_not]
    have hk1' : ¬ t.kind = 1 := by simpa using hk1
    refine s_ite (fun hk2 => ?_) fun hk2 => ?_
    rotate_left
    · have hk2' : ¬ t.kind = 2 := by simpa using hk2
      rw [if_neg hk2', if_pos (.inl hk1'), Bool.and_false] at hR
      exact S2 _ hR.symm
    have hk2' : t.kind = 2 := by simpa using hk2
    rw [if_pos hk2'] at hR
    refine s_ite (fun hb1 => ?_) fun hb1 => ?_
    rotate_left
    · exact S2 _ (by rw [hR, hb1]; rfl)
    rw [hb1, Bool.true_and] at hR
    repeat refine s_nx ?_
    refine s_ite (fun he => ?_) fun he => ?_
    rotate_left
    · refine S2 _ ?_
      rw [hR, show decide (t.reads.length = 0) = false from decide_eq_false (by simp only [decide_eq_false_iff_not] at he; omega)]; rfl
    rw [show decide (t.reads.length = 0) = true from decide_eq_true (by simp only [decide_eq_true_eq] at he; omega), Bool.true_and] at hR
    repeat refine s_nx ?_
    refine s_ite (fun he2 => ?_) fun he2 => ?_
    rotate_left
    · refine S2 _ ?_
      rw [hR, show decide (t.ops.length = 0) = false from decide_eq_false (by simp only [decide_eq_false_iff_not] at he2; omega)]; rfl
    rw [show decide (t.ops.length = 0) = true from decide_eq_true (by simp only [decide_eq_true_eq] at he2; omega), Bool.true_and] at hR
    repeat refine s_nx ?_
    refine s_ite (fun he3 => ?_) fun he3 => ?_
    rotate_left
    · refine S2 _ ?_
      rw [hR, show decide (t.writes.length = 1) = false from decide_eq_false (by simp only [decide_eq_false_iff_not] at he3; omega)]; rfl
    rw [show decide (t.writes.length = 1) = true from decide_eq_true (by simp only [decide_eq_true_eq] at he3; omega), Bool.true_and] at hR
    repeat refine s_nx ?_
    refine s_ite (fun he4 => ?_) fun he4 => ?_
    rotate_left
    · refine S2 _ ?_
      rw [hR, he4]; rfl
    rw [he4, Bool.true_and] at hR
    repeat refine s_nx ?_
    exact S2 _ hR.symm
  refine s_ite (fun hb => ?_) fun hb => ?_
  rotate_left
  · have : n < 1 := by simp only [decide_eq_false_iff_not] at hb; omega
    exact S1 _ (by simp [headBad, this])
  have hn1 : 1 ≤ n := by simpa using hb
  refine s_ite (fun hb => ?_) fun hb => ?_
  rotate_left
  · have : 3 < n := by simp only [decide_eq_false_iff_not] at hb; omega
    exact S1 _ (by simp [headBad, this])
  have hn3 : n ≤ 3 := by simpa using hb
  repeat refine s_nx ?_
  refine declared_hg (t := t) (fun w hw => hr w hw.drops) ⟨by omega, by omega⟩ ?_
  exact S1 _ (by rw [decide_eq_true_eq]; exact decl_iff hn1 hn3)
end
end Go.Proofs.Yteolfpghafdmdaa
/- What transactions put out, as it lies in memory. -/
namespace Go.Proofs.Yteolfpghafdmdaa
open Go Go.Sep
abbrev OX := List ((Bool × List UInt8) × Sl)
def oF (x : (Bool × List UInt8) × Sl) : List Value := [.bool x.1.1, x.2.val]
theorem oF_len (x : (Bool × List UInt8) × Sl) : (oF x).length = 2 := rfl
abbrev oB (x : (Bool × List UInt8) × Sl) : HProp := Bytes ty_uint8 x.2 x.1.2
end Go.Proofs.Yteolfpghafdmdaa
/- A slice without some of its middle, put together anew. Holds for every program. -/
namespace Go.Sep
open Go Go.RowKit
set_option linter.unusedSimpArgs false
set_option linter.unusedVariables false
section
variable {P : Program} {B : World} {Γ Δ : List HProp} {E esz : Nat} {s : Sl} {vs : List Value}
/-- append(s[:i:i], s[j:]...) -/
theorem s_cutApp {T U Tr i j : Nat} {k : Sl → K} (hij : i ≤ j) (hj : j ≤ s.n) (hn : s.n < 50000000) (hfl : ∀ v ∈ vs, flatV v = true)
    (h : ∀ s', s'.n = i + (s.n - j) → HG B (SlC E esz s' (vs.take (i * esz) ++ vs.drop (j * esz)) :: Δ) (k s')) [p : OwnS s Γ (SlC E esz s vs) Δ] (hT : appT P T U E esz = true := by kernel_rfl) :
    HG B Γ (Do P (Builtin.append_ #[T, U] Tr #[Sl.val ⟨cutA s.a 0 i esz, i - 0, i - 0⟩, Sl.val ⟨cutA s.a j s.c esz, s.n - j, s.c - j⟩]) Sl.val k) := by
  refine s_cap s fun h1 h2 h3 h4 => ?_
  obtain ⟨g1, g2, n, zv, g3, g4, g5, g6, g7, _⟩ := appT_spec hT
  rw [cut0 h3]
  simp only [Nat.sub_zero]
  refine fun w hw => ?_
  have hx : RdC w ⟨cutA s.a j s.c esz, s.n - j, s.c - j⟩ esz (vs.drop (j * esz)) := (own_rd (s := s) hw).1.drop hj h2 h3
  refine hg (k := fun w => RdC w ⟨cutA s.a j s.c esz, s.n - j, s.c - j⟩ esz (vs.drop (j * esz)) → Do P _ _ _ w) hw (s_shrink (s := s) (m := i) (c' := i) (by omega) (Nat.le_refl _) (by omega) fun w hw hx => ?_) hx
  refine r_append hw g1 g2 g3 g6 g7 hx (fun v hv => hfl v (List.mem_of_mem_drop hv)) ?_ g5 fun s' w' h' hn' _ => h s' hn' w' h'
  have h8 : (2 * (i + (s.n - j)) + 800) * n ≤ 200000800 * 1000 := Nat.mul_le_mul (by omega) g4
  simp only
  omega
end
end Go.Sep
/- A part of a block is written. Holds for every program. -/
namespace Go.Sep
open Go Go.RowKit
set_option linter.unusedSimpArgs false
set_option linter.unusedVariables false
section
variable {B : World} {Γ Δ : List HProp} {k : K}
theorem fold_lay (us l : List Value) (off : Nat) (h : off + us.length ≤ l.length) : (us.zipIdx off).foldl (fun (c : Array Value) q => c.setIfInBounds q.2 q.1) l.toArray = (l.take off ++ us ++ l.drop (off + us.length)).toArray := by
  apply Array.ext
  · rw [fold_size]
    simp; omega
  intro i h1 h2
  rw [fold_size] at h1
  simp only [List.size_toArray] at h1
  have e : ∀ (a b : Array Value) (ha : i < a.size) (hb : i < b.size), a[i]? = b[i]? → a[i] = b[i] := fun a b ha hb hab => by
    rw [Array.getElem?_eq_getElem ha, Array.getElem?_eq_getElem hb] at hab
    exact Option.some.inj hab
  have e2 : ∀ L : List Value, L.toArray[i]? = L[i]? := fun L => by simp
  apply e
  rw [e2 (l.take off ++ us ++ l.drop (off + us.length)), List.append_assoc, List.getElem?_append]
  split
  · rename_i h3
    simp only [List.length_take] at h3
    rw [fold_out _ _ _ _ (by omega), List.getElem?_take, if_pos (by omega), e2 l]
  · rename_i h3
    simp only [List.length_take] at h3 ⊢
    rw [show min off l.length = off by omega] at h3 ⊢
    rw [List.getElem?_append]
    split
    · rename_i h4
      have h5 := fold_in us off l.toArray (i - off) h4 (by simp only [List.size_toArray]; omega)
      rw [show off + (i - off) = i by omega] at h5
      exact h5
    · rename_i h4
      rw [fold_out _ _ _ _ (by omega), List.getElem?_drop, e2 l, show off + us.length + (i - off - us.length) = i by omega]
theorem s_stNP {a : Addr} {b off n : Nat} {l us : List Value} {T : TypeId} (l' : List Value) (h : HG B (blk b (.cells l'.toArray T (0, 0)) :: Δ) k) [ad : AdrIs a b off] [p : Own b Γ (blk b (.cells l.toArray T (0, 0))) Δ] (hn : us.length = n := by rfl) (ho : off + n ≤ l.length := by exact Nat.le_of_ble_eq_true rfl) (hl : l.take off ++ us ++ l.drop (off + n) = l' := by rfl)
    (hf : us.all flatV = true := by rfl) : HG B Γ (StN a n us.toArray k) := fun w hw => by
  subst hn
  subst hl
  have h1 := hw.perm p.perm
  have hb := h1.block
  rw [ad.h]
  refine ⟨_, rfl, by simp, fun i hi => ?_, by simpa using flat_all hf, h _ ?_⟩
  · simp only [List.size_toArray] at hi
    rw [add_mk]
    have hlt : off + i < l.toArray.size := by simp only [List.size_toArray]; omega
    exact ⟨⟨_, cell_block hb (Array.getElem?_eq_getElem hlt)⟩, frozen_block hb (by omega)⟩
  · rw [setCells_heap _ _ _ _ _ hb, Nat.add_zero]
    have := fold_lay us l off ho
    simp only at this ⊢
    rw [this]
    exact h1.setBlock rfl
end
end Go.Sep
/- Plain forms of functions, and that their code comes to them (package order). -/
namespace Go.Proofs.Yteolfpghafdmdaa
open Go Go.Sep
set_option linter.unusedVariables false
set_option linter.unusedSimpArgs false
set_option maxRecDepth 100000
set_option maxHeartbeats 4000000
attribute [local irreducible] G Gp Cx Tx Ex Sx Dx Ox Ax Lx Rx Fx Bx Bj Al Do Ld LdN St StN New CallF Ar DoU Rd Rd2 Pu Cd Ite Fv CallV CallY Ans0 Ans1 Ans2 Ans3 Ans4 Ans5 Ext Dead Dr WithS Sv LdS LdNS RdS Rd2S Nn Idx IdxA IdxS Fld Bld Slc SlcS Cat All LoopK RangeF RangeJ TakeD
namespace F_IROrder
instance at_36 : AT Try.prog 36 5 := ⟨by kernel_rfl⟩
instance at_63 : AT Try.prog 63 10 := ⟨by kernel_rfl⟩
instance cb_19 : CB Try.prog 19 := ⟨by kernel_rfl⟩
instance cb_34 : CB Try.prog 34 := ⟨by kernel_rfl⟩
instance ct_61 : CT Try.prog 61 := ⟨by kernel_rfl⟩
instance ft_63_1 : FT Try.prog 63 1 4 5 := ⟨by kernel_rfl⟩
instance ft_63_2 : FT Try.prog 63 2 9 1 := ⟨by kernel_rfl⟩
instance mx : MX Try.prog := ⟨mixed⟩
instance sz_36 : SZ Try.prog 36 5 := ⟨by kernel_rfl⟩
instance sz_61 : SZ Try.prog 61 1 := ⟨by kernel_rfl⟩
instance sz_63 : SZ Try.prog 63 10 := ⟨by kernel_rfl⟩
instance zt_63 : ZT Try.prog 63 (.agg #[(.int .i64 0), (.int .u64 0), (.int .u64 0), (.int .i64 0), (.int .i64 0), (Sl.val ⟨none, 0, 0⟩), (Sl.val ⟨none, 0, 0⟩), (Sl.val ⟨none, 0, 0⟩), (.int .i64 0), (Sl.val ⟨none, 0, 0⟩)]) := ⟨Try.t63, by kernel_rfl, by kernel_rfl⟩
end F_IROrder
def order_Copy (o0 : (Array Value)) (Q : (Array Value) → K) : K :=
  New 63 o0 fun o1 =>
  New 63 #[(.int .i64 0), (.int .u64 0), (.int .u64 0), (.int .i64 0), (.int .i64 0), (Sl.val ⟨none, 0, 0⟩), (Sl.val ⟨none, 0, 0⟩), (Sl.val ⟨none, 0, 0⟩), (.int .i64 0), (Sl.val ⟨none, 0, 0⟩)] fun t2 =>
  Dr <| WithS fun S =>
  LdNS S (o1.add 4) 5 fun t4 =>
  LdS S (o1.add 9) Sl.val fun t7 =>
  prog_Copy.call t4 fun t5 =>
  Sv S <|
  slices_Clone_s_api_Mark_api_Mark.call t7 fun t8 =>
  StN (o1.add 4) 5 t5 <|
  St (o1.add 9) (Sl.val t8) <|
  LdN o1 10 fun t11 =>
  StN t2 10 t11 <|
  LdN t2 10 fun r0 =>
  Q r0
theorem order_Copy_ok (o0 : (Array Value)) (Q : (Array Value) → K) (w : World) (h : order_Copy o0 Q w) : order_Copy.call o0 Q w := by
  have hD1 : DH 1 2 [5, 7, 9] (.s [0, 3, 1, 4] (.a [(2, 1, .s [6] (.a [(5, 0, .a [(7, 0, .s [8] (.a [(9, 0, .e)]))])]))])) := by intros; exact ⟨⟩
  exact g_walk 12 h Try.func21
end Go.Proofs.Yteolfpghafdmdaa
/- Plain forms of functions, and that their code comes to them (package front). -/
namespace Go.Proofs.Yteolfpghafdmdaa
open Go Go.Sep
set_option linter.unusedVariables false
set_option linter.unusedSimpArgs false
set_option maxRecDepth 100000
set_option maxHeartbeats 4000000
attribute [local irreducible] G Gp Cx Tx Ex Sx Dx Ox Ax Lx Rx Fx Bx Bj Al Do Ld LdN St StN New CallF Ar DoU Rd Rd2 Pu Cd Ite Fv CallV CallY Ans0 Ans1 Ans2 Ans3 Ans4 Ans5 Ext Dead Dr WithS Sv LdS LdNS RdS Rd2S Nn Idx IdxA IdxS Fld Bld Slc SlcS Cat All LoopK RangeF RangeJ TakeD
namespace F_IRFront
instance at_36 : AT Try.prog 36 5 := ⟨by kernel_rfl⟩
instance at_39 : AT Try.prog 39 3 := ⟨by kernel_rfl⟩
instance at_43 : AT Try.prog 43 4 := ⟨by kernel_rfl⟩
instance at_46 : AT Try.prog 46 2 := ⟨by kernel_rfl⟩
instance at_52 : AT Try.prog 52 5 := ⟨by kernel_rfl⟩
instance at_63 : AT Try.prog 63 10 := ⟨by kernel_rfl⟩
instance at_95 : AT Try.prog 95 2 := ⟨by kernel_rfl⟩
instance cb_18 : CB Try.prog 18 := ⟨by kernel_rfl⟩
instance cb_19 : CB Try.prog 19 := ⟨by kernel_rfl⟩
instance cb_20 : CB Try.prog 20 := ⟨by kernel_rfl⟩
instance cb_21 : CB Try.prog 21 := ⟨by kernel_rfl⟩
instance cb_22 : CB Try.prog 22 := ⟨by kernel_rfl⟩
instance cb_23 : CB Try.prog 23 := ⟨by kernel_rfl⟩
instance cb_24 : CB Try.prog 24 := ⟨by kernel_rfl⟩
instance cb_25 : CB Try.prog 25 := ⟨by kernel_rfl⟩
instance cb_35 : CB Try.prog 35 := ⟨by kernel_rfl⟩
instance cb_37 : CB Try.prog 37 := ⟨by kernel_rfl⟩
instance ct_27 : CT Try.prog 27 := ⟨by kernel_rfl⟩
instance ct_29 : CT Try.prog 29 := ⟨by kernel_rfl⟩
instance ct_3 : CT Try.prog 3 := ⟨by kernel_rfl⟩
instance ct_44 : CT Try.prog 44 := ⟨by kernel_rfl⟩
instance ct_67 : CT Try.prog 67 := ⟨by kernel_rfl⟩
instance ct_81 : CT Try.prog 81 := ⟨by kernel_rfl⟩
instance ct_85 : CT Try.prog 85 := ⟨by kernel_rfl⟩
instance ct_87 : CT Try.prog 87 := ⟨by kernel_rfl⟩
instance ft_43_0 : FT Try.prog 43 0 0 3 := ⟨by kernel_rfl⟩
instance ft_43_1 : FT Try.prog 43 1 3 1 := ⟨by kernel_rfl⟩
instance ft_46_0 : FT Try.prog 46 0 0 1 := ⟨by kernel_rfl⟩
instance ft_46_1 : FT Try.prog 46 1 1 1 := ⟨by kernel_rfl⟩
instance ft_48_0 : FT Try.prog 48 0 0 4 := ⟨by kernel_rfl⟩
instance ft_48_1 : FT Try.prog 48 1 4 2 := ⟨by kernel_rfl⟩
instance ft_69_0 : FT Try.prog 69 0 0 1 := ⟨by kernel_rfl⟩
instance ft_69_1 : FT Try.prog 69 1 1 1 := ⟨by kernel_rfl⟩
instance ft_69_2 : FT Try.prog 69 2 2 1 := ⟨by kernel_rfl⟩
instance ft_69_3 : FT Try.prog 69 3 3 1 := ⟨by kernel_rfl⟩
instance ft_69_4 : FT Try.prog 69 4 4 1 := ⟨by kernel_rfl⟩
instance ft_89_0 : FT Try.prog 89 0 0 4 := ⟨by kernel_rfl⟩
instance ft_89_1 : FT Try.prog 89 1 4 5 := ⟨by kernel_rfl⟩
instance ft_89_2 : FT Try.prog 89 2 9 1 := ⟨by kernel_rfl⟩
instance ft_95_1 : FT Try.prog 95 1 1 1 := ⟨by kernel_rfl⟩
instance mx : MX Try.prog := ⟨mixed⟩
instance pl_39 : PLT Try.prog 39 [(0, 1), (1, 1), (2, 1)] := ⟨_, Try.underlying39, by kernel_rfl⟩
instance pl_43 : PLT Try.prog 43 [(0, 3), (3, 1)] := ⟨_, Try.underlying43, by kernel_rfl⟩
instance pl_46 : PLT Try.prog 46 [(0, 1), (1, 1)] := ⟨_, Try.underlying46, by kernel_rfl⟩
instance pl_52 : PLT Try.prog 52 [(0, 3), (3, 2)] := ⟨_, Try.underlying52, by kernel_rfl⟩
instance pl_69 : PLT Try.prog 69 [(0, 1), (1, 1), (2, 1), (3, 1), (4, 1)] := ⟨_, Try.underlying69, by kernel_rfl⟩
instance pl_89 : PLT Try.prog 89 [(0, 4), (4, 5), (9, 1)] := ⟨_, Try.underlying89, by kernel_rfl⟩
instance sl_44 : SLT Try.prog 44 95 2 := ⟨by kernel_rfl⟩
instance sl_49 : SLT Try.prog 49 63 10 := ⟨by kernel_rfl⟩
instance sl_55 : SLT Try.prog 55 39 3 := ⟨by kernel_rfl⟩
instance sl_67 : SLT Try.prog 67 85 1 := ⟨by kernel_rfl⟩
instance sz_27 : SZ Try.prog 27 1 := ⟨by kernel_rfl⟩
instance sz_3 : SZ Try.prog 3 1 := ⟨by kernel_rfl⟩
instance sz_39 : SZ Try.prog 39 3 := ⟨by kernel_rfl⟩
instance sz_44 : SZ Try.prog 44 1 := ⟨by kernel_rfl⟩
instance sz_46 : SZ Try.prog 46 2 := ⟨by kernel_rfl⟩
instance sz_52 : SZ Try.prog 52 5 := ⟨by kernel_rfl⟩
instance sz_63 : SZ Try.prog 63 10 := ⟨by kernel_rfl⟩
instance sz_67 : SZ Try.prog 67 1 := ⟨by kernel_rfl⟩
instance sz_81 : SZ Try.prog 81 1 := ⟨by kernel_rfl⟩
instance sz_87 : SZ Try.prog 87 1 := ⟨by kernel_rfl⟩
instance sz_95 : SZ Try.prog 95 2 := ⟨by kernel_rfl⟩
instance un_87 : UN Try.prog 87 (.pointer 63) := ⟨Try.underlying87⟩
instance zt_39 : ZT Try.prog 39 (.agg #[(.int .i64 0), (.int .u64 0), (.int .u64 0)]) := ⟨Try.t39, by kernel_rfl, by kernel_rfl⟩
instance zt_43 : ZT Try.prog 43 (.agg #[(.int .i64 0), (.int .u64 0), (.int .u64 0), (.int .i64 0)]) := ⟨Try.t43, by kernel_rfl, by kernel_rfl⟩
instance zt_46 : ZT Try.prog 46 (.agg #[(.int .i64 0), (Sl.val ⟨none, 0, 0⟩)]) := ⟨Try.t46, by kernel_rfl, by kernel_rfl⟩
instance zt_52 : ZT Try.prog 52 (.agg #[(.int .i64 0), (.int .u64 0), (.int .u64 0), (.int .i64 0), (Sl.val ⟨none, 0, 0⟩)]) := ⟨Try.t52, by kernel_rfl, by kernel_rfl⟩
instance zt_63 : ZT Try.prog 63 (.agg #[(.int .i64 0), (.int .u64 0), (.int .u64 0), (.int .i64 0), (.int .i64 0), (Sl.val ⟨none, 0, 0⟩), (Sl.val ⟨none, 0, 0⟩), (Sl.val ⟨none, 0, 0⟩), (.int .i64 0), (Sl.val ⟨none, 0, 0⟩)]) := ⟨Try.t63, by kernel_rfl, by kernel_rfl⟩
instance zt_69 : ZT Try.prog 69 (.agg #[(.int .i64 0), (.int .u64 0), (.int .i64 0), (.int .u64 0), (Sl.val ⟨none, 0, 0⟩)]) := ⟨Try.t69, by kernel_rfl, by kernel_rfl⟩
instance zt_85 : ZT Try.prog 85 (.pointer none) := ⟨Try.t85, by kernel_rfl, by kernel_rfl⟩
instance zt_89 : ZT Try.prog 89 (.agg #[(.int .i64 0), (.int .u64 0), (.int .u64 0), (.int .i64 0), (.int .i64 0), (Sl.val ⟨none, 0, 0⟩), (Sl.val ⟨none, 0, 0⟩), (Sl.val ⟨none, 0, 0⟩), (.int .i64 0), (.pointer none)]) := ⟨Try.t89, by kernel_rfl, by kernel_rfl⟩
instance zt_95 : ZT Try.prog 95 (.agg #[(.bool false), (Sl.val ⟨none, 0, 0⟩)]) := ⟨Try.t95, by kernel_rfl, by kernel_rfl⟩
end F_IRFront
def front_New (node0 : Int) (epoch1 : Int) (regions2 : Int) (Q : (Option Addr) → K) : K :=
  New 69 #[(.int .i64 node0), (.int .u64 epoch1), (.int .i64 regions2), (.int .u64 0), (Sl.val ⟨none, 0, 0⟩)] fun t11 =>
  Q (some t11)
theorem front_New_ok (node0 : Int) (epoch1 : Int) (regions2 : Int) (Q : (Option Addr) → K) (w : World) (h : front_New node0 epoch1 regions2 Q w) : front_New.call node0 epoch1 regions2 Q w := by
  exact g_walk 12 h Try.func7
def front_Front_Submit (f0 : (Option Addr)) (t1 : (Array Value)) (Q : (Array Value) → Int → K) : K :=
  New 36 t1 fun t3 =>
  New 39 #[(.int .i64 0), (.int .u64 0), (.int .u64 0)] fun t4 =>
  Dr <|
  Nn f0 fun t10 =>
  LdN t3 5 fun t8 =>
  Ld (t10.add 2) (Value.int .i64) fun t12 =>
  prog_Check.call t8 t12 fun t13 =>
  Ite (decide (t13 ≠ 0))
    (StN t4 3 #[(.int .i64 0), (.int .u64 0), (.int .u64 0)] <|
    LdN t4 3 fun r0 =>
    Q r0 t13)
    (Ld (t10.add 4) Sl.val fun t21 =>
    Ite (decide ((64 : Int) ≤ (t21.n : Int)))
      (StN t4 3 #[(.int .i64 0), (.int .u64 0), (.int .u64 0)] <|
      LdN t4 3 fun r0 =>
      Q r0 2)
      (Ld (t10.add 3) (Value.int .u64) fun t28 =>
      Ar (IntKind.wrap .u64 (t28 + 1)) fun t29 =>
      St (t10.add 3) (.int .u64 t29) <|
      Dr <| WithS fun S =>
      LdS S t10 (Value.int .i64) fun t35 =>
      LdS S (t10.add 1) (Value.int .u64) fun t39 =>
      LdS S (t10.add 3) (Value.int .u64) fun t43 =>
      New 39 #[(.int .i64 0), (.int .u64 0), (.int .u64 0)] fun id7 =>
      Sv S <|
      StN id7 3 #[(.int .i64 t35), (.int .u64 t39), (.int .u64 t43)] <|
      Dr <| WithS fun S =>
      LdS S (t10.add 4) Sl.val fun t49 =>
      LdNS S id7 3 fun t50 =>
      Bld #[(.int .i64 0), (.int .u64 0), (.int .u64 0), (.int .i64 0)] ([(0, 3), (3, 1)][·]?) [(0, (.agg t50))] fun t51 =>
      LdNS S t3 5 fun t52 =>
      prog_Copy.call t52 fun t53 =>
      Sv S <|
      Bld #[(.int .i64 0), (.int .u64 0), (.int .u64 0), (.int .i64 0), (.int .i64 0), (Sl.val ⟨none, 0, 0⟩), (Sl.val ⟨none, 0, 0⟩), (Sl.val ⟨none, 0, 0⟩), (.int .i64 0), (.pointer none)] ([(0, 4), (4, 5), (9, 1)][·]?) [(0, (.agg t51)), (1, (.agg t53))] fun t54 =>
      New 89 t54 fun t55 =>
      Sv S <|
      New 85 #[(.pointer (some t55))] fun t56 =>
      Sv S <|
      Do Try.prog (Builtin.append_ #[67, 67] 67 #[(Sl.val t49), (Sl.val (Sl.mk (some t56) 1 1))]) Sl.val fun t57 =>
      St (t10.add 4) (Sl.val t57) <|
      LdN id7 3 fun t60 =>
      StN t4 3 t60 <|
      LdN t4 3 fun r0 =>
      Q r0 0))
theorem front_Front_Submit_ok (f0 : (Option Addr)) (t1 : (Array Value)) (Q : (Array Value) → Int → K) (w : World) (h : front_Front_Submit f0 t1 Q w) : front_Front_Submit.call f0 t1 Q w := by
  have hD8 : DH 8 2 [12, 15] (.s [0, 1, 2, 3, 4, 5, 6, 7] (.a [(8, 1, .s [9] (.a [(10, 1, .a [(11, 1, .a [(12, 0, .s [13, 14] (.a [(15, 0, .e)]))])])]))])) := by intros; exact ⟨⟩
  have hD7 : DH 7 2 [14] (.s [0, 1, 2, 4, 5, 6, 8, 9, 10, 3, 7, 11, 12] (.a [(13, 1, .a [(14, 0, .e)])])) := by intros; exact ⟨⟩
  have hD1 : DH 1 1 [5] (.s [1, 2, 3, 0, 4] (.a [(5, 0, .s [6] .e)])) := by intros; exact ⟨⟩
  exact g_walk 61 h Try.func10
def front_Front_Orders.s2 (Q : Sl → K) (X1 : Sl → Int → K) (s1_2 : (Option Addr)) (out4_2 : Sl) (e6_2 : (Option Addr)) (t11_2 : Sl) (t12_2 : Int) (t13_2 : Int) : K :=
  Nn e6_2 fun t37 =>
  Ld (t37.add 9) Value.pointer fun t39 =>
  Nn t39 fun t40 =>
  LdN t40 10 fun t41 =>
  order_Copy.call t41 fun t42 =>
  Bld #[(.int .i64 0), (.int .u64 0), (.int .u64 0), (.int .i64 0), (.int .i64 0), (Sl.val ⟨none, 0, 0⟩), (Sl.val ⟨none, 0, 0⟩), (Sl.val ⟨none, 0, 0⟩), (.int .i64 0), (Sl.val ⟨none, 0, 0⟩)] (fun i => some (i * 10, 10)) [(0, (.agg t42))] fun ct43 =>
  New 63 ct43 fun t43 =>
  Do Try.prog (Builtin.append_ #[49, 49] 49 #[(Sl.val out4_2), (Sl.val (Sl.mk (some t43) 1 1))]) Sl.val fun t44 =>
  Ar (IntKind.wrap .i64 (t13_2 + 1)) fun t45 =>
  X1 t44 t45
def front_Front_Orders.s3 (Q : Sl → K) (X1 : Sl → Int → K) (s1_3 : (Option Addr)) (out4_3 : Sl) (e6_3 : Addr) (o7_3 : Addr) (t11_3 : Sl) (t12_3 : Int) (t13_3 : Int) : K :=
  St (e6_3.add 9) (.pointer (some o7_3)) <|
  front_Front_Orders.s2 Q X1 s1_3 out4_3 (some e6_3) t11_3 t12_3 t13_3
def front_Front_Orders.b1 (Q : Sl → K)  (X1 : Sl → Int → K) (s1_1 : (Option Addr)) (t11_1 : Sl) (t12_1 : Int) (out4_1 : Sl) (t13_1 : Int) : K :=
  Ite (decide (t13_1 < t12_1))
    (Idx t11_1 t13_1 1 fun t15 =>
    Ld t15 Value.pointer fun t16 =>
    Nn t16 fun t18 =>
    Ld (t18.add 9) Value.pointer fun t20 =>
    Ite ((t20).isNone)
      (Dr <| WithS fun S =>
      LdNS S t18 4 fun t26 =>
      LdNS S (t18.add 4) 5 fun t30 =>
      All [
        (sched_Sched_Make.call s1_1 t26 t30 fun t31 =>
        New 63 #[(.int .i64 0), (.int .u64 0), (.int .u64 0), (.int .i64 0), (.int .i64 0), (Sl.val ⟨none, 0, 0⟩), (Sl.val ⟨none, 0, 0⟩), (Sl.val ⟨none, 0, 0⟩), (.int .i64 0), (Sl.val ⟨none, 0, 0⟩)] fun o7 =>
        StN o7 10 t31 <|
        front_Front_Orders.s3 Q X1 s1_1 out4_1 t18 o7 t11_1 t12_1 t13_1),
        (New 63 #[(.int .i64 0), (.int .u64 0), (.int .u64 0), (.int .i64 0), (.int .i64 0), (Sl.val ⟨none, 0, 0⟩), (Sl.val ⟨none, 0, 0⟩), (Sl.val ⟨none, 0, 0⟩), (.int .i64 0), (Sl.val ⟨none, 0, 0⟩)] fun o7 =>
        Sv S <|
        sched_Sched_Make.call s1_1 t26 t30 fun t31 =>
        StN o7 10 t31 <|
        front_Front_Orders.s3 Q X1 s1_1 out4_1 t18 o7 t11_1 t12_1 t13_1)
        ])
      (front_Front_Orders.s2 Q X1 s1_1 out4_1 (some t18) t11_1 t12_1 t13_1))
    (Q out4_1)
def front_Front_Orders (f0 : (Option Addr)) (s1 : (Option Addr)) (Q : Sl → K) : K :=
  Nn f0 fun t9 =>
  Ld (t9.add 4) Sl.val fun t11 =>
  LoopK (α := Sl × Int) (fun X x => front_Front_Orders.b1 Q (fun out4_1 t13_1 => X (out4_1, t13_1)) s1 t11 (t11.n : Int) x.1 x.2) ((Sl.mk none 0 0), 0)
theorem front_Front_Orders_ok (f0 : (Option Addr)) (s1 : (Option Addr)) (Q : Sl → K) (w : World) (h : front_Front_Orders f0 s1 Q w) : front_Front_Orders.call f0 s1 Q w := by
  have hJ7 : ∀ (X1 : (Sl × Int) → K), XH 2 X1 → JH 7 fun D => ∃ (s1_2 : (Option Addr)) (out4_2 : Sl) (e6_2 : (Option Addr)) (t11_2 : Sl) (t12_2 : Int) (t13_2 : Int), D [(1, (.pointer s1_2)), (4, (Sl.val out4_2)), (6, (.pointer e6_2)), (11, (Sl.val t11_2)), (12, (.int .i64 t12_2)), (13, (.int .i64 t13_2))] (fun C => C [(1, (.pointer s1_2)), (4, (Sl.val out4_2)), (6, (.pointer e6_2)), (11, (Sl.val t11_2)), (12, (.int .i64 t12_2)), (13, (.int .i64 t13_2))] (front_Front_Orders.s2 Q (fun out4_1 t13_1 => X1 (out4_1, t13_1)) s1_2 out4_2 e6_2 t11_2 t12_2 t13_2)) := by intros; exact ⟨fun _ ⟨_, _, _, _, _, _, h⟩ => ⟨_, _, h⟩⟩
  have hJ6 : ∀ (X1 : (Sl × Int) → K), XH 2 X1 → JH 6 fun D => ∃ (s1_3 : (Option Addr)) (out4_3 : Sl) (e6_3 : Addr) (t11_3 : Sl) (t12_3 : Int) (t13_3 : Int), D [(1, (.pointer s1_3)), (4, (Sl.val out4_3)), (6, (.pointer (some e6_3))), (11, (Sl.val t11_3)), (12, (.int .i64 t12_3)), (13, (.int .i64 t13_3))] (fun C => ∀ (o7_3 : Addr), C [(1, (.pointer s1_3)), (4, (Sl.val out4_3)), (6, (.pointer (some e6_3))), (7, (.pointer (some o7_3))), (11, (Sl.val t11_3)), (12, (.int .i64 t12_3)), (13, (.int .i64 t13_3))] (front_Front_Orders.s3 Q (fun out4_1 t13_1 => X1 (out4_1, t13_1)) s1_3 out4_3 e6_3 o7_3 t11_3 t12_3 t13_3)) := by intros; exact ⟨fun _ ⟨_, _, _, _, _, _, h⟩ => ⟨_, _, h⟩⟩
  have hD5 : DH 5 2 [9, 11] (.s [0, 1, 2, 3, 5, 6, 7, 4, 8] (.a [(9, 0, .a [(10, 0, .a [(11, 0, .e)])]), (10, 1, .a [(9, 0, .a [(11, 0, .e)])])])) := by intros; exact ⟨⟩
  have hL2 : ∀ (s1_1 : (Option Addr)) (t11_1 : Sl) (t12_1 : Int), LH 2 (fun x : Sl × Int => [(1, (.pointer s1_1)), (4, (Sl.val x.1)), (11, (Sl.val t11_1)), (12, (.int .i64 t12_1)), (13, (.int .i64 x.2))]) (fun X x => front_Front_Orders.b1 Q (fun out4_1 t13_1 => X (out4_1, t13_1)) s1_1 t11_1 t12_1 x.1 x.2) := by intros; exact ⟨⟩
  exact g_walk 47 h Try.func11
def front_Front_Decide.b2 (Q : (Array Value) → Bool → K)  (X2 : Int → K) (f0_2 : Addr) (t4_2 : Addr) (at6_2 : Int) (r8_2 : Addr) (t62_2 : Sl) (t63_2 : Int) (t64_2 : Int) : K :=
  Ite (decide (t64_2 < t63_2))
    (Idx t62_2 t64_2 2 fun t67 =>
    LdN t67 2 fun t68 =>
    New 95 #[(.bool false), (Sl.val ⟨none, 0, 0⟩)] fun o10 =>
    StN o10 2 t68 <|
    Dr <| WithS fun S =>
    LdS S (r8_2.add 1) Sl.val fun t70 =>
    LdS S (o10.add 1) Sl.val fun t73 =>
    bytes_Clone.call t73 fun t74 =>
    Sv S <|
    Idx t70 t64_2 2 fun t75 =>
    St (t75.add 1) (Sl.val t74) <|
    Ar (IntKind.wrap .i64 (t64_2 + 1)) fun t77 =>
    X2 t77)
    (LdN r8_2 2 fun t80 =>
    front_Front_answer.call (some f0_2) at6_2 t80 fun t81x0 t81x1 =>
    StN t4_2 5 t81x0 <|
    LdN t4_2 5 fun r0 =>
    Q r0 t81x1)
def front_Front_Decide.s1 (Q : (Array Value) → Bool → K)  (f0_1 : Addr) (t4_1 : Addr) (at6_1 : Int) (r8_1 : Addr) : K :=
  Ld (r8_1.add 1) Sl.val fun t58 =>
  slices_Clone_s_api_Out_api_Out.call t58 fun t59 =>
  St (r8_1.add 1) (Sl.val t59) <|
  Ld (r8_1.add 1) Sl.val fun t62 =>
  LoopK (α := Int) (fun X x => front_Front_Decide.b2 Q X f0_1 t4_1 at6_1 r8_1 t62 (t62.n : Int) x) 0
def front_Front_Decide.s3 (Q : (Array Value) → Bool → K)  (f0_3 : Addr) (t4_3 : Addr) (at6_3 : Int) (e7_3 : (Option Addr)) (r8_3 : Addr) (t27_3 : Bool) : K :=
  Ite t27_3
    (Nn e7_3 fun t40 =>
    Ld (t40.add 3) (Value.int .i64) fun t43 =>
    Ar (IntKind.wrap .i64 (t43 + 1)) fun t44 =>
    St (t40.add 3) (.int .i64 t44) <|
    St (t40.add 9) (.pointer none) <|
    StN t4_3 5 #[(.int .i64 0), (.int .u64 0), (.int .u64 0), (.int .i64 0), (Sl.val ⟨none, 0, 0⟩)] <|
    LdN t4_3 5 fun r0 =>
    Q r0 false)
    (Ld r8_3 (Value.int .i64) fun t54 =>
    Ite (decide (t54 = 112))
      (StN r8_3 2 #[(.int .i64 141), (Sl.val ⟨none, 0, 0⟩)] <|
      front_Front_Decide.s1 Q f0_3 t4_3 at6_3 r8_3)
      (front_Front_Decide.s1 Q f0_3 t4_3 at6_3 r8_3))
def front_Front_Decide (f0 : (Option Addr)) (d1 : (Array Value)) (Q : (Array Value) → Bool → K) : K :=
  New 48 d1 fun d3 =>
  New 52 #[(.int .i64 0), (.int .u64 0), (.int .u64 0), (.int .i64 0), (Sl.val ⟨none, 0, 0⟩)] fun t4 =>
  LdN d3 4 fun t13 =>
  front_Front_find.call f0 t13 fun t14 =>
  Ite (decide (t14 < 0))
    (StN t4 5 #[(.int .i64 0), (.int .u64 0), (.int .u64 0), (.int .i64 0), (Sl.val ⟨none, 0, 0⟩)] <|
    LdN t4 5 fun r0 =>
    Q r0 false)
    (Dr <| WithS fun S =>
    Nn f0 fun t19 =>
    LdS S (t19.add 4) Sl.val fun t21 =>
    Idx t21 t14 1 fun t23 =>
    LdS S t23 Value.pointer fun t24 =>
    LdNS S (d3.add 4) 2 fun t26 =>
    New 46 #[(.int .i64 0), (Sl.val ⟨none, 0, 0⟩)] fun r8 =>
    Sv S <|
    StN r8 2 t26 <|
    Ld r8 (Value.int .i64) fun t29 =>
    Ite (decide (t29 = 112))
      (Nn t24 fun t33 =>
      Ld (t33.add 3) (Value.int .i64) fun t36 =>
      front_Front_Decide.s3 Q t19 t4 t14 (some t33) r8 (decide (t36 < 2)))
      (front_Front_Decide.s3 Q t19 t4 t14 t24 r8 false))
theorem front_Front_Decide_ok (f0 : (Option Addr)) (d1 : (Array Value)) (Q : (Array Value) → Bool → K) (w : World) (h : front_Front_Decide f0 d1 Q w) : front_Front_Decide.call f0 d1 Q w := by
  have hD15 : DH 15 2 [8] (.s [0, 2, 3, 1, 4] (.a [(5, 1, .s [6, 7] (.a [(8, 0, .e)]))])) := by intros; exact ⟨⟩
  have hL13 : ∀ (f0_2 : Addr) (t4_2 : Addr) (at6_2 : Int) (r8_2 : Addr) (t62_2 : Sl) (t63_2 : Int), LH 13 (fun x : Int => [(0, (.pointer (some f0_2))), (4, (.pointer (some t4_2))), (6, (.int .i64 at6_2)), (8, (.pointer (some r8_2))), (62, (Sl.val t62_2)), (63, (.int .i64 t63_2)), (64, (.int .i64 x))]) (fun X x => front_Front_Decide.b2 Q X f0_2 t4_2 at6_2 r8_2 t62_2 t63_2 x) := by intros; exact ⟨⟩
  have hJ11 : JH 11 fun D => ∃ (f0_1 : Addr) (t4_1 : Addr) (at6_1 : Int) (r8_1 : Addr), D [(0, (.pointer (some f0_1))), (4, (.pointer (some t4_1))), (6, (.int .i64 at6_1)), (8, (.pointer (some r8_1)))] (fun C => C [(0, (.pointer (some f0_1))), (4, (.pointer (some t4_1))), (6, (.int .i64 at6_1)), (8, (.pointer (some r8_1)))] (front_Front_Decide.s1 Q f0_1 t4_1 at6_1 r8_1)) := by intros; exact ⟨fun _ ⟨_, _, _, _, h⟩ => ⟨_, _, h⟩⟩
  have hJ6 : JH 6 fun D => ∃ (f0_3 : Addr) (t4_3 : Addr) (at6_3 : Int) (e7_3 : (Option Addr)) (r8_3 : Addr), D [(0, (.pointer (some f0_3))), (4, (.pointer (some t4_3))), (6, (.int .i64 at6_3)), (7, (.pointer e7_3)), (8, (.pointer (some r8_3)))] (fun C => ∀ (t27_3 : Bool), C [(0, (.pointer (some f0_3))), (4, (.pointer (some t4_3))), (6, (.int .i64 at6_3)), (7, (.pointer e7_3)), (8, (.pointer (some r8_3))), (27, (.bool t27_3))] (front_Front_Decide.s3 Q f0_3 t4_3 at6_3 e7_3 r8_3 t27_3)) := by intros; exact ⟨fun _ ⟨_, _, _, _, _, h⟩ => ⟨_, _, h⟩⟩
  have hD4 : DH 4 2 [11] (.s [0, 1, 2, 4, 7, 3, 5, 6, 8] (.a [(9, 1, .s [10] (.a [(11, 0, .e)]))])) := by intros; exact ⟨⟩
  exact g_walk 84 h Try.func12
def front_Front_Open.b1 (Q : Sl → K)  (X1 : Sl → Int → K) (t8_1 : Sl) (t9_1 : Int) (out2_1 : Sl) (t10_1 : Int) : K :=
  Ite (decide (t10_1 < t9_1))
    (Idx t8_1 t10_1 1 fun t12 =>
    Ld t12 Value.pointer fun t13 =>
    Nn t13 fun t16 =>
    LdN t16 3 fun t19 =>
    Bld #[(.int .i64 0), (.int .u64 0), (.int .u64 0)] (fun i => some (i * 3, 3)) [(0, (.agg t19))] fun ct20 =>
    New 39 ct20 fun t20 =>
    Do Try.prog (Builtin.append_ #[55, 55] 55 #[(Sl.val out2_1), (Sl.val (Sl.mk (some t20) 1 1))]) Sl.val fun t21 =>
    Ar (IntKind.wrap .i64 (t10_1 + 1)) fun t22 =>
    X1 t21 t22)
    (Q out2_1)
def front_Front_Open (f0 : (Option Addr)) (Q : Sl → K) : K :=
  Nn f0 fun t6 =>
  Ld (t6.add 4) Sl.val fun t8 =>
  LoopK (α := Sl × Int) (fun X x => front_Front_Open.b1 Q (fun out2_1 t10_1 => X (out2_1, t10_1)) t8 (t8.n : Int) x.1 x.2) ((Sl.mk none 0 0), 0)
theorem front_Front_Open_ok (f0 : (Option Addr)) (Q : Sl → K) (w : World) (h : front_Front_Open f0 Q w) : front_Front_Open.call f0 Q w := by
  have hL2 : ∀ (t8_1 : Sl) (t9_1 : Int), LH 2 (fun x : Sl × Int => [(2, (Sl.val x.1)), (8, (Sl.val t8_1)), (9, (.int .i64 t9_1)), (10, (.int .i64 x.2))]) (fun X x => front_Front_Open.b1 Q (fun out2_1 t10_1 => X (out2_1, t10_1)) t8_1 t9_1 x.1 x.2) := by intros; exact ⟨⟩
  exact g_walk 24 h Try.func13
def front_Front_Full (f0 : (Option Addr)) (tag1 : (Array Value)) (Q : (Array Value) → Bool → K) : K :=
  New 43 tag1 fun tag3 =>
  New 52 #[(.int .i64 0), (.int .u64 0), (.int .u64 0), (.int .i64 0), (Sl.val ⟨none, 0, 0⟩)] fun t4 =>
  LdN tag3 4 fun t8 =>
  front_Front_find.call f0 t8 fun t9 =>
  Ite (decide (t9 < 0))
    (StN t4 5 #[(.int .i64 0), (.int .u64 0), (.int .u64 0), (.int .i64 0), (Sl.val ⟨none, 0, 0⟩)] <|
    LdN t4 5 fun r0 =>
    Q r0 false)
    (front_Front_answer.call f0 t9 #[(.int .i64 140), (Sl.val ⟨none, 0, 0⟩)] fun t16x0 t16x1 =>
    StN t4 5 t16x0 <|
    LdN t4 5 fun r0 =>
    Q r0 t16x1)
theorem front_Front_Full_ok (f0 : (Option Addr)) (tag1 : (Array Value)) (Q : (Array Value) → Bool → K) (w : World) (h : front_Front_Full f0 tag1 Q w) : front_Front_Full.call f0 tag1 Q w := by
  exact g_walk 19 h Try.func14
def front_Front_find (f0 : (Option Addr)) (tag1 : (Array Value)) (Q : Int → K) : K :=
  New 43 tag1 fun tag3 =>
  Nn f0 fun t6 =>
  Ld (t6.add 4) Sl.val fun t8 =>
  slices_IndexFunc_s_front_entry_front_entry.call t8 (.func (.func 36) #[] #[(.pointer (some tag3))]) fun t10 =>
  Q t10
theorem front_Front_find_ok (f0 : (Option Addr)) (tag1 : (Array Value)) (Q : Int → K) (w : World) (h : front_Front_find f0 tag1 Q w) : front_Front_find.call f0 tag1 Q w := by
  exact g_walk 11 h Try.func22
def front_Front_answer (f0 : (Option Addr)) (at1 : Int) (r2 : (Array Value)) (Q : (Array Value) → Bool → K) : K :=
  New 46 r2 fun r5 =>
  New 52 #[(.int .i64 0), (.int .u64 0), (.int .u64 0), (.int .i64 0), (Sl.val ⟨none, 0, 0⟩)] fun t6 =>
  Nn f0 fun t10 =>
  Ld (t10.add 4) Sl.val fun t12 =>
  Idx t12 at1 1 fun t14 =>
  Ld t14 Value.pointer fun t15 =>
  Nn t15 fun t16 =>
  LdN t16 3 fun t19 =>
  New 39 #[(.int .i64 0), (.int .u64 0), (.int .u64 0)] fun id8 =>
  StN id8 3 t19 <|
  Ld (t10.add 4) Sl.val fun t24 =>
  Ar (IntKind.wrap .i64 (at1 + 1)) fun t27 =>
  slices_Delete_s_front_entry_front_entry.call t24 at1 t27 fun t28 =>
  St (t10.add 4) (Sl.val t28) <|
  LdN id8 3 fun t31 =>
  LdN r5 2 fun t32 =>
  Bld #[(.int .i64 0), (.int .u64 0), (.int .u64 0), (.int .i64 0), (Sl.val ⟨none, 0, 0⟩)] ([(0, 3), (3, 2)][·]?) [(0, (.agg t31)), (1, (.agg t32))] fun t33 =>
  StN t6 5 t33 <|
  LdN t6 5 fun r0 =>
  Q r0 true
theorem front_Front_answer_ok (f0 : (Option Addr)) (at1 : Int) (r2 : (Array Value)) (Q : (Array Value) → Bool → K) (w : World) (h : front_Front_answer f0 at1 r2 Q w) : front_Front_answer.call f0 at1 r2 Q w := by
  exact g_walk 34 h Try.func25
def front_Front_find_1.s1 (Q : Bool → K)  (t3_1 : Bool) : K :=
  Q t3_1
def front_Front_find_1 (e0 : (Option Addr)) (t1 : Addr) (Q : Bool → K) : K :=
  Dr <|
  Nn e0 fun t5 =>
  LdN t5 4 fun t7 =>
  LdN t1 4 fun t8 =>
  Pu Try.prog (do eqGuard .eql 43 (.tmp 7) (.tmp 8) (.agg t7) (.agg t8); binOp .eql 43 (.agg t7) (.agg t8) : Sem Value) Value.bool fun t9 =>
  Ite t9
    (Ld (t5.add 9) Value.pointer fun t14 =>
    front_Front_find_1.s1 Q (!(t14).isNone))
    (front_Front_find_1.s1 Q false)
theorem front_Front_find_1_ok (e0 : (Option Addr)) (t1 : Addr) (Q : Bool → K) (w : World) (h : front_Front_find_1 e0 t1 Q w) : front_Front_find_1.call e0 t1 Q w := by
  have hJ1000001 : JH 1000001 fun D => D [] (fun C => ∀ (t3_1 : Bool), C [(3, (.bool t3_1))] (front_Front_find_1.s1 Q t3_1)) := by intros; exact ⟨fun _ h => ⟨_, _, h⟩⟩
  exact g_walk 17 h Try.func36
end Go.Proofs.Yteolfpghafdmdaa
/- front: New, Submit, Orders, Decide, Full, Open. -/
namespace Go.Proofs.Yteolfpghafdmdaa
open Go Go.Sep Go.Sep.Bt
set_option linter.unusedSimpArgs false
set_option linter.unusedVariables false
set_option maxRecDepth 100000

structure OrdX where
  b : Nat
  t : TxX
  ms : Sl
  mks : List MkX
structure EntX where
  b : Nat
  tag : TagM
  tx : TxX
  ord : Option OrdX
abbrev ordL (g : TagM) (o : OrdX) : List Value := [.int .i64 g.node, .int .u64 g.epoch, .int .u64 g.seq, .int .i64 g.tr, .int .i64 o.t.kind, o.t.rs.val, o.t.ws.val, o.t.os.val, .int .i64 o.t.to, o.ms.val]
abbrev ptrO : Option OrdX → Option Addr
  | none => none
  | some o => some ⟨o.b, 0, none⟩
abbrev entL (e : EntX) : List Value := [.int .i64 e.tag.node, .int .u64 e.tag.epoch, .int .u64 e.tag.seq, .int .i64 e.tag.tr, .int .i64 e.tx.kind, e.tx.rs.val, e.tx.ws.val, e.tx.os.val, .int .i64 e.tx.to, .pointer (ptrO e.ord)]
abbrev ptrE (e : EntX) : Option Addr := some ⟨e.b, 0, none⟩
def txO (t : TxX) : HProp := Sep.stars (txC t [])
def ordO (g : TagM) : Option OrdX → HProp
  | none => Sep.stars []
  | some o => Sep.stars (blk o.b (.cells (ordL g o).toArray ty_api_Order (0, 0)) :: SlC ty_api_Mark 3 o.ms (o.mks.flatMap mkL) :: txC o.t [])
def entO (e : EntX) : HProp := Sep.stars [blk e.b (.cells (entL e).toArray ty_front_entry (0, 0)), txO e.tx, ordO e.tag e.ord]
def EntOk (g : Int) (e : EntX) : Prop := rightT g e.tx = true ∧ ∀ o, e.ord = some o → TxIs o.t e.tx ∧ o.mks.length ≤ 1000
abbrev frL (nd ep rg ct : Int) (s : Sl) : List Value := [.int .i64 nd, .int .u64 ep, .int .i64 rg, .int .u64 ct, s.val]
def FrontR (f : Nat) (nd ep rg ct : Int) (E : List EntX) : HProp := ex fun s : Sl => Sep.stars [pur (∀ e ∈ E, EntOk rg e), blk f (.cells (frL nd ep rg ct s).toArray ty_front_Front (0, 0)), SlC ty_p_front_entry 1 s ((E.map ptrE).map Value.pointer), Sep.stars (E.map entO)]
/-- A transaction that is right is small. -/
theorem right_small {g : Int} {t : TxX} (h : rightT g t = true) : t.reads.length ≤ 8 ∧ t.writes.length ≤ 8 ∧ t.ops.length ≤ 16 ∧ (∀ x ∈ t.reads ++ t.writes, x.length ≤ 16) ∧ ∀ x ∈ t.ops, x.1.val.length ≤ 32 := by
  unfold rightT at h
  split at h
  · cases h
  rename_i h1
  split at h
  · cases h
  rename_i h2
  simp only [headBad, not_or, Nat.not_lt] at h1
  have hk : ∀ x ∈ t.reads ++ t.writes, x.length ≤ 16 := fun x hx => Nat.le_of_not_lt fun hl => h2 (.inl ⟨x, hx, .inr hl⟩)
  split at h
  · simp only [Bool.and_eq_true, decide_eq_true_eq] at h
    have h0 : t.ops = [] := List.length_eq_zero_iff.1 h.2.1
    exact ⟨h1.2.2.2.2.1, h1.2.2.2.2.2.1, by rw [h0]; simp, hk, by rw [h0]; simp⟩
  · split at h
    · cases h
    rename_i h3
    simp only [not_or, Nat.not_lt] at h3
    refine ⟨h1.2.2.2.2.1, h1.2.2.2.2.2.1, h3.2.2, hk, fun x hx => ?_⟩
    have := List.all_eq_true.1 h x hx
    unfold opRight at this
    split at this
    · cases this
    · rename_i h4
      simp only [not_or, Nat.not_lt] at h4
      exact h4.1
theorem right_kind {g : Int} {t : TxX} (h : rightT g t = true) : True := trivial
/-- An entry has been told. -/
def Told (n : Nat) (M : Recs) (e e' : EntX) : Prop := e'.b = e.b ∧ e'.tag = e.tag ∧ e'.tx = e.tx ∧ ∃ o, e'.ord = some o ∧ TxIs o.t e.tx ∧ (e.ord = none → o.mks = mksOf n M (keysT (e.tx.reads ++ e.tx.writes))) ∧ ∀ o0, e.ord = some o0 → o = o0
abbrev OutX := TagM × OrdX
abbrev outL (x : OutX) : List Value := ordL x.1 x.2
theorem outL_len (x : OutX) : (outL x).length = 10 := rfl
def outO (x : OutX) : HProp := Sep.stars (SlC ty_api_Mark 3 x.2.ms (x.2.mks.flatMap mkL) :: txC x.2.t [])
def OutIs (e : EntX) (x : OutX) : Prop := x.1 = e.tag ∧ TxIs x.2.t e.tx ∧ ∃ o, e.ord = some o ∧ x.2.mks = o.mks
def isTry (g : TagM) (e : EntX) : Bool := decide (e.tag = g) && e.ord.isSome
section
variable {B : World} {Γ Δ : List HProp} {k : K} {f sd st n : Nat} {M : Recs} {nd ep rg ct : Int} {E : List EntX}
theorem s_front (h : ∀ s, (∀ e ∈ E, EntOk rg e) → HG B (blk f (.cells (frL nd ep rg ct s).toArray ty_front_Front (0, 0)) :: SlC ty_p_front_entry 1 s ((E.map ptrE).map Value.pointer) :: Sep.stars (E.map entO) :: Γ) k) : HG B (FrontR f nd ep rg ct E :: Γ) k :=
  s_ex fun s => s_flat <| s_pur fun h1 => h s h1
theorem s_mkFront {s : Sl} (h1 : ∀ e ∈ E, EntOk rg e) (h : HG B (FrontR f nd ep rg ct E :: Γ) k) : HG B (blk f (.cells (frL nd ep rg ct s).toArray ty_front_Front (0, 0)) :: SlC ty_p_front_entry 1 s ((E.map ptrE).map Value.pointer) :: Sep.stars (E.map entO) :: Γ) k := fun w hw => by
  refine h w ?_
  have h3 : Holds B (Sep.stars [pur (∀ e ∈ E, EntOk rg e), blk f (.cells (frL nd ep rg ct s).toArray ty_front_Front (0, 0)), SlC ty_p_front_entry 1 s ((E.map ptrE).map Value.pointer), Sep.stars (E.map entO)] :: Γ) w := Holds.flat.2 (Holds.pur.2 ⟨h1, hw⟩)
  exact h3.imp fun g hg => ⟨s, hg⟩
instance (priority := high) own_front : Sep.Own f (FrontR f nd ep rg ct E :: Γ) (FrontR f nd ep rg ct E) Γ := ⟨.refl _⟩
theorem s_tx {t : TxX} (h : HG B (txC t Γ) k) : HG B (txO t :: Γ) k := s_flat h
theorem s_mkTx {t : TxX} (h : HG B (txO t :: Γ) k) : HG B (txC t Γ) k := fun w hw => h w ((Holds.flat (Δ := txC t [])).2 hw)
theorem txO_rd {t : TxX} {w : World} (h : Holds B (txO t :: Γ) w) : txRd w t := txC_rd ((Holds.flat (Δ := txC t [])).1 h)
theorem s_ent {e : EntX} (h : HG B (blk e.b (.cells (entL e).toArray ty_front_entry (0, 0)) :: txO e.tx :: ordO e.tag e.ord :: Γ) k) : HG B (entO e :: Γ) k := s_flat h
theorem s_mkEnt {e : EntX} (h : HG B (entO e :: Γ) k) : HG B (blk e.b (.cells (entL e).toArray ty_front_entry (0, 0)) :: txO e.tx :: ordO e.tag e.ord :: Γ) k := fun w hw => h w ((Holds.flat (Δ := [blk e.b (.cells (entL e).toArray ty_front_entry (0, 0)), txO e.tx, ordO e.tag e.ord])).2 hw)
theorem s_ordS {g : TagM} {o : OrdX} (h : HG B (blk o.b (.cells (ordL g o).toArray ty_api_Order (0, 0)) :: SlC ty_api_Mark 3 o.ms (o.mks.flatMap mkL) :: txC o.t Γ) k) : HG B (ordO g (some o) :: Γ) k := s_flat h
theorem s_mkOrdS {g : TagM} {o : OrdX} (h : HG B (ordO g (some o) :: Γ) k) : HG B (blk o.b (.cells (ordL g o).toArray ty_api_Order (0, 0)) :: SlC ty_api_Mark 3 o.ms (o.mks.flatMap mkL) :: txC o.t Γ) k := fun w hw => h w ((Holds.flat (Δ := blk o.b (.cells (ordL g o).toArray ty_api_Order (0, 0)) :: SlC ty_api_Mark 3 o.ms (o.mks.flatMap mkL) :: txC o.t [])).2 hw)
theorem s_ordN {g : TagM} (h : HG B (ordO g none :: Γ) k) : HG B Γ k := fun w hw => h w hw.starsNil
theorem s_mkOut {x : OutX} (h : HG B (outO x :: Γ) k) : HG B (SlC ty_api_Mark 3 x.2.ms (x.2.mks.flatMap mkL) :: txC x.2.t Γ) k := fun w hw => h w ((Holds.flat (Δ := SlC ty_api_Mark 3 x.2.ms (x.2.mks.flatMap mkL) :: txC x.2.t [])).2 hw)
theorem s_snoc {α : Type} {F : α → HProp} {A : List α} {x : α} (h : HG B (Sep.stars ((A ++ [x]).map F) :: Γ) k) : HG B (F x :: Sep.stars (A.map F) :: Γ) k := by
  have := s_unmid (F := F) (A := A) (C := []) (x := x) h
  rwa [List.append_nil] at this
theorem frontNew_hg {Q : Option Addr → K} (h : ∀ f, HG B (FrontR f nd ep rg 0 [] :: Γ) (Q (some ⟨f, 0, none⟩))) : HG B Γ (front_New.call nd ep rg Q) := fun w hw => by
  refine front_New_ok _ _ _ _ _ ?_
  refine hg hw ?_
  clear hw w
  unfold front_New
  refine s_new fun f => ?_
  refine fun w hw => hg (show Holds B (Sep.stars (([] : List EntX).map entO) :: _) w from hw.starsNil) ?_
  clear hw w
  refine fun w hw => hg (show Holds B (SlC ty_p_front_entry 1 ⟨none, 0, 0⟩ ((([] : List EntX).map ptrE).map Value.pointer) :: _) w from hw.nilSl _ _) ?_
  clear hw w
  refine s_pick (Sep.stars (([] : List EntX).map entO)) ?_
  refine s_ownS ⟨none, 0, 0⟩ ?_
  refine s_own f ?_
  exact s_mkFront (by simp) (h f)
theorem mclone_hg {s : Sl} {L : List MkX} {Q : Sl → K} (hr : ∀ w, Holds B Γ w → RdC w s 3 (L.flatMap mkL)) (hl : L.length ≤ 20000000) (h : ∀ s', HG B (SlC ty_api_Mark 3 s' (L.flatMap mkL) :: Γ) (Q s')) : HG B Γ (slices_Clone_s_api_Mark_api_Mark.call s Q) := fun w hw => by
  refine slices_Clone_s_api_Mark_api_Mark_ok _ _ _ ?_
  refine hg hw ?_
  clear hw w
  unfold slices_Clone_s_api_Mark_api_Mark
  exact s_clone (us := L.flatMap mkL) hr (mkL_flat _) (by rw [flatMap_len _ 3 mkL_len]; omega) (by omega) fun s' _ => h s'
/-- An order as new memory. -/
theorem ordCopy_hg {g : TagM} {o : OrdX} {Q : Array Value → K} (hr : ∀ w, Holds B Γ w → txRd w o.t) (hm : ∀ w, Holds B Γ w → RdC w o.ms 3 (o.mks.flatMap mkL)) (hl : o.t.reads.length ≤ 1000 ∧ o.t.writes.length ≤ 1000 ∧ o.t.ops.length ≤ 1000 ∧ ∀ x ∈ o.t.ops, x.1.val.length ≤ 1000000) (hml : o.mks.length ≤ 1000)
    (h : ∀ t' ms', TxIs t' o.t → HG B (outO (g, ⟨0, t', ms', o.mks⟩) :: Γ) (Q (ordL g ⟨0, t', ms', o.mks⟩).toArray)) : HG B Γ (order_Copy.call (ordL g o).toArray Q) := fun w hw => by
  refine order_Copy_ok _ _ _ ?_
  refine hg hw ?_
  clear hw w
  unfold order_Copy
  refine s_new fun o1 => ?_
  refine s_new fun t2 => ?_
  repeat refine s_nx ?_
  refine copy_hg (t := o.t) (fun w hw => hr w hw.drops) hl fun t' ht' => ?_
  repeat refine s_nx ?_
  refine mclone_hg (L := o.mks) (fun w hw => hm w hw.drops) (by omega) fun ms' => ?_
  refine s_stNP (b := o1) (off := 4) (us := txL t') (ordL g ⟨0, t', o.ms, o.mks⟩) ?_
  repeat refine s_nx ?_
  have h2 := s_mkOut (x := (g, ⟨0, t', ms', o.mks⟩)) (h t' ms' ht')
  exact s_end h2
end
end Go.Proofs.Yteolfpghafdmdaa
/- front: Submit, Orders, Open. -/
namespace Go.Proofs.Yteolfpghafdmdaa
open Go Go.Sep Go.Sep.Bt
set_option linter.unusedSimpArgs false
set_option linter.unusedVariables false
set_option maxRecDepth 100000
section
variable {B : World} {Γ Δ : List HProp} {k : K} {f sd st n : Nat} {M : Recs} {nd ep rg ct : Int} {E : List EntX}
theorem submit_hg {t : TxX} {Q : Array Value → Int → K} (hr : ∀ w, Holds B Γ w → txRd w t) (hl : t.reads.length < 10000000 ∧ t.writes.length < 10000000 ∧ t.ops.length < 10000000) (hc : 0 ≤ ct ∧ ct ≤ 1000000)
    (hbad : rightT rg t = false → HG B (FrontR f nd ep rg ct E :: Γ) (Q #[.int .i64 0, .int .u64 0, .int .u64 0] 1))
    (hfull : 64 ≤ E.length → HG B (FrontR f nd ep rg ct E :: Γ) (Q #[.int .i64 0, .int .u64 0, .int .u64 0] 2))
    (hok : rightT rg t = true → E.length < 64 → ∀ b t', TxIs t' t → HG B (FrontR f nd ep rg (ct + 1) (E ++ [⟨b, ⟨nd, ep, ct + 1, 0⟩, t', none⟩]) :: Γ) (Q #[.int .i64 nd, .int .u64 ep, .int .u64 (ct + 1)] 0)) :
    HG B (FrontR f nd ep rg ct E :: Γ) (front_Front_Submit.call (some ⟨f, 0, none⟩) (txL t).toArray Q) := fun w hw => by
  refine front_Front_Submit_ok _ _ _ _ ?_
  refine hg hw ?_
  clear hw w
  refine s_front fun s hE => ?_
  unfold front_Front_Submit
  refine s_new fun t3 => ?_
  refine s_new fun t4 => ?_
  repeat refine s_nx ?_
  refine check_hg (t := t) (n := rg) (fun w hw => hr w hw.drops) hl ?_
  by_cases hrt : rightT rg t = true
  rotate_left
  · have hrt' : rightT rg t = false := by simpa using hrt
    rw [if_neg hrt]
    refine s_t ?_
    repeat refine s_nx ?_
    refine s_pick (Sep.stars (E.map entO)) ?_
    refine s_ownS s ?_
    refine s_own f ?_
    exact s_mkFront hE (s_end (hbad hrt'))
  rw [if_pos hrt]
  refine s_f ?_
  refine s_cap s fun a1 a2 a3 a4 => ?_
  rw [List.length_map, List.length_map, Nat.mul_one] at a1
  repeat refine s_nx ?_
  refine s_ite (fun hb => ?_) fun hb => ?_
  · have h64 : 64 ≤ E.length := by simp only [decide_eq_true_eq] at hb; omega
    repeat refine s_nx ?_
    refine s_pick (Sep.stars (E.map entO)) ?_
    refine s_ownS s ?_
    refine s_own f ?_
    exact s_mkFront hE (s_end (hfull h64))
  have h64 : E.length < 64 := by simp only [decide_eq_false_iff_not] at hb; omega
  repeat refine s_nx ?_
  refine s_ar (e' := ct + 1) (wrapU64 (by omega) (by omega)) ?_
  repeat refine s_nx ?_
  refine s_new fun id7 => ?_
  repeat refine s_nx ?_
  obtain ⟨q1, q2, q3, q4, q5⟩ := right_small hrt
  refine copy_hg (t := t) (fun w hw => hr w hw.drops) ⟨by omega, by omega, by omega, fun x hx => by have := q5 x hx; omega⟩ fun t' ht' => ?_
  repeat refine s_nx ?_
  refine s_new fun b => ?_
  repeat refine s_nx ?_
  refine s_new fun t56 => ?_
  repeat refine s_nx ?_
  refine s_append (s := s) (esz := 1) (us := [.pointer (some ⟨b, 0, none⟩)]) (blk_rd rfl) (by intro v hv; rw [List.mem_singleton.1 hv]; rfl) (by simp only; omega) fun s2 hs2 => ?_
  repeat refine s_nx ?_
  refine s_end (Δ := txC t' (blk b (.cells (entL ⟨b, ⟨nd, ep, ct + 1, 0⟩, t', none⟩).toArray ty_front_entry (0, 0)) :: blk f (.cells (frL nd ep rg (ct + 1) s2).toArray ty_front_Front (0, 0)) :: SlC ty_p_front_entry 1 s2 (((E.map ptrE).map Value.pointer) ++ [Value.pointer (some (⟨b, 0, none⟩ : Addr))]) :: Sep.stars (E.map entO) :: Γ)) ?_
  refine s_mkTx ?_
  refine s_ordN (g := ⟨nd, ep, ct + 1, 0⟩) ?_
  refine s_end (Δ := blk b (.cells (entL ⟨b, ⟨nd, ep, ct + 1, 0⟩, t', none⟩).toArray ty_front_entry (0, 0)) :: txO t' :: ordO ⟨nd, ep, ct + 1, 0⟩ none :: Sep.stars (E.map entO) :: blk f (.cells (frL nd ep rg (ct + 1) s2).toArray ty_front_Front (0, 0)) :: SlC ty_p_front_entry 1 s2 (((E.map ptrE).map Value.pointer) ++ [Value.pointer (some (⟨b, 0, none⟩ : Addr))]) :: Γ) ?_
  refine s_mkEnt (e := ⟨b, ⟨nd, ep, ct + 1, 0⟩, t', none⟩) ?_
  refine s_snoc (F := entO) ?_
  rw [show ((E.map ptrE).map Value.pointer) ++ [Value.pointer (some (⟨b, 0, none⟩ : Addr))] = ((E ++ [(⟨b, ⟨nd, ep, ct + 1, 0⟩, t', none⟩ : EntX)]).map ptrE).map Value.pointer by simp]
  refine s_pick (Sep.stars ((E ++ [(⟨b, ⟨nd, ep, ct + 1, 0⟩, t', none⟩ : EntX)]).map entO)) ?_
  refine s_ownS s2 ?_
  refine s_own f ?_
  refine s_mkFront (fun e he => ?_) (hok hrt h64 b t' ht')
  rcases List.mem_append.1 he with he | he
  · exact hE e he
  · rw [List.mem_singleton.1 he]
    refine ⟨?_, fun o ho => by cases ho⟩
    have : rightT rg t' = rightT rg t := right_same ht' rg
    rw [this, hrt]
theorem open_hg {Q : Sl → K} (hE : E.length ≤ 1000) (h : ∀ s, s.n = E.length → HG B (SlC ty_api_Id 3 s (E.flatMap fun e => [.int .i64 e.tag.node, .int .u64 e.tag.epoch, .int .u64 e.tag.seq]) :: FrontR f nd ep rg ct E :: Γ) (Q s)) :
    HG B (FrontR f nd ep rg ct E :: Γ) (front_Front_Open.call (some ⟨f, 0, none⟩) Q) := fun w hw => by
  refine front_Front_Open_ok _ _ _ ?_
  refine hg hw ?_
  clear hw w
  refine s_front fun s hok => ?_
  refine s_cap s fun a1 a2 a3 a4 => ?_
  rw [List.length_map, List.length_map, Nat.mul_one] at a1
  unfold front_Front_Open
  repeat refine s_nx ?_
  refine fun w hw => hg (show Holds B (SlC ty_api_Id 3 ⟨none, 0, 0⟩ (([] : List EntX).flatMap fun e => [.int .i64 e.tag.node, .int .u64 e.tag.epoch, .int .u64 e.tag.seq]) :: _) w from hw.nilSl _ _) ?_
  clear hw w
  refine s_loop (α := Sl × Int) (ι := Nat) (fun x i => x.2 = (i : Int) ∧ i ≤ E.length) (fun x i => SlC ty_api_Id 3 x.1 ((E.take i).flatMap fun e => [.int .i64 e.tag.node, .int .u64 e.tag.epoch, .int .u64 e.tag.seq]) :: blk f (.cells (frL nd ep rg ct s).toArray ty_front_Front (0, 0)) :: SlC ty_p_front_entry 1 s ((E.map ptrE).map Value.pointer) :: Sep.stars (E.map entO) :: Γ) (fun x i => E.length - i) 0 ⟨rfl, Nat.zero_le _⟩ ?_
  rintro k' ⟨o, _⟩ i ⟨rfl, hi⟩ hk'
  simp only at hi hk' ⊢
  refine s_cap o fun b1 b2 b3 b4 => ?_
  rw [flatMap_len _ 3 (fun _ => rfl), List.length_take] at b1
  unfold front_Front_Open.b1
  refine s_ite (fun hb => ?_) fun hb => ?_
  · have hil : i < E.length := by simp only [decide_eq_true_eq] at hb; omega
    have hge : (E.map ptrE)[i]? = some (ptrE E[i]) := by rw [List.getElem?_map, List.getElem?_eq_getElem hil]; rfl
    have htk : E.take (i + 1) = E.take i ++ [E[i]] := List.take_succ_eq_append_getElem hil
    obtain ⟨A, C, hAC⟩ : ∃ A C, E = A ++ E[i] :: C := ⟨E.take i, E.drop (i + 1), by rw [← List.drop_eq_getElem_cons hil, List.take_append_drop]⟩
    generalize E[i] = e at hge htk hAC
    refine s_idx1 (c := Value.pointer) (fun w hw => (own_rd (s := s) hw).1) hge ?_
    refine s_pick (Sep.stars (E.map entO)) ?_
    rw [show E.map entO = (A ++ e :: C).map entO by rw [← hAC]]
    refine s_mid ?_
    refine s_ent ?_
    repeat refine s_nx ?_
    refine s_new fun t20 => ?_
    refine s_append (s := o) (esz := 3) (us := [.int .i64 e.tag.node, .int .u64 e.tag.epoch, .int .u64 e.tag.seq]) (blk_rd rfl) (by intro v hv; simp only [List.mem_cons, List.not_mem_nil, or_false] at hv; rcases hv with rfl | rfl | rfl <;> rfl) (by simp only; omega) fun o2 ho2 => ?_
    refine s_ai ?_
    rw [show ((E.take i).flatMap fun e => [Value.int .i64 e.tag.node, .int .u64 e.tag.epoch, .int .u64 e.tag.seq]) ++ [.int .i64 e.tag.node, .int .u64 e.tag.epoch, .int .u64 e.tag.seq] = (E.take (i + 1)).flatMap fun e => [Value.int .i64 e.tag.node, .int .u64 e.tag.epoch, .int .u64 e.tag.seq] by rw [htk]; simp]
    refine s_end (Δ := blk e.b (.cells (entL e).toArray ty_front_entry (0, 0)) :: txO e.tx :: ordO e.tag e.ord :: Sep.stars ((A ++ C).map entO) :: SlC ty_api_Id 3 o2 ((E.take (i + 1)).flatMap fun e => [.int .i64 e.tag.node, .int .u64 e.tag.epoch, .int .u64 e.tag.seq]) :: blk f (.cells (frL nd ep rg ct s).toArray ty_front_Front (0, 0)) :: SlC ty_p_front_entry 1 s ((E.map ptrE).map Value.pointer) :: Γ) ?_
    refine s_mkEnt ?_
    refine s_unmid ?_
    rw [show (A ++ e :: C).map entO = E.map entO by rw [← hAC]]
    exact s_end (hk' (o2, (i : Int) + 1) (i + 1) ⟨by simp, hil⟩ (by omega))
  · have hil : i = E.length := by simp only [decide_eq_false_iff_not] at hb; omega
    rw [hil] at b1
    rw [hil, List.take_length]
    refine s_swap ?_
    refine s_pick (Sep.stars (E.map entO)) ?_
    refine s_ownS s ?_
    refine s_own f ?_
    exact s_mkFront hok (s_swap (h o (by omega)))
end
end Go.Proofs.Yteolfpghafdmdaa
/- front: Orders. -/
namespace Go.Proofs.Yteolfpghafdmdaa
open Go Go.Sep Go.Sep.Bt
set_option linter.unusedSimpArgs false
set_option linter.unusedVariables false
set_option maxRecDepth 100000
inductive F2 {α β : Type} (R : α → β → Prop) : List α → List β → Prop
  | nil : F2 R [] []
  | cons {a : α} {b : β} {l : List α} {m : List β} : R a b → F2 R l m → F2 R (a :: l) (b :: m)
theorem f2_snoc {α β : Type} {R : α → β → Prop} {as' : List α} {bs' : List β} {a : α} {b : β} (h : F2 R as' bs') (h2 : R a b) : F2 R (as' ++ [a]) (bs' ++ [b]) := by
  induction h with
  | nil => exact .cons h2 .nil
  | cons h3 _ ih => exact .cons h3 ih
theorem f2_len {α β : Type} {R : α → β → Prop} {as' : List α} {bs' : List β} (h : F2 R as' bs') : as'.length = bs'.length := by
  induction h with
  | nil => rfl
  | cons _ _ ih => simp [ih]
theorem told_ptr {n : Nat} {M : Recs} {as' bs' : List EntX} (h : F2 (Told n M) as' bs') : bs'.map ptrE = as'.map ptrE := by
  induction h with
  | nil => rfl
  | cons h1 _ ih => simp [ih, ptrE, h1.1]
theorem told_ok {n : Nat} {M : Recs} {g : Int} {e e' : EntX} (h : Told n M e e') (ho : EntOk g e) : EntOk g e' := by
  obtain ⟨h1, h2, h3, o, h4, h5, h6, h7⟩ := h
  obtain ⟨g1, g2⟩ := ho
  refine ⟨by rw [h3]; exact g1, fun o' ho' => ?_⟩
  rw [h4] at ho'
  cases ho'
  refine ⟨by rw [h3]; exact h5, ?_⟩
  cases he : e.ord with
  | none =>
    rw [h6 he, mksOf, List.length_map]
    have h8 := keysT_len (e.tx.reads ++ e.tx.writes)
    rw [List.length_append] at h8
    have := right_small g1
    omega
  | some o0 =>
    rw [h7 o0 he]
    exact (g2 o0 he).2
theorem outL_flat (L : List OutX) : ∀ v ∈ L.flatMap outL, flatV v = true := fun v hv => by
  obtain ⟨x, _, hx⟩ := List.mem_flatMap.1 hv
  simp only [outL, ordL, List.mem_cons, List.not_mem_nil, or_false] at hx
  rcases hx with rfl | rfl | rfl | rfl | rfl | rfl | rfl | rfl | rfl | rfl <;> rfl
section
variable {B : World} {Γ Δ : List HProp} {k : K} {f sd st n : Nat} {M : Recs} {nd ep rg ct : Int} {E : List EntX}
abbrev ordsL (out s : Sl) (f sd st n : Nat) (M : Recs) (nd ep rg ct : Int) (ps : List (Option Addr)) (X : List OutX) (Γ : List HProp) : List HProp :=
  SlC ty_api_Order 10 out (X.flatMap outL) :: Sep.stars (X.map outO) :: blk f (.cells (frL nd ep rg ct s).toArray ty_front_Front (0, 0)) :: SlC ty_p_front_entry 1 s (ps.map Value.pointer) :: SchR sd st :: StoreR st n M :: Γ
/-- An entry with its order is told. -/
theorem told_s2 {out s : Sl} {ps : List (Option Addr)} {X : List OutX} {e : EntX} {o : OrdX} {X1 : Sl → Int → K} {Q : Sl → K} {i : Nat} (hen : e.ord = some o) (hok : EntOk rg e) (hX : X.length ≤ 100) (hi : i ≤ 100)
    (h : ∀ out' x, OutIs e x → HG B (entO e :: ordsL out' s f sd st n M nd ep rg ct ps (X ++ [x]) Γ) (X1 out' ((i : Int) + 1))) :
    HG B (entO e :: ordsL out s f sd st n M nd ep rg ct ps X Γ) (front_Front_Orders.s2 Q X1 (some ⟨sd, 0, none⟩) out (some ⟨e.b, 0, none⟩) s (s.n : Int) (i : Int)) := by
  obtain ⟨b, tag, tx, ord⟩ := e
  simp only at hen
  subst hen
  obtain ⟨g1, g2⟩ := hok
  obtain ⟨g3, g4⟩ := g2 o rfl
  simp only at g1 g3
  have g5 := right_small g1
  have g6 : o.t.ops.length = tx.ops.length := by have := congrArg List.length g3.2.2.2.2; simpa using this
  have g7 : ∀ x ∈ o.t.ops, x.1.val.length ≤ 1000000 := fun x hx => by
    have : x.1 ∈ o.t.ops.map Prod.fst := List.mem_map.2 ⟨x, hx, rfl⟩
    rw [g3.2.2.2.2] at this
    obtain ⟨y, hy, e2⟩ := List.mem_map.1 this
    have := g5.2.2.2.2 y hy
    rw [← e2]; omega
  refine s_cap out fun a1 a2 a3 a4 => ?_
  rw [flatMap_len _ 10 outL_len] at a1
  unfold front_Front_Orders.s2
  refine s_ent ?_
  refine s_pick (ordO tag (some o)) ?_
  refine s_ordS ?_
  repeat refine s_nx ?_
  refine ordCopy_hg (g := tag) (o := o) (fun w hw => txC_rd (t := o.t) (Γ := Γ) hw.drops) (fun w hw => (own_rd (s := o.ms) hw).1) ⟨by rw [g3.2.2.1]; omega, by rw [g3.2.2.2.1]; omega, by omega, g7⟩ g4 fun t' ms' ht' => ?_
  repeat refine s_nx ?_
  refine s_new fun t43 => ?_
  refine s_append (s := out) (esz := 10) (us := outL (tag, ⟨0, t', ms', o.mks⟩)) (blk_rd rfl) (fun v hv => outL_flat [((tag, ⟨0, t', ms', o.mks⟩) : OutX)] v (by simpa using hv)) (by simp only; omega) fun out2 hout2 => ?_
  refine s_ai ?_
  rw [show X.flatMap outL ++ outL (tag, ⟨0, t', ms', o.mks⟩) = (X ++ [((tag, ⟨0, t', ms', o.mks⟩) : OutX)]).flatMap outL by simp only [List.flatMap_append, List.flatMap_cons, List.flatMap_nil, List.append_nil]]
  refine s_end (Δ := blk o.b (.cells (ordL tag o).toArray ty_api_Order (0, 0)) :: SlC ty_api_Mark 3 o.ms (o.mks.flatMap mkL) :: txC o.t (blk b (.cells (entL ⟨b, tag, tx, some o⟩).toArray ty_front_entry (0, 0)) :: txO tx :: outO (tag, ⟨0, t', ms', o.mks⟩) :: Sep.stars (X.map outO) :: SlC ty_api_Order 10 out2 ((X ++ [((tag, ⟨0, t', ms', o.mks⟩) : OutX)]).flatMap outL) :: blk f (.cells (frL nd ep rg ct s).toArray ty_front_Front (0, 0)) :: SlC ty_p_front_entry 1 s (ps.map Value.pointer) :: SchR sd st :: StoreR st n M :: Γ)) ?_
  refine s_mkOrdS ?_
  refine s_end (Δ := outO (tag, ⟨0, t', ms', o.mks⟩) :: Sep.stars (X.map outO) :: blk b (.cells (entL ⟨b, tag, tx, some o⟩).toArray ty_front_entry (0, 0)) :: txO tx :: ordO tag (some o) :: SlC ty_api_Order 10 out2 ((X ++ [((tag, ⟨0, t', ms', o.mks⟩) : OutX)]).flatMap outL) :: blk f (.cells (frL nd ep rg ct s).toArray ty_front_Front (0, 0)) :: SlC ty_p_front_entry 1 s (ps.map Value.pointer) :: SchR sd st :: StoreR st n M :: Γ) ?_
  refine s_snoc (F := outO) ?_
  refine s_end (Δ := blk b (.cells (entL ⟨b, tag, tx, some o⟩).toArray ty_front_entry (0, 0)) :: txO tx :: ordO tag (some o) :: ordsL out2 s f sd st n M nd ep rg ct ps (X ++ [((tag, ⟨0, t', ms', o.mks⟩) : OutX)]) Γ) ?_
  refine s_mkEnt (e := ⟨b, tag, tx, some o⟩) ?_
  refine h out2 (tag, ⟨0, t', ms', o.mks⟩) ⟨rfl, ?_, o, rfl, rfl⟩
  obtain ⟨p1, p2, p3, p4, p5⟩ := ht'
  obtain ⟨q1, q2, q3, q4, q5⟩ := g3
  exact ⟨p1.trans q1, p2.trans q2, p3.trans q3, p4.trans q4, p5.trans q5⟩
theorem orders_hg {Q : Sl → K} (hE : E.length ≤ 64)
    (h : ∀ E' out X, F2 (Told n M) E E' → F2 OutIs E' X → HG B (SlC ty_api_Order 10 out (X.flatMap outL) :: Sep.stars (X.map outO) :: FrontR f nd ep rg ct E' :: SchR sd st :: StoreR st n M :: Γ) (Q out)) :
    HG B (FrontR f nd ep rg ct E :: SchR sd st :: StoreR st n M :: Γ) (front_Front_Orders.call (some ⟨f, 0, none⟩) (some ⟨sd, 0, none⟩) Q) := fun w hw => by
  refine front_Front_Orders_ok _ _ _ _ ?_
  refine hg hw ?_
  clear hw w
  refine s_front fun s hok => ?_
  refine s_cap s fun a1 a2 a3 a4 => ?_
  rw [List.length_map, List.length_map, Nat.mul_one] at a1
  unfold front_Front_Orders
  repeat refine s_nx ?_
  refine fun w hw => hg (show Holds B (Sep.stars (([] : List OutX).map outO) :: _) w from hw.starsNil) ?_
  clear hw w
  refine fun w hw => hg (show Holds B (SlC ty_api_Order 10 ⟨none, 0, 0⟩ (([] : List OutX).flatMap outL) :: _) w from hw.nilSl _ _) ?_
  clear hw w
  refine s_end (Δ := Sep.stars (E.map entO) :: ordsL ⟨none, 0, 0⟩ s f sd st n M nd ep rg ct (E.map ptrE) [] Γ) ?_
  refine s_loop (α := Sl × Int) (ι := Nat × List EntX × List OutX) (fun x i => x.2 = (i.1 : Int) ∧ i.1 ≤ E.length ∧ F2 (Told n M) (E.take i.1) i.2.1 ∧ F2 OutIs i.2.1 i.2.2) (fun x i => Sep.stars ((i.2.1 ++ E.drop i.1).map entO) :: ordsL x.1 s f sd st n M nd ep rg ct (E.map ptrE) i.2.2 Γ) (fun x i => E.length - i.1) (0, [], []) ⟨rfl, Nat.zero_le _, .nil, .nil⟩ ?_
  rintro k' ⟨out, _⟩ ⟨i, D, X⟩ ⟨rfl, hi, hD, hX⟩ hk'
  simp only at hi hD hX hk' ⊢
  have hDl := f2_len hD
  rw [List.length_take] at hDl
  have hXl := f2_len hX
  unfold front_Front_Orders.b1
  refine s_ite (fun hb => ?_) fun hb => ?_
  rotate_left
  · have hil : i = E.length := by simp only [decide_eq_false_iff_not] at hb; omega
    rw [hil, List.take_length] at hD
    rw [hil, List.drop_length, List.append_nil, ← told_ptr hD]
    refine s_pick (Sep.stars (D.map entO)) ?_
    refine s_ownS s ?_
    refine s_own f ?_
    refine s_mkFront (fun e he => ?_) (s_end (h D out X hD hX))
    have : ∀ {as' bs' : List EntX}, F2 (Told n M) as' bs' → (∀ e ∈ as', EntOk rg e) → ∀ e ∈ bs', EntOk rg e := by
      intro as' bs' hf
      induction hf with
      | nil => intro _ e he; cases he
      | cons h1 _ ih =>
        intro ha e he
        rcases List.mem_cons.1 he with rfl | he
        · exact told_ok h1 (ha _ List.mem_cons_self)
        · exact ih (fun e he => ha e (List.mem_cons_of_mem _ he)) e he
    exact this hD hok e he
  have hil : i < E.length := by simp only [decide_eq_true_eq] at hb; omega
  have hge : (E.map ptrE)[i]? = some (ptrE E[i]) := by rw [List.getElem?_map, List.getElem?_eq_getElem hil]; rfl
  have htk : E.take (i + 1) = E.take i ++ [E[i]] := List.take_succ_eq_append_getElem hil
  have hmem : E[i] ∈ E := List.getElem_mem hil
  rw [List.drop_eq_getElem_cons hil]
  generalize E[i] = e at hge htk hmem
  have hoe := hok e hmem
  -- an entry that has its order is told
  have tell : ∀ e' o, e'.ord = some o → e'.b = e.b → EntOk rg e' → Told n M e e' → HG B (entO e' :: Sep.stars ((D ++ E.drop (i + 1)).map entO) :: ordsL out s f sd st n M nd ep rg ct (E.map ptrE) X Γ) (front_Front_Orders.s2 Q (fun out4_1 t13_1 => k' (out4_1, t13_1)) (some ⟨sd, 0, none⟩) out (some ⟨e.b, 0, none⟩) s (s.n : Int) (i : Int)) := fun e' o he1 he2 he3 he4 => by
    rw [← he2]
    refine s_end (Δ := entO e' :: ordsL out s f sd st n M nd ep rg ct (E.map ptrE) X (Sep.stars ((D ++ E.drop (i + 1)).map entO) :: Γ)) ?_
    refine told_s2 he1 he3 (by omega) (by omega) fun out' x hx => ?_
    refine s_end (Δ := entO e' :: Sep.stars ((D ++ E.drop (i + 1)).map entO) :: ordsL out' s f sd st n M nd ep rg ct (E.map ptrE) (X ++ [x]) Γ) ?_
    refine s_unmid ?_
    rw [show D ++ e' :: E.drop (i + 1) = (D ++ [e']) ++ E.drop (i + 1) by simp]
    exact hk' (out', (i : Int) + 1) (i + 1, D ++ [e'], X ++ [x]) ⟨by simp, hil, by rw [htk]; exact f2_snoc hD he4, f2_snoc hX hx⟩ (by simp only; omega)
  refine s_idx1 (c := Value.pointer) (fun w hw => (own_rd (s := s) hw).1) hge ?_
  refine s_mid ?_
  obtain ⟨b, tag, tx, ord⟩ := e
  cases ord with
  | some o =>
    refine s_ent ?_
    repeat refine s_nx ?_
    refine s_end (Δ := blk b (.cells (entL ⟨b, tag, tx, some o⟩).toArray ty_front_entry (0, 0)) :: txO tx :: ordO tag (some o) :: Sep.stars ((D ++ E.drop (i + 1)).map entO) :: ordsL out s f sd st n M nd ep rg ct (E.map ptrE) X Γ) ?_
    refine s_mkEnt (e := ⟨b, tag, tx, some o⟩) ?_
    exact tell ⟨b, tag, tx, some o⟩ o rfl rfl hoe ⟨rfl, rfl, rfl, o, rfl, (hoe.2 o rfl).1, fun h0 => (by cases h0), fun o0 h0 => (by cases h0; rfl)⟩
  | none =>
    have g5 := right_small hoe.1
    simp only at g5
    have hkl := keysT_len (tx.reads ++ tx.writes)
    rw [List.length_append] at hkl
    have S3 : ∀ (o7 : Nat) (t' : TxX) (ms : Sl), TxIs t' tx → HG B (blk o7 (.cells (ordL tag ⟨o7, t', ms, mksOf n M (keysT (tx.reads ++ tx.writes))⟩).toArray ty_api_Order (0, 0)) :: SlC ty_api_Mark 3 ms ((mksOf n M (keysT (tx.reads ++ tx.writes))).flatMap mkL) :: txC t' (blk b (.cells (entL ⟨b, tag, tx, none⟩).toArray ty_front_entry (0, 0)) :: txO tx :: Sep.stars ((D ++ E.drop (i + 1)).map entO) :: ordsL out s f sd st n M nd ep rg ct (E.map ptrE) X Γ)) (front_Front_Orders.s3 Q (fun out4_1 t13_1 => k' (out4_1, t13_1)) (some ⟨sd, 0, none⟩) out ⟨b, 0, none⟩ ⟨o7, 0, none⟩ s (s.n : Int) (i : Int)) := fun o7 t' ms ht' => by
      refine s_mkOrdS (g := tag) (o := ⟨o7, t', ms, mksOf n M (keysT (tx.reads ++ tx.writes))⟩) ?_
      unfold front_Front_Orders.s3
      repeat refine s_nx ?_
      refine s_end (Δ := blk b (.cells (entL ⟨b, tag, tx, some ⟨o7, t', ms, mksOf n M (keysT (tx.reads ++ tx.writes))⟩⟩).toArray ty_front_entry (0, 0)) :: txO tx :: ordO tag (some ⟨o7, t', ms, mksOf n M (keysT (tx.reads ++ tx.writes))⟩) :: Sep.stars ((D ++ E.drop (i + 1)).map entO) :: ordsL out s f sd st n M nd ep rg ct (E.map ptrE) X Γ) ?_
      refine s_mkEnt (e := ⟨b, tag, tx, some ⟨o7, t', ms, mksOf n M (keysT (tx.reads ++ tx.writes))⟩⟩) ?_
      have ht : Told n M ⟨b, tag, tx, none⟩ ⟨b, tag, tx, some ⟨o7, t', ms, mksOf n M (keysT (tx.reads ++ tx.writes))⟩⟩ := ⟨rfl, rfl, rfl, _, rfl, ht', fun _ => rfl, fun o0 h0 => (by cases h0)⟩
      exact tell ⟨b, tag, tx, some ⟨o7, t', ms, mksOf n M (keysT (tx.reads ++ tx.writes))⟩⟩ _ rfl rfl (told_ok ht hoe) ht
    refine s_ent ?_
    repeat refine s_nx ?_
    refine s_all2 ?_ ?_
    · refine s_end (Δ := SchR sd st :: StoreR st n M :: blk b (.cells (entL ⟨b, tag, tx, none⟩).toArray ty_front_entry (0, 0)) :: txO tx :: Sep.stars ((D ++ E.drop (i + 1)).map entO) :: SlC ty_api_Order 10 out (X.flatMap outL) :: Sep.stars (X.map outO) :: blk f (.cells (frL nd ep rg ct s).toArray ty_front_Front (0, 0)) :: SlC ty_p_front_entry 1 s ((E.map ptrE).map Value.pointer) :: Γ) ?_
      refine schMake_hg (t := tx) (fun w hw => txO_rd (Γ := Γ) hw.drops) ⟨by omega, by omega, by omega, fun x hx => by have := g5.2.2.2.2 x hx; omega⟩ (fun x hx => by have := g5.2.2.2.1 x hx; omega) fun t' ms ht' => ?_
      refine s_new fun o7 => ?_
      repeat refine s_nx ?_
      exact s_end (S3 o7 t' ms ht')
    · refine s_new fun o7 => ?_
      repeat refine s_nx ?_
      refine s_end (Δ := SchR sd st :: StoreR st n M :: blk o7 (.cells [.int .i64 0, .int .u64 0, .int .u64 0, .int .i64 0, .int .i64 0, Sl.val ⟨none, 0, 0⟩, Sl.val ⟨none, 0, 0⟩, Sl.val ⟨none, 0, 0⟩, .int .i64 0, Sl.val ⟨none, 0, 0⟩].toArray ty_api_Order (0, 0)) :: blk b (.cells (entL ⟨b, tag, tx, none⟩).toArray ty_front_entry (0, 0)) :: txO tx :: Sep.stars ((D ++ E.drop (i + 1)).map entO) :: SlC ty_api_Order 10 out (X.flatMap outL) :: Sep.stars (X.map outO) :: blk f (.cells (frL nd ep rg ct s).toArray ty_front_Front (0, 0)) :: SlC ty_p_front_entry 1 s ((E.map ptrE).map Value.pointer) :: Γ) ?_
      refine schMake_hg (t := tx) (fun w hw => txO_rd (Γ := Γ) hw.drops) ⟨by omega, by omega, by omega, fun x hx => by have := g5.2.2.2.2 x hx; omega⟩ (fun x hx => by have := g5.2.2.2.1 x hx; omega) fun t' ms ht' => ?_
      repeat refine s_nx ?_
      exact s_end (S3 o7 t' ms ht')
end
end Go.Proofs.Yteolfpghafdmdaa
/- front: find, answer, Decide, Full. -/
namespace Go.Proofs.Yteolfpghafdmdaa
open Go Go.Sep Go.Sep.Bt
set_option linter.unusedSimpArgs false
set_option linter.unusedVariables false
set_option maxRecDepth 100000
abbrev fiV (b : Nat) : Value := .func (.func 36) #[] #[.pointer (some ⟨b, 0, none⟩)]
abbrev repL (g : TagM) (code : Int) (os : Sl) : List Value := [.int .i64 g.node, .int .u64 g.epoch, .int .u64 g.seq, .int .i64 code, os.val]
abbrev noRep : Array Value := #[.int .i64 0, .int .u64 0, .int .u64 0, .int .i64 0, Sl.val ⟨none, 0, 0⟩]
abbrev decL (g : TagM) (code : Int) (os : Sl) : List Value := [.int .i64 g.node, .int .u64 g.epoch, .int .u64 g.seq, .int .i64 g.tr, .int .i64 code, os.val]
theorem idxI_at {α : Type} {p : α → Bool} {A C : List α} {x : α} (hA : ∀ y ∈ A, p y = false) (hx : p x = true) : idxI ((A ++ x :: C).findIdx? p) = (A.length : Int) := by
  have : (A ++ x :: C).findIdx? p = some A.length := by
    rw [List.findIdx?_append, List.findIdx?_eq_none_iff.2 hA]
    simp [List.findIdx?_cons, hx]
  rw [this]; rfl
theorem find_split {α : Type} (p : α → Bool) : ∀ L : List α, (∀ y ∈ L, p y = false) ∨ ∃ A x C, L = A ++ x :: C ∧ (∀ y ∈ A, p y = false) ∧ p x = true
  | [] => .inl (by simp)
  | x :: L => by
    cases hx : p x with
    | true => exact .inr ⟨[], x, L, rfl, by simp, hx⟩
    | false =>
      rcases find_split p L with h | ⟨A, y, C, h1, h2, h3⟩
      · refine .inl fun z hz => ?_
        rcases List.mem_cons.1 hz with rfl | hz
        · exact hx
        · exact h z hz
      · refine .inr ⟨x :: A, y, C, by rw [h1]; rfl, fun z hz => ?_, h3⟩
        rcases List.mem_cons.1 hz with rfl | hz
        · exact hx
        · exact h2 z hz
/-- The next try. -/
def restart (e : EntX) : EntX := ⟨e.b, ⟨e.tag.node, e.tag.epoch, e.tag.seq, e.tag.tr + 1⟩, e.tx, none⟩
section
variable {B : World} {Γ Δ : List HProp} {k : K} {f sd st n : Nat} {M : Recs} {nd ep rg ct : Int} {E : List EntX} {g : TagM}
/-- However many bytes a process may have. -/
theorem bcloneR_hg {s : Sl} {xs : List UInt8} {Q : Sl → K} (hr : ∀ w, Holds B Γ w → RdB w s xs) (hl : xs.length ≤ 140737488351232) (h : ∀ s', HG B (Bytes ty_uint8 s' xs :: Γ) (Q s')) : HG B Γ (bytes_Clone.call s Q) := fun w hw => by
  refine bytes_Clone_ok _ _ _ ?_
  have hrw := hr w hw
  have hsn : s.n = xs.length := by have := hrw.len; simpa using this.symm
  refine hg hw ?_
  clear hw
  unfold bytes_Clone
  refine s_ite (fun hb => ?_) fun hb => ?_
  · have ha : s.a = none := by cases hs : s.a with
      | none => rfl
      | some a => rw [hs] at hb; cases hb
    have hn : s.n = 0 := hrw.nil ha
    have hus : xs = [] := List.length_eq_zero_iff.1 (by omega)
    refine fun w2 hw2 => h ⟨none, 0, 0⟩ w2 ?_
    rw [hus]
    exact hw2.nilSl ty_uint8 1
  · refine s_new fun t5 => ?_
    refine fun w2 hw2 => ?_
    have h1 : Holds B (SlC ty_uint8 1 ⟨some ⟨t5, 0, none⟩, 0, 0⟩ [] :: Γ) w2 := hw2.imp (blk_SlC (vs := []) rfl (by simp))
    refine r_append h1 (by kernel_rfl) (by kernel_rfl) (by' := 1) (by kernel_rfl) zero_ty_uint8 rfl (hr w2 hw2.tail) (byteV_flat _) (by simp only; omega) (by decide) fun s' w' h' _ _ => ?_
    rw [List.nil_append] at h'
    exact h s' w' h'
theorem find_hg {Q : Int → K} (hE : E.length ≤ 1000) (h : HG B (FrontR f nd ep rg ct E :: Γ) (Q (idxI (E.findIdx? (isTry g))))) : HG B (FrontR f nd ep rg ct E :: Γ) (front_Front_find.call (some ⟨f, 0, none⟩) (tagF g).toArray Q) := fun w hw => by
  refine front_Front_find_ok _ _ _ _ ?_
  refine hg hw ?_
  clear hw w
  refine s_front fun s hok => ?_
  refine s_cap s fun a1 a2 a3 a4 => ?_
  rw [List.length_map, List.length_map, Nat.mul_one] at a1
  unfold front_Front_find
  refine s_new fun b => ?_
  repeat refine s_nx ?_
  refine fun w hw => slices_IndexFunc_s_front_entry_front_entry_ok _ _ _ _ ?_
  refine hg hw ?_
  clear hw w
  show HG B _ (idxFK Try.prog (acc1 Value.pointer) s (fiV b) _)
  refine s_idxFp (vV := fun e : EntX => .pointer (ptrE e)) (L := E) (isTry g) (by omega) (by omega) (fun i x k hx hk => ?_) (fun e q he hq => ?_) ?_
  · exact s_idx1 (c := Value.pointer) (fun w hw => (own_rd (s := s) hw).1) (by rw [List.getElem?_map, hx]; rfl) hk
  · obtain ⟨A, C, rfl⟩ := List.append_of_mem he
    refine s_callvC (cs := [.pointer (some ⟨b, 0, none⟩)]) ?_
    refine fun w hw => front_Front_find_1_ok _ _ _ _ ?_
    refine hg hw ?_
    clear hw w
    unfold front_Front_find_1 front_Front_find_1.s1
    refine s_pick (Sep.stars ((A ++ e :: C).map entO)) ?_
    refine s_mid ?_
    refine s_ent ?_
    have back : HG B (blk e.b (.cells (entL e).toArray ty_front_entry (0, 0)) :: txO e.tx :: ordO e.tag e.ord :: Sep.stars ((A ++ C).map entO) :: blk b (.cells (tagF g).toArray ty_api_Tag (0, 0)) :: blk f (.cells (frL nd ep rg ct s).toArray ty_front_Front (0, 0)) :: SlC ty_p_front_entry 1 s (((A ++ e :: C).map ptrE).map Value.pointer) :: Γ) (q (isTry g e)) := by
      refine s_mkEnt ?_
      refine s_unmid ?_
      exact s_end hq
    repeat refine s_nx ?_
    refine s_eqS (xs := tagF e.tag) (ys := tagF g) (ks := tagK) (p := e.tag = g) tagF_inj ?_
    refine s_ite (fun hb => ?_) fun hb => ?_
    · have hb' : e.tag = g := by simpa using hb
      repeat refine s_nx ?_
      rw [show (!(ptrO e.ord).isNone) = isTry g e by unfold isTry; rw [hb']; cases e.ord <;> simp]
      exact s_end back
    · have hb' : ¬ e.tag = g := by simpa using hb
      rw [show isTry g e = false by unfold isTry; simp [hb']] at back
      exact s_end back
  · refine s_pick (Sep.stars (E.map entO)) ?_
    refine s_ownS s ?_
    refine s_own f ?_
    exact s_mkFront hok (s_end h)
/-- A submission ends. -/
theorem answer_hg {A C : List EntX} {e : EntX} {code : Int} {os : Sl} {at' : Int} {Q : Array Value → Bool → K} (hat : at' = (A.length : Int)) (hE : (A ++ e :: C).length ≤ 1000) (h : HG B (FrontR f nd ep rg ct (A ++ C) :: Γ) (Q (repL e.tag code os).toArray true)) :
    HG B (FrontR f nd ep rg ct (A ++ e :: C) :: Γ) (front_Front_answer.call (some ⟨f, 0, none⟩) at' #[.int .i64 code, os.val] Q) := fun w hw => by
  subst hat
  refine front_Front_answer_ok _ _ _ _ _ ?_
  refine hg hw ?_
  clear hw w
  refine s_front fun s hok => ?_
  refine s_cap s fun a1 a2 a3 a4 => ?_
  rw [List.length_map, List.length_map, Nat.mul_one] at a1
  have hlen : (A ++ e :: C).length = A.length + (C.length + 1) := by simp
  unfold front_Front_answer
  refine s_new fun r5 => ?_
  refine s_new fun t6 => ?_
  repeat refine s_nx ?_
  refine s_idx1 (c := Value.pointer) (L := (A ++ e :: C).map ptrE) (j := A.length) (x := ptrE e) (fun w hw => (own_rd (s := s) hw).1) (by simp) ?_
  refine s_pick (Sep.stars ((A ++ e :: C).map entO)) ?_
  refine s_mid ?_
  refine s_ent ?_
  repeat refine s_nx ?_
  refine s_new fun id8 => ?_
  repeat refine s_nx ?_
  refine s_ai ?_
  refine fun w hw => slices_Delete_s_front_entry_front_entry_ok _ _ _ _ _ ?_
  refine hg hw ?_
  clear hw w
  refine (show ∀ (Γ' : List HProp) (Q' : Sl → K), HG B Γ' (delK Try.prog ty_s_p_front_entry 0 1 s (A.length : Int) ((A.length : Int) + 1) Q') → HG B Γ' (slices_Delete_s_front_entry_front_entry s (A.length : Int) ((A.length : Int) + 1) Q') from fun _ _ h => h) _ _ ?_
  refine s_del (s := s) (E := ty_p_front_entry) (i := A.length) (j := A.length + 1) (by omega) (by omega) (by omega) (by intro v hv; obtain ⟨y, _, rfl⟩ := List.mem_map.1 hv; rfl) (fun s' hs' => ?_) (by kernel_rfl)
  rw [show (((A ++ e :: C).map ptrE).map Value.pointer).take (A.length * 1) ++ (((A ++ e :: C).map ptrE).map Value.pointer).drop ((A.length + 1) * 1) = ((A ++ C).map ptrE).map Value.pointer by
    rw [Nat.mul_one, Nat.mul_one, ← List.map_take, ← List.map_take, ← List.map_drop, ← List.map_drop, List.take_left, show A ++ e :: C = (A ++ [e]) ++ C by simp, List.drop_left' (by simp)]; simp]
  repeat refine s_nx ?_
  refine s_pick (Sep.stars ((A ++ C).map entO)) ?_
  refine s_ownS s' ?_
  refine s_own f ?_
  refine s_mkFront (fun x hx => hok x ?_) (s_end h)
  rcases List.mem_append.1 hx with hx | hx
  · exact List.mem_append_left _ hx
  · exact List.mem_append_right _ (List.mem_cons_of_mem _ hx)
theorem full_hg {Q : Array Value → Bool → K} (hE : E.length ≤ 1000) (hno : (∀ e ∈ E, isTry g e = false) → HG B (FrontR f nd ep rg ct E :: Γ) (Q noRep false))
    (hyes : ∀ A e C, E = A ++ e :: C → isTry g e = true → (∀ y ∈ A, isTry g y = false) → HG B (FrontR f nd ep rg ct (A ++ C) :: Γ) (Q (repL e.tag 140 ⟨none, 0, 0⟩).toArray true)) :
    HG B (FrontR f nd ep rg ct E :: Γ) (front_Front_Full.call (some ⟨f, 0, none⟩) (tagF g).toArray Q) := fun w hw => by
  refine front_Front_Full_ok _ _ _ _ ?_
  refine hg hw ?_
  clear hw w
  unfold front_Front_Full
  refine s_new fun tag3 => ?_
  refine s_new fun t4 => ?_
  repeat refine s_nx ?_
  refine s_own f ?_
  refine find_hg hE ?_
  rcases find_split (isTry g) E with h | ⟨A, e, C, rfl, hA, he⟩
  · rw [show E.findIdx? (isTry g) = none from List.findIdx?_eq_none_iff.2 h]
    refine s_t ?_
    repeat refine s_nx ?_
    exact s_end (hno h)
  · rw [idxI_at hA he]
    refine s_f ?_ (by simp)
    refine answer_hg rfl hE ?_
    repeat refine s_nx ?_
    exact s_end (hyes A e C rfl he hA)
theorem oclone21_hg {s : Sl} {L : OX} {Q : Sl → K} (hr : ∀ w, Holds B Γ w → RdC w s 2 (L.flatMap oF)) (hl : L.length ≤ 20000000) (h : ∀ s', HG B (SlC ty_api_Out 2 s' (L.flatMap oF) :: Γ) (Q s')) : HG B Γ (slices_Clone_s_api_Out_api_Out.call s Q) := fun w hw => by
  refine slices_Clone_s_api_Out_api_Out_ok _ _ _ ?_
  refine hg hw ?_
  clear hw w
  unfold slices_Clone_s_api_Out_api_Out
  refine s_clone (us := L.flatMap oF) hr (fun v hv => ?_) (by rw [flatMap_len _ 2 oF_len]; omega) (by omega) fun s' _ => h s'
  obtain ⟨x, _, hx⟩ := List.mem_flatMap.1 hv
  simp only [oF, List.mem_cons, List.not_mem_nil, or_false] at hx
  rcases hx with rfl | rfl <;> rfl
/-- What is put out is copied, and the submission ends. -/
theorem decS1 {A C : List EntX} {e : EntX} {code : Int} {os : Sl} {O : OX} {r8 t4 : Nat} {zs : List Value} {Q : Array Value → Bool → K} (hz : zs.length = 5) (hE : (A ++ e :: C).length ≤ 1000) (hO : O.length ≤ 1000000) (hr : ∀ w, Holds B Γ w → RdC w os 2 (O.flatMap oF)) (hv : ∀ x ∈ O, ∀ w, Holds B Γ w → RdB w x.2 x.1.2) (hvl : ∀ x ∈ O, x.1.2.length ≤ 140737488351232)
    (h : ∀ (os' : Sl) (O' : OX), O'.map Prod.fst = O.map Prod.fst → HG B (SlC ty_api_Out 2 os' (O'.flatMap oF) :: Sep.stars (O'.map oB) :: FrontR f nd ep rg ct (A ++ C) :: Γ) (Q (repL e.tag code os').toArray true)) :
    HG B (blk r8 (.cells [.int .i64 code, os.val].toArray ty_api_Result (0, 0)) :: blk t4 (.cells zs.toArray ty_api_Reply (0, 0)) :: FrontR f nd ep rg ct (A ++ e :: C) :: Γ) (front_Front_Decide.s1 Q ⟨f, 0, none⟩ ⟨t4, 0, none⟩ (A.length : Int) ⟨r8, 0, none⟩) := by
  unfold front_Front_Decide.s1
  repeat refine s_nx ?_
  refine oclone21_hg (L := O) (fun w hw => hr w hw.drops) (by omega) fun o2 => ?_
  repeat refine s_nx ?_
  refine fun w hw => hg (show Holds B (Sep.stars (([] : OX).map oB) :: _) w from hw.starsNil) ?_
  clear hw w
  refine s_cap o2 fun a1 a2 a3 a4 => ?_
  rw [flatMap_len _ 2 oF_len] at a1
  refine s_end (Δ := SlC ty_api_Out 2 o2 (O.flatMap oF) :: Sep.stars (([] : OX).map oB) :: blk r8 (.cells [.int .i64 code, o2.val].toArray ty_api_Result (0, 0)) :: blk t4 (.cells zs.toArray ty_api_Reply (0, 0)) :: FrontR f nd ep rg ct (A ++ e :: C) :: Γ) ?_
  refine s_loop (α := Int) (ι := Nat × OX) (fun x i => x = (i.1 : Int) ∧ i.1 ≤ O.length ∧ i.2.map Prod.fst = O.map Prod.fst ∧ i.2.drop i.1 = O.drop i.1)
    (fun x i => SlC ty_api_Out 2 o2 (i.2.flatMap oF) :: Sep.stars ((i.2.take i.1).map oB) :: blk r8 (.cells [.int .i64 code, o2.val].toArray ty_api_Result (0, 0)) :: blk t4 (.cells zs.toArray ty_api_Reply (0, 0)) :: FrontR f nd ep rg ct (A ++ e :: C) :: Γ)
    (fun x i => O.length - i.1) (0, O) ⟨rfl, Nat.zero_le _, rfl, rfl⟩ ?_
  rintro k' _ ⟨i, L⟩ ⟨rfl, hi, hm, hd⟩ hk'
  simp only at hi hm hd hk' ⊢
  have hLl : L.length = O.length := by have := congrArg List.length hm; simpa using this
  unfold front_Front_Decide.b2
  refine s_ite (fun hb => ?_) fun hb => ?_
  · have hil : i < O.length := by simp only [decide_eq_true_eq] at hb; omega
    have hge : L[i]? = some O[i] := by
      have := congrArg (·[0]?) hd
      simp only [List.getElem?_drop, Nat.add_zero] at this
      rw [this, List.getElem?_eq_getElem hil]
    have hmem : O[i] ∈ O := List.getElem_mem hil
    generalize O[i] = x at hge hmem
    have hvx := hvl x hmem
    refine s_idxN oF oF_len (fun w hw => (own_rd (s := o2) hw).1) hge ?_
    refine s_new fun o10 => ?_
    refine s_stN (b := o10) (l' := [.bool x.1.1, x.2.val]) ?_
    repeat refine s_nx ?_
    refine bcloneR_hg (xs := x.1.2) (fun w hw => hv x hmem w hw.drops) hvx fun vs => ?_
    repeat refine s_nx ?_
    refine s_idx (s := o2) (i := i) ?_
    refine s_stE (s := o2) ?_ (by rw [flatMap_len _ 2 oF_len]; omega)
    rw [flatMap_setAt (y := ((x.1, vs) : (Bool × List UInt8) × Sl)) oF_len hge (by omega) rfl]
    refine s_ai ?_
    have hA : (L.set i (x.1, vs)).map Prod.fst = O.map Prod.fst := by
      rw [← hm, List.map_set]
      refine List.ext_getElem? fun j => ?_
      rw [List.getElem?_set]
      split
      · rename_i hij
        subst hij
        split
        · simp [hge]
        · rename_i hj; simp only [List.length_map] at hj; omega
      · rfl
    have hB : (L.set i (x.1, vs)).drop (i + 1) = O.drop (i + 1) := by
      rw [List.drop_set_of_lt (by omega), ← List.drop_drop, hd, List.drop_drop]
    have h3 := hk' ((i : Int) + 1) (i + 1, L.set i (x.1, vs)) ⟨by simp, hil, hA, hB⟩ (by simp only; omega)
    have ht : (L.set i (x.1, vs)).take (i + 1) = L.take i ++ [((x.1, vs) : (Bool × List UInt8) × Sl)] := by
      have hx : (L.set i (x.1, vs))[i]? = some (x.1, vs) := by rw [List.getElem?_set_self (by omega)]
      rw [List.take_add_one, hx, List.take_set_of_le (Nat.le_refl _)]
      rfl
    simp only at h3
    rw [ht] at h3
    have h4 := s_snoc (F := oB) (A := L.take i) (x := ((x.1, vs) : (Bool × List UInt8) × Sl)) (Γ := SlC ty_api_Out 2 o2 ((L.set i (x.1, vs)).flatMap oF) :: blk r8 (.cells [.int .i64 code, o2.val].toArray ty_api_Result (0, 0)) :: blk t4 (.cells zs.toArray ty_api_Reply (0, 0)) :: FrontR f nd ep rg ct (A ++ e :: C) :: Γ) (s_end h3)
    exact s_end h4
  · have hil : i = O.length := by simp only [decide_eq_false_iff_not] at hb; omega
    rw [hil, ← hLl, List.take_length]
    repeat refine s_nx ?_
    refine s_own f ?_
    refine answer_hg rfl hE ?_
    refine s_stN (b := t4) (l' := repL e.tag code o2) ?_ hz
    repeat refine s_nx ?_
    exact s_end (h o2 L hm)
theorem decide_hg {code : Int} {os : Sl} {O : OX} {Q : Array Value → Bool → K} (hE : E.length ≤ 1000) (hO : O.length ≤ 1000000) (hr : ∀ w, Holds B Γ w → RdC w os 2 (O.flatMap oF)) (hv : ∀ x ∈ O, ∀ w, Holds B Γ w → RdB w x.2 x.1.2) (hvl : ∀ x ∈ O, x.1.2.length ≤ 140737488351232) (htrs : ∀ e ∈ E, 0 ≤ e.tag.tr ∧ e.tag.tr ≤ 2)
    (hno : (∀ e ∈ E, isTry g e = false) → HG B (FrontR f nd ep rg ct E :: Γ) (Q noRep false))
    (hst : ∀ A e C, E = A ++ e :: C → isTry g e = true → (∀ y ∈ A, isTry g y = false) → code = 112 → e.tag.tr < 2 → HG B (FrontR f nd ep rg ct (A ++ restart e :: C) :: Γ) (Q noRep false))
    (hyes : ∀ A e C, E = A ++ e :: C → isTry g e = true → (∀ y ∈ A, isTry g y = false) → ¬ (code = 112 ∧ e.tag.tr < 2) → ∀ (os' : Sl) (O' : OX), (code = 112 → O' = []) → (code ≠ 112 → O'.map Prod.fst = O.map Prod.fst) → HG B (SlC ty_api_Out 2 os' (O'.flatMap oF) :: Sep.stars (O'.map oB) :: FrontR f nd ep rg ct (A ++ C) :: Γ) (Q (repL e.tag (if code = 112 then 141 else code) os').toArray true)) :
    HG B (FrontR f nd ep rg ct E :: Γ) (front_Front_Decide.call (some ⟨f, 0, none⟩) (decL g code os).toArray Q) := fun w hw => by
  refine front_Front_Decide_ok _ _ _ _ ?_
  refine hg hw ?_
  clear hw w
  unfold front_Front_Decide
  refine s_new fun d3 => ?_
  refine s_new fun t4 => ?_
  repeat refine s_nx ?_
  refine s_own f ?_
  refine find_hg hE ?_
  rcases find_split (isTry g) E with h | ⟨A, e, C, rfl, hA, he⟩
  · rw [show E.findIdx? (isTry g) = none from List.findIdx?_eq_none_iff.2 h]
    refine s_t ?_
    repeat refine s_nx ?_
    exact s_end (hno h)
  rw [idxI_at hA he]
  refine s_f ?_ (by simp)
  have het : e.tag = g := by
    unfold isTry at he
    simp only [Bool.and_eq_true, decide_eq_true_eq] at he
    exact he.1
  refine s_front fun s hok => ?_
  repeat refine s_nx ?_
  refine s_idxFA (fun x : Option Addr => [Value.pointer x]) (L := (A ++ e :: C).map ptrE) (j := A.length) (x := ptrE e) (fun _ => rfl) (by omega) (fun w hw => by rw [flatMap_1]; exact (own_rd (s := s) hw).1) (by simp) (fun t23 ht23 => ?_) rfl
  refine s_ldSA0 (cs := [Value.pointer (ptrE e)]) (x := ptrE e) (fun w hw => ht23 w (by rw [flatMap_1]; exact (own_rd (s := s) hw).1)) rfl ?_
  repeat refine s_nx ?_
  refine s_new fun r8 => ?_
  repeat refine s_nx ?_
  have S1 : ∀ (c2 : Int) (os2 : Sl) (O2 : OX), ¬ (code = 112 ∧ e.tag.tr < 2) → c2 = (if code = 112 then 141 else code) → (code = 112 → O2 = [] ∧ os2 = ⟨none, 0, 0⟩) → (code ≠ 112 → O2 = O ∧ os2 = os) → HG B (blk r8 (.cells [.int .i64 c2, os2.val].toArray ty_api_Result (0, 0)) :: blk f (.cells (frL nd ep rg ct s).toArray ty_front_Front (0, 0)) :: SlC ty_p_front_entry 1 s (((A ++ e :: C).map ptrE).map Value.pointer) :: Sep.stars ((A ++ e :: C).map entO) :: blk t4 (.cells [.int .i64 0, .int .u64 0, .int .u64 0, .int .i64 0, Sl.val ⟨none, 0, 0⟩].toArray ty_api_Reply (0, 0)) :: Γ) (front_Front_Decide.s1 Q ⟨f, 0, none⟩ ⟨t4, 0, none⟩ (A.length : Int) ⟨r8, 0, none⟩) := fun c2 os2 O2 hn hc2 h1 h2 => by
    refine s_pick (Sep.stars ((A ++ e :: C).map entO)) ?_
    refine s_ownS s ?_
    refine s_own f ?_
    refine s_mkFront hok ?_
    refine s_end (Δ := blk r8 (.cells [.int .i64 c2, os2.val].toArray ty_api_Result (0, 0)) :: blk t4 (.cells [.int .i64 0, .int .u64 0, .int .u64 0, .int .i64 0, Sl.val ⟨none, 0, 0⟩].toArray ty_api_Reply (0, 0)) :: FrontR f nd ep rg ct (A ++ e :: C) :: Γ) ?_
    by_cases hc : code = 112
    · obtain ⟨rfl, rfl⟩ := h1 hc
      refine decS1 (O := []) rfl hE (by simp) (fun w hw => RdC.none') (by simp) (by simp) fun os' O' hO' => ?_
      rw [hc2]
      exact hyes A e C rfl he hA hn os' O' (fun _ => by simpa using hO') (fun h => absurd hc h)
    · obtain ⟨rfl, rfl⟩ := h2 hc
      refine decS1 (O := O2) rfl hE hO hr hv hvl fun os' O' hO' => ?_
      rw [hc2]
      exact hyes A e C rfl he hA hn os' O' (fun h => absurd h hc) (fun _ => hO')
  refine s_ite (fun hb => ?_) fun hb => ?_
  · have hc : code = 112 := by simpa using hb
    refine s_pick (Sep.stars ((A ++ e :: C).map entO)) ?_
    refine s_mid ?_
    refine s_ent ?_
    repeat refine s_nx ?_
    unfold front_Front_Decide.s3
    by_cases htr : e.tag.tr < 2
    · rw [show decide (e.tag.tr < 2) = true by simpa using htr]
      refine s_t ?_
      repeat refine s_nx ?_
      refine s_ar (e' := e.tag.tr + 1) (by have := htrs e (by simp); rw [wrap64 (by omega) (by omega)]) ?_
      repeat refine s_nx ?_
      refine s_ordN (g := ⟨e.tag.node, e.tag.epoch, e.tag.seq, e.tag.tr + 1⟩) ?_
      refine s_end (Δ := blk e.b (.cells (entL ⟨e.b, ⟨e.tag.node, e.tag.epoch, e.tag.seq, e.tag.tr + 1⟩, e.tx, none⟩).toArray ty_front_entry (0, 0)) :: txO e.tx :: ordO ⟨e.tag.node, e.tag.epoch, e.tag.seq, e.tag.tr + 1⟩ none :: Sep.stars ((A ++ C).map entO) :: blk f (.cells (frL nd ep rg ct s).toArray ty_front_Front (0, 0)) :: SlC ty_p_front_entry 1 s (((A ++ e :: C).map ptrE).map Value.pointer) :: Γ) ?_
      refine s_mkEnt (e := restart e) ?_
      refine s_unmid ?_
      rw [show ((A ++ e :: C).map ptrE) = ((A ++ restart e :: C).map ptrE) by simp [restart]]
      refine s_pick (Sep.stars ((A ++ restart e :: C).map entO)) ?_
      refine s_ownS s ?_
      refine s_own f ?_
      refine s_mkFront (fun x hx => ?_) (hst A e C rfl he hA hc htr)
      rcases List.mem_append.1 hx with hx | hx
      · exact hok x (List.mem_append_left _ hx)
      · rcases List.mem_cons.1 hx with rfl | hx
        · exact ⟨(hok e (by simp)).1, fun o ho => by cases ho⟩
        · exact hok x (List.mem_append_right _ (List.mem_cons_of_mem _ hx))
    · rw [show decide (e.tag.tr < 2) = false by simpa using htr]
      refine s_f ?_
      repeat refine s_nx ?_
      refine s_t ?_
      repeat refine s_nx ?_
      refine s_end (Δ := blk e.b (.cells (entL e).toArray ty_front_entry (0, 0)) :: txO e.tx :: ordO e.tag e.ord :: Sep.stars ((A ++ C).map entO) :: blk r8 (.cells [.int .i64 141, Sl.val ⟨none, 0, 0⟩].toArray ty_api_Result (0, 0)) :: blk f (.cells (frL nd ep rg ct s).toArray ty_front_Front (0, 0)) :: SlC ty_p_front_entry 1 s (((A ++ e :: C).map ptrE).map Value.pointer) :: blk t4 (.cells [.int .i64 0, .int .u64 0, .int .u64 0, .int .i64 0, Sl.val ⟨none, 0, 0⟩].toArray ty_api_Reply (0, 0)) :: Γ) ?_
      refine s_mkEnt ?_
      refine s_unmid ?_
      exact s_end (S1 141 ⟨none, 0, 0⟩ [] (fun h => htr h.2) (by rw [if_pos hc]) (fun _ => ⟨rfl, rfl⟩) (fun h => absurd hc h))
  · have hc : ¬ code = 112 := by simpa using hb
    unfold front_Front_Decide.s3
    refine s_f ?_
    repeat refine s_nx ?_
    refine s_f ?_ (by simpa using hc)
    exact s_end (S1 code os O (fun h => hc h.1) (by rw [if_neg hc]) (fun h => absurd h hc) (fun _ => ⟨rfl, rfl⟩))
end
end Go.Proofs.Yteolfpghafdmdaa
/- Plain forms of functions, and that their code comes to them (package law21). -/
namespace Go.Proofs.Yteolfpghafdmdaa
open Go Go.Sep
set_option linter.unusedVariables false
set_option linter.unusedSimpArgs false
set_option maxRecDepth 100000
set_option maxHeartbeats 4000000
attribute [local irreducible] G Gp Cx Tx Ex Sx Dx Ox Ax Lx Rx Fx Bx Bj Al Do Ld LdN St StN New CallF Ar DoU Rd Rd2 Pu Cd Ite Fv CallV CallY Ans0 Ans1 Ans2 Ans3 Ans4 Ans5 Ext Dead Dr WithS Sv LdS LdNS RdS Rd2S Nn Idx IdxA IdxS Fld Bld Slc SlcS Cat All LoopK RangeF RangeJ TakeD
namespace F_IRLaw21
instance at_39 : AT Try.prog 39 3 := ⟨by kernel_rfl⟩
instance at_43 : AT Try.prog 43 4 := ⟨by kernel_rfl⟩
instance cb_10 : CB Try.prog 10 := ⟨by kernel_rfl⟩
instance cb_11 : CB Try.prog 11 := ⟨by kernel_rfl⟩
instance cb_12 : CB Try.prog 12 := ⟨by kernel_rfl⟩
instance cb_13 : CB Try.prog 13 := ⟨by kernel_rfl⟩
instance cb_7 : CB Try.prog 7 := ⟨by kernel_rfl⟩
instance cb_8 : CB Try.prog 8 := ⟨by kernel_rfl⟩
instance ct_29 : CT Try.prog 29 := ⟨by kernel_rfl⟩
instance ct_3 : CT Try.prog 3 := ⟨by kernel_rfl⟩
instance ft_43_1 : FT Try.prog 43 1 3 1 := ⟨by kernel_rfl⟩
instance ft_46_0 : FT Try.prog 46 0 0 1 := ⟨by kernel_rfl⟩
instance ft_52_1 : FT Try.prog 52 1 3 2 := ⟨by kernel_rfl⟩
instance ft_63_0 : FT Try.prog 63 0 0 4 := ⟨by kernel_rfl⟩
instance mx : MX Try.prog := ⟨mixed⟩
instance pl_36 : PLT Try.prog 36 [(0, 1), (1, 1), (2, 1), (3, 1), (4, 1)] := ⟨_, Try.underlying36, by kernel_rfl⟩
instance pl_39 : PLT Try.prog 39 [(0, 1), (1, 1), (2, 1)] := ⟨_, Try.underlying39, by kernel_rfl⟩
instance pl_46 : PLT Try.prog 46 [(0, 1), (1, 1)] := ⟨_, Try.underlying46, by kernel_rfl⟩
instance pl_48 : PLT Try.prog 48 [(0, 4), (4, 2)] := ⟨_, Try.underlying48, by kernel_rfl⟩
instance sl_33 : SLT Try.prog 33 9 1 := ⟨by kernel_rfl⟩
instance sl_49 : SLT Try.prog 49 63 10 := ⟨by kernel_rfl⟩
instance sl_55 : SLT Try.prog 55 39 3 := ⟨by kernel_rfl⟩
instance sz_39 : SZ Try.prog 39 3 := ⟨by kernel_rfl⟩
instance sz_52 : SZ Try.prog 52 5 := ⟨by kernel_rfl⟩
instance un_25 : UN Try.prog 25 (.pointer 69) := ⟨Try.underlying25⟩
instance un_28 : UN Try.prog 28 (.pointer 78) := ⟨Try.underlying28⟩
instance un_4 : UN Try.prog 4 .bool := ⟨Try.underlying4⟩
instance zt_36 : ZT Try.prog 36 (.agg #[(.int .i64 0), (Sl.val ⟨none, 0, 0⟩), (Sl.val ⟨none, 0, 0⟩), (Sl.val ⟨none, 0, 0⟩), (.int .i64 0)]) := ⟨Try.t36, by kernel_rfl, by kernel_rfl⟩
instance zt_39 : ZT Try.prog 39 (.agg #[(.int .i64 0), (.int .u64 0), (.int .u64 0)]) := ⟨Try.t39, by kernel_rfl, by kernel_rfl⟩
instance zt_46 : ZT Try.prog 46 (.agg #[(.int .i64 0), (Sl.val ⟨none, 0, 0⟩)]) := ⟨Try.t46, by kernel_rfl, by kernel_rfl⟩
instance zt_48 : ZT Try.prog 48 (.agg #[(.int .i64 0), (.int .u64 0), (.int .u64 0), (.int .i64 0), (.int .i64 0), (Sl.val ⟨none, 0, 0⟩)]) := ⟨Try.t48, by kernel_rfl, by kernel_rfl⟩
instance zt_52 : ZT Try.prog 52 (.agg #[(.int .i64 0), (.int .u64 0), (.int .u64 0), (.int .i64 0), (Sl.val ⟨none, 0, 0⟩)]) := ⟨Try.t52, by kernel_rfl, by kernel_rfl⟩
instance zt_9 : ZT Try.prog 9 (.string ⟨#[]⟩) := ⟨Try.t9, by kernel_rfl, by kernel_rfl⟩
end F_IRLaw21
def law21_speaks.s5 (Q : Bool → K) (X3 : Int → K) (f1_5 : (Option Addr)) (s2_5 : (Option Addr)) (i6_5 : Int) (t77_5 : Bool) : K :=
  Ite t77_5
    (Q false)
    (Ar (IntKind.wrap .i64 (i6_5 + 1)) fun t38 =>
    X3 t38)
def law21_speaks.s4 (Q : Bool → K) (X3 : Int → K) (f1_4 : (Option Addr)) (s2_4 : (Option Addr)) (i6_4 : Int) (o7_4 : Sl) (t53_4 : Bool) : K :=
  Ite t53_4
    (Q false)
    (Idx o7_4 0 10 fun t57 =>
    LdN t57 4 fun t59 =>
    Bld #[(.int .i64 0), (.int .u64 0), (.int .u64 0), (.int .i64 0), (.int .i64 0), (Sl.val ⟨none, 0, 0⟩)] ([(0, 4), (4, 2)][·]?) [(0, (.agg t59)), (1, (.agg #[(.int .i64 112), (Sl.val ⟨none, 0, 0⟩)]))] fun t61 =>
    front_Front_Decide.call f1_4 t61 fun t62x0 t62x1 =>
    New 52 #[(.int .i64 0), (.int .u64 0), (.int .u64 0), (.int .i64 0), (Sl.val ⟨none, 0, 0⟩)] fun r8 =>
    StN r8 5 t62x0 <|
    Ite (!(t62x1 == (decide (i6_4 = 2))))
      (law21_speaks.s5 Q X3 f1_4 s2_4 i6_4 true)
      (Ite t62x1
        (Ld (r8.add 3) (Value.int .i64) fun t74 =>
        law21_speaks.s5 Q X3 f1_4 s2_4 i6_4 (decide (t74 ≠ 141)))
        (law21_speaks.s5 Q X3 f1_4 s2_4 i6_4 false)))
def law21_speaks.b3 (Q : Bool → K)  (X3 : Int → K) (f1_3 : (Option Addr)) (s2_3 : (Option Addr)) (i6_3 : Int) : K :=
  Ite (decide (i6_3 < 3))
    (front_Front_Orders.call f1_3 s2_3 fun t41 =>
    Ite (decide ((t41.n : Int) ≠ 1))
      (law21_speaks.s4 Q X3 f1_3 s2_3 i6_3 t41 true)
      (Idx t41 0 10 fun t47 =>
      Ld (t47.add 3) (Value.int .i64) fun t50 =>
      law21_speaks.s4 Q X3 f1_3 s2_3 i6_3 t41 (decide (t50 ≠ i6_3))))
    (front_Front_Open.call f1_3 fun t79 =>
    Q (decide ((t79.n : Int) = 0)))
def law21_speaks.s2 (Q : Bool → K)  (f1_2 : (Option Addr)) (s2_2 : (Option Addr)) (t34_2 : Bool) : K :=
  Ite t34_2
    (Q false)
    (LoopK (α := Int) (fun X x => law21_speaks.b3 Q X f1_2 s2_2 x) 0)
def law21_speaks.s1 (Q : Bool → K)  (f1_1 : (Option Addr)) (s2_1 : (Option Addr)) (t20_1 : Bool) : K :=
  Ite t20_1
    (Q false)
    (New 9 #[(.string ⟨#[97]⟩)] fun t23 =>
    front_Front_Submit.call f1_1 #[(.int .i64 1), (Sl.val ⟨none, 0, 0⟩), (Sl.val (Sl.mk (some t23) 1 1)), (Sl.val ⟨none, 0, 0⟩), (.int .i64 0)] fun t25x0 t25x1 =>
    New 39 #[(.int .i64 0), (.int .u64 0), (.int .u64 0)] fun id4 =>
    StN id4 3 t25x0 <|
    Ite (decide (t25x1 ≠ 0))
      (law21_speaks.s2 Q f1_1 s2_1 true)
      (LdN id4 3 fun t31 =>
      Pu Try.prog (do eqGuard .neq 39 (.tmp 31) (.tmp 32) (.agg t31) (.agg #[(.int .i64 2), (.int .u64 7), (.int .u64 1)]); binOp .neq 39 (.agg t31) (.agg #[(.int .i64 2), (.int .u64 7), (.int .u64 1)]) : Sem Value) Value.bool fun t33 =>
      law21_speaks.s2 Q f1_1 s2_1 t33))
def law21_speaks  (Q : Bool → K) : K :=
  front_New.call 2 7 1 fun t10 =>
  sched_New.call 1 fun t12x0 t12x1 =>
  Ite ((t10).isNone)
    (law21_speaks.s1 Q t10 t12x0 true)
    (law21_speaks.s1 Q t10 t12x0 ((t12x0).isNone))
theorem law21_speaks_ok  (Q : Bool → K) (w : World) (h : law21_speaks  Q w) : law21_speaks.call  Q w := by
  have hJ16 : ∀ (X3 : Int → K), XH 9 X3 → JH 16 fun D => ∃ (f1_5 : (Option Addr)) (s2_5 : (Option Addr)) (i6_5 : Int), D [(1, (.pointer f1_5)), (2, (.pointer s2_5)), (6, (.int .i64 i6_5))] (fun C => ∀ (t77_5 : Bool), C [(1, (.pointer f1_5)), (2, (.pointer s2_5)), (6, (.int .i64 i6_5)), (77, (.bool t77_5))] (law21_speaks.s5 Q X3 f1_5 s2_5 i6_5 t77_5)) := by intros; exact ⟨fun _ ⟨_, _, _, h⟩ => ⟨_, _, h⟩⟩
  have hJ13 : ∀ (X3 : Int → K), XH 9 X3 → JH 13 fun D => ∃ (f1_4 : (Option Addr)) (s2_4 : (Option Addr)) (i6_4 : Int) (o7_4 : Sl), D [(1, (.pointer f1_4)), (2, (.pointer s2_4)), (6, (.int .i64 i6_4)), (7, (Sl.val o7_4))] (fun C => ∀ (t53_4 : Bool), C [(1, (.pointer f1_4)), (2, (.pointer s2_4)), (6, (.int .i64 i6_4)), (7, (Sl.val o7_4)), (53, (.bool t53_4))] (law21_speaks.s4 Q X3 f1_4 s2_4 i6_4 o7_4 t53_4)) := by intros; exact ⟨fun _ ⟨_, _, _, _, h⟩ => ⟨_, _, h⟩⟩
  have hL9 : ∀ (f1_3 : (Option Addr)) (s2_3 : (Option Addr)), LH 9 (fun x : Int => [(1, (.pointer f1_3)), (2, (.pointer s2_3)), (6, (.int .i64 x))]) (fun X x => law21_speaks.b3 Q X f1_3 s2_3 x) := by intros; exact ⟨⟩
  have hJ7 : JH 7 fun D => ∃ (f1_2 : (Option Addr)) (s2_2 : (Option Addr)), D [(1, (.pointer f1_2)), (2, (.pointer s2_2))] (fun C => ∀ (t34_2 : Bool), C [(1, (.pointer f1_2)), (2, (.pointer s2_2)), (34, (.bool t34_2))] (law21_speaks.s2 Q f1_2 s2_2 t34_2)) := by intros; exact ⟨fun _ ⟨_, _, h⟩ => ⟨_, _, h⟩⟩
  have hJ4 : JH 4 fun D => ∃ (f1_1 : (Option Addr)) (s2_1 : (Option Addr)), D [(1, (.pointer f1_1)), (2, (.pointer s2_1))] (fun C => ∀ (t20_1 : Bool), C [(1, (.pointer f1_1)), (2, (.pointer s2_1)), (20, (.bool t20_1))] (law21_speaks.s1 Q f1_1 s2_1 t20_1)) := by intros; exact ⟨fun _ ⟨_, _, h⟩ => ⟨_, _, h⟩⟩
  exact g_walk 82 h Try.func6
end Go.Proofs.Yteolfpghafdmdaa
/- The example of the law's chapter on submissions. -/
namespace Go.Proofs.Yteolfpghafdmdaa
open Go Go.Sep Go.Sep.Bt
set_option linter.unusedSimpArgs false
set_option linter.unusedVariables false
set_option maxRecDepth 100000
abbrev idF (g : TagM) : List Value := [.int .i64 g.node, .int .u64 g.epoch, .int .u64 g.seq]
abbrev idK : List Ck := [.int .i64, .int .u64, .int .u64]
/-- A part of an element. -/
theorem s_idxPN {B : World} {Γ : List HProp} {α : Type} (f : α → List Value) {esz m : Nat} {L : List α} {s : Sl} {j : Nat} {jj : Int} {x : α} {k : Array Value → K} {us : List Value} (hf : ∀ x, (f x).length = esz) (hm : m ≤ esz) (he : 0 < esz) (hr : ∀ w, Holds B Γ w → RdC w s esz (L.flatMap f)) (hx : L[j]? = some x) (h : HG B Γ (k us.toArray)) (hu : (f x).take m = us := by rfl) (hj : jj = (j : Int) := by first | rfl | omega) :
    HG B Γ (Idx s jj esz fun t => LdN t m k) :=
  s_idxFA f hf he hr hx (fun t ht w hw => ⟨us.toArray, by rw [← hu]; simp [hf]; omega, fun i hi => by
    have hl : us.length = min m esz := by rw [← hu, List.length_take, hf]
    simp only [List.size_toArray] at hi
    have := ht w (hr w hw) i (by simp only [List.size_toArray, hf]; omega)
    rw [this]
    have e : (f x)[i]? = us[i]? := by rw [← hu, List.getElem?_take, if_pos (by omega)]
    simpa using e, h w hw⟩) hj
theorem f2_one {α β : Type} {R : α → β → Prop} {a : α} {l : List β} (h : F2 R [a] l) : ∃ b, l = [b] ∧ R a b := by
  cases h with
  | cons h1 h2 =>
    cases h2
    exact ⟨_, rfl, h1⟩
section
variable {B : World} {Γ Δ : List HProp}
theorem speaks21 {q : Bool → K} (h : HG B Γ (q true)) : HG B Γ (law21_speaks.call q) := fun w hw => by
  refine law21_speaks_ok _ _ ?_
  refine hg hw ?_
  clear hw w
  unfold law21_speaks
  refine frontNew_hg fun f => ?_
  refine schedNew_hg (n := 1) (by omega) (by omega) fun sd st => ?_
  refine s_f ?_
  unfold law21_speaks.s1
  refine s_f ?_
  refine s_new fun t23 => ?_
  refine s_own f ?_
  have hrt : ∀ s, rightT 1 ⟨1, [], [[97]], [], 0, ⟨none, 0, 0⟩, s, ⟨none, 0, 0⟩⟩ = true := fun s => by
    unfold rightT
    rw [if_neg (by simp [headBad]), if_neg (by simp [keysBad]), if_neg (by simp), if_neg (by simp)]
    rfl
  refine submit_hg (t := ⟨1, [], [[97]], [], 0, ⟨none, 0, 0⟩, ⟨some ⟨t23, 0, none⟩, 1, 1⟩, ⟨none, 0, 0⟩⟩) (fun w hw => ⟨RdC.none', ?_, RdC.none', by simp⟩) (by simp) (by omega) (fun hb => ?_) (fun hb => by simp at hb) fun _ _ b t' ht' => ?_
  · exact RdC.of_blk (E := ty_string) (b := t23) (vs := [strV [97]]) (cs := #[strV [97]]) hw (by simp) rfl rfl 1
  · rw [hrt] at hb; cases hb
  refine s_new fun id4 => ?_
  repeat refine s_nx ?_
  refine s_f ?_ (by simp)
  refine s_ldN (b := id4) (l' := [.int .i64 2, .int .u64 7, .int .u64 (0 + 1)]) ?_
  refine s_neS (xs := [.int .i64 2, .int .u64 7, .int .u64 (0 + 1)]) (ys := [.int .i64 2, .int .u64 7, .int .u64 1]) (ks := idK) (p := True) (by simp) ?_
  unfold law21_speaks.s2
  refine s_f ?_ (by simp)
  refine s_end (Δ := FrontR f 2 7 1 (0 + 1) ([] ++ [⟨b, ⟨2, 7, 0 + 1, 0⟩, t', none⟩]) :: SchR sd st :: StoreR st 1 [] :: Γ) ?_
  refine s_loop (α := Int) (ι := Nat × List EntX) (fun x i => x = (i.1 : Int) ∧ i.1 ≤ 3 ∧ (i.1 < 3 → ∃ e, i.2 = [e] ∧ e.tag = ⟨2, 7, 1, (i.1 : Int)⟩) ∧ (i.1 = 3 → i.2 = [])) (fun x i => FrontR f 2 7 1 (0 + 1) i.2 :: SchR sd st :: StoreR st 1 [] :: Γ) (fun x i => 3 - i.1) (0, [⟨b, ⟨2, 7, 0 + 1, 0⟩, t', none⟩]) ⟨rfl, by simp, fun _ => ⟨_, rfl, by simp⟩, fun h0 => by simp at h0⟩ ?_
  rintro k' _ ⟨i, E⟩ ⟨rfl, hi, hE1, hE3⟩ hk'
  simp only at hi hE1 hE3 hk' ⊢
  unfold law21_speaks.b3
  refine s_ite (fun hb => ?_) fun hb => ?_
  rotate_left
  · have hi3 : i = 3 := by simp only [decide_eq_false_iff_not] at hb; omega
    rw [hE3 hi3]
    refine open_hg (by simp) fun s hs => ?_
    rw [show decide ((s.n : Int) = 0) = true by simp; simpa using hs]
    exact s_end h
  have hi3 : i < 3 := by simp only [decide_eq_true_eq] at hb; omega
  obtain ⟨e, rfl, het⟩ := hE1 hi3
  refine orders_hg (by simp) fun E' out X hT hX => ?_
  obtain ⟨e', rfl, hT1⟩ := f2_one hT
  obtain ⟨x, rfl, hX1⟩ := f2_one hX
  obtain ⟨t1, t2, t3, o, t4, t5, t6, t7⟩ := hT1
  obtain ⟨x1, x2, x3⟩ := hX1
  refine s_cap out fun a1 a2 a3 a4 => ?_
  rw [flatMap_len _ 10 outL_len] at a1
  simp only [List.length_cons, List.length_nil] at a1
  have hon : out.n = 1 := by omega
  have hxt : x.1 = ⟨2, 7, 1, (i : Int)⟩ := by rw [x1, t2, het]
  have het' : e'.tag = ⟨2, 7, 1, (i : Int)⟩ := by rw [t2, het]
  refine s_f ?_ (by simp; omega)
  refine s_idxF1 outL (off := 3) (L := [x]) (j := 0) (c := Value.int .i64) (x := x) (v := x.1.tr) outL_len (fun w hw => (own_rd (s := out) hw).1) rfl rfl ?_
  rw [hxt]
  unfold law21_speaks.s4
  refine s_f ?_ (by simp)
  refine s_idxPN outL (m := 4) (L := [x]) (j := 0) (x := x) (us := tagF x.1) outL_len (by omega) (by omega) (fun w hw => (own_rd (s := out) hw).1) rfl ?_
  rw [hxt]
  repeat refine s_nx ?_
  refine s_own f ?_
  have htry : isTry ⟨2, 7, 1, (i : Int)⟩ e' = true := by unfold isTry; rw [het', t4]; simp
  refine decide_hg (g := ⟨2, 7, 1, (i : Int)⟩) (code := 112) (os := ⟨none, 0, 0⟩) (O := []) (by simp) (by simp) (fun w hw => RdC.none') (by simp) (by simp) (fun y hy => ?_) (fun hno => ?_) (fun A y C hA hy _ _ htr => ?_) fun A y C hA hy _ hno os' O' _ _ => ?_
  · rw [List.mem_singleton.1 hy, het']; simp only; omega
  · have := hno e' (by simp)
    rw [htry] at this; cases this
  · have hAe : A = [] ∧ y = e' ∧ C = [] := by
      cases A with
      | nil => simp at hA; exact ⟨rfl, hA.1.symm, hA.2⟩
      | cons a A => simp at hA
    obtain ⟨rfl, rfl, rfl⟩ := hAe
    rw [het'] at htr
    simp only at htr
    refine s_new fun r8 => ?_
    refine s_stN (b := r8) (l' := [.int .i64 0, .int .u64 0, .int .u64 0, .int .i64 0, Sl.val ⟨none, 0, 0⟩]) ?_
    refine s_f ?_ (by simp; omega)
    repeat refine s_nx ?_
    unfold law21_speaks.s5
    repeat refine s_nx ?_
    refine s_ai ?_
    have hfin := hk' ((i : Int) + 1) (i + 1, [restart y]) ⟨by simp, hi3, fun _ => ⟨_, rfl, by simp [restart, het']⟩, fun h3 => by omega⟩ (by simp only; omega)
    rw [List.nil_append]
    exact s_end hfin
  · have hAe : A = [] ∧ y = e' ∧ C = [] := by
      cases A with
      | nil => simp at hA; exact ⟨rfl, hA.1.symm, hA.2⟩
      | cons a A => simp at hA
    obtain ⟨rfl, rfl, rfl⟩ := hAe
    rw [het'] at hno
    simp only [true_and] at hno
    have hi2 : i = 2 := by omega
    subst hi2
    refine s_new fun r8 => ?_
    refine s_stN (b := r8) (l' := repL y.tag 141 os') ?_
    refine s_f ?_ (by simp)
    repeat refine s_nx ?_
    unfold law21_speaks.s5
    refine s_f ?_ (by simp)
    refine s_ai ?_
    have hfin := hk' (((2 : Nat) : Int) + 1) (3, []) ⟨by simp, by simp, fun h3 => by simp at h3, fun _ => rfl⟩ (by simp)
    rw [List.nil_append]
    exact s_end hfin
end
end Go.Proofs.Yteolfpghafdmdaa
/- Plain forms of functions, and that their code comes to them (package law21_FrontFull). -/
namespace Go.Proofs.Yteolfpghafdmdaa
open Go Go.Sep
set_option linter.unusedVariables false
set_option linter.unusedSimpArgs false
set_option maxRecDepth 100000
set_option maxHeartbeats 4000000
attribute [local irreducible] G Gp Cx Tx Ex Sx Dx Ox Ax Lx Rx Fx Bx Bj Al Do Ld LdN St StN New CallF Ar DoU Rd Rd2 Pu Cd Ite Fv CallV CallY Ans0 Ans1 Ans2 Ans3 Ans4 Ans5 Ext Dead Dr WithS Sv LdS LdNS RdS Rd2S Nn Idx IdxA IdxS Fld Bld Slc SlcS Cat All LoopK RangeF RangeJ TakeD
namespace F_IRLaw21FrontFull
instance at_36 : AT Try.prog 36 5 := ⟨by kernel_rfl⟩
instance at_39 : AT Try.prog 39 3 := ⟨by kernel_rfl⟩
instance at_43 : AT Try.prog 43 4 := ⟨by kernel_rfl⟩
instance cb_10 : CB Try.prog 10 := ⟨by kernel_rfl⟩
instance cb_11 : CB Try.prog 11 := ⟨by kernel_rfl⟩
instance cb_13 : CB Try.prog 13 := ⟨by kernel_rfl⟩
instance cb_14 : CB Try.prog 14 := ⟨by kernel_rfl⟩
instance cb_6 : CB Try.prog 6 := ⟨by kernel_rfl⟩
instance cb_7 : CB Try.prog 7 := ⟨by kernel_rfl⟩
instance cb_8 : CB Try.prog 8 := ⟨by kernel_rfl⟩
instance ct_27 : CT Try.prog 27 := ⟨by kernel_rfl⟩
instance ct_29 : CT Try.prog 29 := ⟨by kernel_rfl⟩
instance ft_39_2 : FT Try.prog 39 2 2 1 := ⟨by kernel_rfl⟩
instance ft_43_0 : FT Try.prog 43 0 0 3 := ⟨by kernel_rfl⟩
instance ft_46_0 : FT Try.prog 46 0 0 1 := ⟨by kernel_rfl⟩
instance ft_52_0 : FT Try.prog 52 0 0 3 := ⟨by kernel_rfl⟩
instance ft_52_1 : FT Try.prog 52 1 3 2 := ⟨by kernel_rfl⟩
instance ft_63_0 : FT Try.prog 63 0 0 4 := ⟨by kernel_rfl⟩
instance mx : MX Try.prog := ⟨mixed⟩
instance pl_36 : PLT Try.prog 36 [(0, 1), (1, 1), (2, 1), (3, 1), (4, 1)] := ⟨_, Try.underlying36, by kernel_rfl⟩
instance sl_49 : SLT Try.prog 49 63 10 := ⟨by kernel_rfl⟩
instance sl_55 : SLT Try.prog 55 39 3 := ⟨by kernel_rfl⟩
instance sz_36 : SZ Try.prog 36 5 := ⟨by kernel_rfl⟩
instance sz_39 : SZ Try.prog 39 3 := ⟨by kernel_rfl⟩
instance sz_52 : SZ Try.prog 52 5 := ⟨by kernel_rfl⟩
instance un_25 : UN Try.prog 25 (.pointer 69) := ⟨Try.underlying25⟩
instance un_28 : UN Try.prog 28 (.pointer 78) := ⟨Try.underlying28⟩
instance un_4 : UN Try.prog 4 .bool := ⟨Try.underlying4⟩
instance zt_36 : ZT Try.prog 36 (.agg #[(.int .i64 0), (Sl.val ⟨none, 0, 0⟩), (Sl.val ⟨none, 0, 0⟩), (Sl.val ⟨none, 0, 0⟩), (.int .i64 0)]) := ⟨Try.t36, by kernel_rfl, by kernel_rfl⟩
instance zt_39 : ZT Try.prog 39 (.agg #[(.int .i64 0), (.int .u64 0), (.int .u64 0)]) := ⟨Try.t39, by kernel_rfl, by kernel_rfl⟩
instance zt_52 : ZT Try.prog 52 (.agg #[(.int .i64 0), (.int .u64 0), (.int .u64 0), (.int .i64 0), (Sl.val ⟨none, 0, 0⟩)]) := ⟨Try.t52, by kernel_rfl, by kernel_rfl⟩
end F_IRLaw21FrontFull
def law21_FrontFull.s3 (Q : Bool → K) (X2 : Int → K) (n0_3 : Int) (f3_3 : (Option Addr)) (s4_3 : (Option Addr)) (t6_3 : Addr) (i7_3 : Int) (t56_3 : Bool) : K :=
  Ite t56_3
    (Q false)
    (Ar (IntKind.wrap .i64 (i7_3 + 1)) fun t37 =>
    X2 t37)
def law21_FrontFull.s4 (Q : Bool → K) (X2 : Int → K) (t2_4 : Bool) : K :=
  Q t2_4
def law21_FrontFull.b2 (Q : Bool → K)  (X2 : Int → K) (n0_2 : Int) (f3_2 : (Option Addr)) (s4_2 : (Option Addr)) (t6_2 : Addr) (i7_2 : Int) : K :=
  Ar (bitsOf .and .i64 n0_2 15) fun t33 =>
  Ar (IntKind.wrap .i64 (64 + t33)) fun t34 =>
  Ite (decide (i7_2 < t34))
    (LdN t6_2 5 fun t40 =>
    front_Front_Submit.call f3_2 t40 fun t41x0 t41x1 =>
    New 39 #[(.int .i64 0), (.int .u64 0), (.int .u64 0)] fun t8 =>
    StN t8 3 t41x0 <|
    Ite (!((decide (t41x1 = 0)) == (decide (i7_2 < 64))))
      (law21_FrontFull.s3 Q X2 n0_2 f3_2 s4_2 t6_2 i7_2 true)
      (Ite (decide (t41x1 ≠ 0))
        (law21_FrontFull.s3 Q X2 n0_2 f3_2 s4_2 t6_2 i7_2 (decide (t41x1 ≠ 2)))
        (law21_FrontFull.s3 Q X2 n0_2 f3_2 s4_2 t6_2 i7_2 false)))
    (front_Front_Orders.call f3_2 s4_2 fun t59 =>
    Ite (decide ((t59.n : Int) ≠ 64))
      (Q false)
      (Ar (bitsOf .and .i64 n0_2 63) fun t67 =>
      Idx t59 t67 10 fun t68 =>
      LdN t68 4 fun t70 =>
      front_Front_Full.call f3_2 t70 fun t71x0 t71x1 =>
      New 52 #[(.int .i64 0), (.int .u64 0), (.int .u64 0), (.int .i64 0), (Sl.val ⟨none, 0, 0⟩)] fun r11 =>
      StN r11 5 t71x0 <|
      Ar (bitsOf .and .i64 n0_2 63) fun t78 =>
      Idx t59 t78 10 fun t79 =>
      LdN t79 4 fun t81 =>
      front_Front_Full.call f3_2 t81 fun t82x0 t82x1 =>
      New 52 #[(.int .i64 0), (.int .u64 0), (.int .u64 0), (.int .i64 0), (Sl.val ⟨none, 0, 0⟩)] fun t13 =>
      StN t13 5 t82x0 <|
      LdN t6_2 5 fun t87 =>
      front_Front_Submit.call f3_2 t87 fun t88x0 t88x1 =>
      New 39 #[(.int .i64 0), (.int .u64 0), (.int .u64 0)] fun id15 =>
      StN id15 3 t88x0 <|
      Dr <|
      Ite t71x1
        (Ite (!t82x1)
          (Ar (bitsOf .and .i64 n0_2 63) fun t101 =>
          Idx t59 t101 10 fun t102 =>
          LdN r11 3 fun t98 =>
          LdN t102 3 fun t105 =>
          Pu Try.prog (do eqGuard .eql 39 (.tmp 98) (.tmp 105) (.agg t98) (.agg t105); binOp .eql 39 (.agg t98) (.agg t105) : Sem Value) Value.bool fun t106 =>
          Ite t106
            (Ld (r11.add 3) (Value.int .i64) fun t111 =>
            Ite (decide (t111 = 140))
              (Ite (decide (t88x1 = 0))
                (Ld (id15.add 2) (Value.int .u64) fun t120 =>
                Ite (decide (t120 = 65))
                  (front_Front_Open.call f3_2 fun t125 =>
                  law21_FrontFull.s4 Q X2 (decide ((t125.n : Int) = 64)))
                  (law21_FrontFull.s4 Q X2 false))
                (law21_FrontFull.s4 Q X2 false))
              (law21_FrontFull.s4 Q X2 false))
            (law21_FrontFull.s4 Q X2 false))
          (law21_FrontFull.s4 Q X2 false))
        (law21_FrontFull.s4 Q X2 false)))
def law21_FrontFull.s1 (Q : Bool → K)  (n0_1 : Int) (f3_1 : (Option Addr)) (s4_1 : (Option Addr)) (t29_1 : Bool) : K :=
  Ite t29_1
    (Q false)
    (New 36 #[(.int .i64 0), (Sl.val ⟨none, 0, 0⟩), (Sl.val ⟨none, 0, 0⟩), (Sl.val ⟨none, 0, 0⟩), (.int .i64 0)] fun t6 =>
    StN t6 5 #[(.int .i64 1), (Sl.val ⟨none, 0, 0⟩), (Sl.val ⟨none, 0, 0⟩), (Sl.val ⟨none, 0, 0⟩), (.int .i64 0)] <|
    LoopK (α := Int) (fun X x => law21_FrontFull.b2 Q X n0_1 f3_1 s4_1 t6 x) 0)
def law21_FrontFull (n0 : Int) (Q : Bool → K) : K :=
  law21_speaks.call  fun t17 =>
  Ite (!t17)
    (Q false)
    (front_New.call 0 1 1 fun t19 =>
    sched_New.call 1 fun t21x0 t21x1 =>
    Ite ((t19).isNone)
      (law21_FrontFull.s1 Q n0 t19 t21x0 true)
      (law21_FrontFull.s1 Q n0 t19 t21x0 ((t21x0).isNone)))
theorem law21_FrontFull_ok (n0 : Int) (Q : Bool → K) (w : World) (h : law21_FrontFull n0 Q w) : law21_FrontFull.call n0 Q w := by
  have hJ13 : ∀ (X2 : Int → K), XH 9 X2 → JH 13 fun D => ∃ (n0_3 : Int) (f3_3 : (Option Addr)) (s4_3 : (Option Addr)) (t6_3 : Addr) (i7_3 : Int), D [(0, (.int .i64 n0_3)), (3, (.pointer f3_3)), (4, (.pointer s4_3)), (6, (.pointer (some t6_3))), (7, (.int .i64 i7_3))] (fun C => ∀ (t56_3 : Bool), C [(0, (.int .i64 n0_3)), (3, (.pointer f3_3)), (4, (.pointer s4_3)), (6, (.pointer (some t6_3))), (7, (.int .i64 i7_3)), (56, (.bool t56_3))] (law21_FrontFull.s3 Q X2 n0_3 f3_3 s4_3 t6_3 i7_3 t56_3)) := by intros; exact ⟨fun _ ⟨_, _, _, _, _, h⟩ => ⟨_, _, h⟩⟩
  have hJ1000020 : ∀ (X2 : Int → K), XH 9 X2 → JH 1000020 fun D => D [] (fun C => ∀ (t2_4 : Bool), C [(2, (.bool t2_4))] (law21_FrontFull.s4 Q X2 t2_4)) := by intros; exact ⟨fun _ h => ⟨_, _, h⟩⟩
  have hD20 : DH 20 1 [34] (.s [0, 1] (.i (.s [2, 3, 4, 5] (.i (.s [6, 8, 9, 10, 11, 12, 13, 7, 14, 15, 16, 17] (.i (.s [18, 19, 20, 21, 22, 23] (.i (.s [24, 25, 26, 27] (.i (.s [28, 29, 30, 31, 32] (.i (.s [33] (.a [(34, 0, .s [35, 36, 37, 38] .e)])) (.s [33, 34, 35, 36, 37, 38] .e))) (.s [28, 29, 30, 31, 32, 33, 34, 35, 36, 37, 38] .e))) (.s [24, 25, 26, 27, 28, 29, 30, 31, 32, 33, 34, 35, 36, 37, 38] .e))) (.s [18, 19, 20, 21, 22, 23, 24, 25, 26, 27, 28, 29, 30, 31, 32, 33, 34, 35, 36, 37, 38] .e))) (.s [6, 7, 8, 9, 10, 11, 12, 13, 14, 15, 16, 17, 18, 19, 20, 21, 22, 23, 24, 25, 26, 27, 28, 29, 30, 31, 32, 33, 34, 35, 36, 37, 38] .e))) (.s [2, 3, 4, 5, 6, 7, 8, 9, 10, 11, 12, 13, 14, 15, 16, 17, 18, 19, 20, 21, 22, 23, 24, 25, 26, 27, 28, 29, 30, 31, 32, 33, 34, 35, 36, 37, 38] .e))) := by intros; exact ⟨⟩
  have hL9 : ∀ (n0_2 : Int) (f3_2 : (Option Addr)) (s4_2 : (Option Addr)) (t6_2 : Addr), LH 9 (fun x : Int => [(0, (.int .i64 n0_2)), (3, (.pointer f3_2)), (4, (.pointer s4_2)), (6, (.pointer (some t6_2))), (7, (.int .i64 x))]) (fun X x => law21_FrontFull.b2 Q X n0_2 f3_2 s4_2 t6_2 x) := by intros; exact ⟨⟩
  have hJ6 : JH 6 fun D => ∃ (n0_1 : Int) (f3_1 : (Option Addr)) (s4_1 : (Option Addr)), D [(0, (.int .i64 n0_1)), (3, (.pointer f3_1)), (4, (.pointer s4_1))] (fun C => ∀ (t29_1 : Bool), C [(0, (.int .i64 n0_1)), (3, (.pointer f3_1)), (4, (.pointer s4_1)), (29, (.bool t29_1))] (law21_FrontFull.s1 Q n0_1 f3_1 s4_1 t29_1)) := by intros; exact ⟨fun _ ⟨_, _, _, h⟩ => ⟨_, _, h⟩⟩
  exact g_walk 129 h Try.func5
end Go.Proofs.Yteolfpghafdmdaa
/- No more submissions are open than there may be; one that is answered makes room. -/
namespace Go.Proofs.Yteolfpghafdmdaa
open Go Go.Sep Go.Sep.Bt
set_option linter.unusedSimpArgs false
set_option linter.unusedVariables false
set_option maxRecDepth 100000
theorem bitsAnd_le (n m : Int) (b : Nat) (hm : (BitVec.ofInt 64 m).toNat ≤ b) (hb : b ≤ 9223372036854775807) : 0 ≤ bitsOf .and .i64 n m ∧ bitsOf .and .i64 n m ≤ b := by
  unfold bitsOf
  simp only
  have h1 : ((BitVec.ofInt IntKind.i64.bits n &&& BitVec.ofInt IntKind.i64.bits m).toNat) ≤ b := by
    rw [BitVec.toNat_and]
    exact Nat.le_trans Nat.and_le_right hm
  rw [wrap64 (by omega) (by omega)]
  omega
theorem told_tags {n : Nat} {M : Recs} {as' bs' : List EntX} (h : F2 (Told n M) as' bs') : bs'.map EntX.tag = as'.map EntX.tag := by
  induction h with
  | nil => rfl
  | cons h1 _ ih => simp [ih, h1.2.1]
theorem told_some {n : Nat} {M : Recs} {as' bs' : List EntX} (h : F2 (Told n M) as' bs') : ∀ e ∈ bs', e.ord.isSome = true := by
  induction h with
  | nil => intro e he; cases he
  | cons h1 _ ih =>
    intro e he
    rcases List.mem_cons.1 he with rfl | he
    · obtain ⟨_, _, _, o, h4, _⟩ := h1
      rw [h4]; rfl
    · exact ih e he
theorem outs_tags {as' : List EntX} {bs' : List OutX} (h : F2 OutIs as' bs') : bs'.map Prod.fst = as'.map EntX.tag := by
  induction h with
  | nil => rfl
  | cons h1 _ ih => simp [ih, h1.1]
abbrev tagN (j : Nat) : TagM := ⟨0, 1, (j : Int) + 1, 0⟩
abbrev t0X : TxX := ⟨1, [], [], [], 0, ⟨none, 0, 0⟩, ⟨none, 0, 0⟩, ⟨none, 0, 0⟩⟩
theorem t0_right : rightT 1 t0X = true := by
  unfold rightT
  rw [if_neg (by simp [headBad]), if_neg (by simp [keysBad]), if_neg (by simp), if_neg (by simp)]
  rfl
theorem tagN_nodup (m : Nat) : ((List.range m).map tagN).Nodup := by
  rw [List.Nodup, List.pairwise_map]
  exact List.nodup_range.imp fun {a b} h e => h (by simp only [tagN, TagM.mk.injEq] at e; omega)
theorem other_tag {A C : List EntX} {e : EntX} (h : ((A ++ e :: C).map EntX.tag).Nodup) : ∀ y ∈ A ++ C, y.tag ≠ e.tag := by
  rw [List.map_append, List.map_cons, List.nodup_append] at h
  obtain ⟨h1, h2, h3⟩ := h
  intro y hy e2
  rcases List.mem_append.1 hy with hy | hy
  · exact h3 _ (List.mem_map.2 ⟨y, hy, rfl⟩) e.tag (by simp) e2
  · have := (List.nodup_cons.1 h2).1
    rw [← e2] at this
    exact this (List.mem_map.2 ⟨y, hy, rfl⟩)
section
variable {B : World} {Γ Δ : List HProp} {q : Bool → K}
theorem s_ldNA {a : Addr} {m : Nat} {cs us : List Value} {k : Array Value → K} (hn : ∀ w, Holds B Γ w → RdN w a cs.toArray) (hm : m ≤ cs.length) (h : HG B Γ (k us.toArray)) (hu : cs.take m = us := by rfl) : HG B Γ (LdN a m k) := fun w hw =>
  ⟨us.toArray, by rw [← hu]; simp; omega, fun i hi => by
    have hl : us.length = min m cs.length := by rw [← hu, List.length_take]
    simp only [List.size_toArray] at hi
    rw [hn w hw i (by simp only [List.size_toArray]; omega)]
    have e : cs[i]? = us[i]? := by rw [← hu, List.getElem?_take, if_pos (by omega)]
    simpa using e, h w hw⟩
theorem t0_rd (w : World) : txRd w t0X := ⟨RdC.none', RdC.none', RdC.none', by simp⟩
theorem full_end {n0 : Int} {f sd st t6 : Nat} {E : List EntX} {X2 : Int → K} (hE : E.map EntX.tag = (List.range 64).map tagN) (h : HG B Γ (q true)) :
    HG B (FrontR f 0 1 1 64 E :: SchR sd st :: StoreR st 1 [] :: blk t6 (.cells (txL t0X).toArray ty_api_Txn (0, 0)) :: Γ) (front_Front_Orders.call (some ⟨f, 0, none⟩) (some ⟨sd, 0, none⟩) fun t59 =>
    Ite (decide ((t59.n : Int) ≠ 64))
      (q false)
      (Ar (bitsOf .and .i64 n0 63) fun t67 =>
      Idx t59 t67 10 fun t68 =>
      LdN t68 4 fun t70 =>
      front_Front_Full.call (some ⟨f, 0, none⟩) t70 fun t71x0 t71x1 =>
      New ty_api_Reply [.int .i64 0, .int .u64 0, .int .u64 0, .int .i64 0, Sl.val ⟨none, 0, 0⟩].toArray fun r11 =>
      StN r11 5 t71x0 <|
      Ar (bitsOf .and .i64 n0 63) fun t78 =>
      Idx t59 t78 10 fun t79 =>
      LdN t79 4 fun t81 =>
      front_Front_Full.call (some ⟨f, 0, none⟩) t81 fun t82x0 t82x1 =>
      New ty_api_Reply [.int .i64 0, .int .u64 0, .int .u64 0, .int .i64 0, Sl.val ⟨none, 0, 0⟩].toArray fun t13 =>
      StN t13 5 t82x0 <|
      LdN (⟨t6, 0, none⟩ : Addr) 5 fun t87 =>
      front_Front_Submit.call (some ⟨f, 0, none⟩) t87 fun t88x0 t88x1 =>
      New ty_api_Id [.int .i64 0, .int .u64 0, .int .u64 0].toArray fun id15 =>
      StN id15 3 t88x0 <|
      Dr <|
      Ite t71x1
        (Ite (!t82x1)
          (Ar (bitsOf .and .i64 n0 63) fun t101 =>
          Idx t59 t101 10 fun t102 =>
          LdN r11 3 fun t98 =>
          LdN t102 3 fun t105 =>
          Pu Try.prog (do eqGuard .eql ty_api_Id (.tmp 98) (.tmp 105) (.agg t98) (.agg t105); binOp .eql ty_api_Id (.agg t98) (.agg t105) : Sem Value) Value.bool fun t106 =>
          Ite t106
            (Ld (r11.add 3) (Value.int .i64) fun t111 =>
            Ite (decide (t111 = 140))
              (Ite (decide (t88x1 = 0))
                (Ld (id15.add 2) (Value.int .u64) fun t120 =>
                Ite (decide (t120 = 65))
                  (front_Front_Open.call (some ⟨f, 0, none⟩) fun t125 =>
                  law21_FrontFull.s4 q X2 (decide ((t125.n : Int) = 64)))
                  (law21_FrontFull.s4 q X2 false))
                (law21_FrontFull.s4 q X2 false))
              (law21_FrontFull.s4 q X2 false))
            (law21_FrontFull.s4 q X2 false))
          (law21_FrontFull.s4 q X2 false))
        (law21_FrontFull.s4 q X2 false))) := by
  have hEl : E.length = 64 := by have := congrArg List.length hE; simpa using this
  refine orders_hg (by omega) fun E' out X hT hX => ?_
  have hEl' := f2_len hT
  have hXl := f2_len hX
  have hEt : E'.map EntX.tag = (List.range 64).map tagN := by rw [told_tags hT, hE]
  have hXt : X.map Prod.fst = (List.range 64).map tagN := by rw [outs_tags hX, hEt]
  refine s_cap out fun a1 a2 a3 a4 => ?_
  rw [flatMap_len _ 10 outL_len] at a1
  refine s_f ?_ (by simp; omega)
  obtain ⟨m1, m2⟩ := bitsAnd_le n0 63 63 (by decide) (by decide)
  obtain ⟨j, hj⟩ : ∃ j : Nat, bitsOf .and .i64 n0 63 = (j : Int) := ⟨(bitsOf .and .i64 n0 63).toNat, by omega⟩
  have hj64 : j < 64 := by omega
  rw [hj]
  obtain ⟨x, hx⟩ : ∃ x, X[j]? = some x := ⟨_, List.getElem?_eq_getElem (show j < X.length by omega)⟩
  have hxt : x.1 = tagN j := by
    have := congrArg (·[j]?) hXt
    simp only [List.getElem?_map, hx, Option.map_some, List.getElem?_range hj64, Option.some.injEq] at this
    exact this
  refine s_ar rfl ?_
  refine s_idxPN outL (m := 4) (us := tagF x.1) outL_len (by omega) (by omega) (fun w hw => (own_rd (s := out) hw).1) hx ?_
  rw [hxt]
  refine s_own f ?_
  refine full_hg (g := tagN j) (by omega) (fun hno => ?_) fun A e C hA he _ => ?_
  · exfalso
    obtain ⟨e, he⟩ : ∃ e, E'[j]? = some e := ⟨_, List.getElem?_eq_getElem (show j < E'.length by omega)⟩
    have h1 := congrArg (·[j]?) hEt
    simp only [List.getElem?_map, he, Option.map_some, List.getElem?_range hj64, Option.some.injEq] at h1
    have h2 := hno e (List.mem_of_getElem? he)
    have h3 := told_some hT e (List.mem_of_getElem? he)
    unfold isTry at h2
    rw [h1, h3] at h2
    simp at h2
  have het : e.tag = tagN j := by
    unfold isTry at he
    simp only [Bool.and_eq_true, decide_eq_true_eq] at he
    exact he.1
  have hnd : ∀ y ∈ A ++ C, y.tag ≠ e.tag := other_tag (by rw [← hA, hEt]; exact tagN_nodup 64)
  have hACl : (A ++ C).length = 63 := by
    have := congrArg List.length hA
    simp only [List.length_append, List.length_cons] at this ⊢
    omega
  refine s_new fun r11 => ?_
  refine s_stN (b := r11) (l' := repL e.tag 140 ⟨none, 0, 0⟩) ?_
  refine s_ar rfl ?_
  refine s_idxPN outL (m := 4) (us := tagF x.1) outL_len (by omega) (by omega) (fun w hw => (own_rd (s := out) hw).1) hx ?_
  rw [hxt]
  refine s_own f ?_
  refine full_hg (g := tagN j) (by omega) (fun _ => ?_) fun A2 e2 C2 hA2 he2 _ => ?_
  rotate_left
  · exfalso
    unfold isTry at he2
    simp only [Bool.and_eq_true, decide_eq_true_eq] at he2
    exact hnd e2 (by rw [hA2]; simp) (by rw [he2.1, het])
  refine s_new fun t13 => ?_
  refine s_stN (b := t13) (l' := [.int .i64 0, .int .u64 0, .int .u64 0, .int .i64 0, Sl.val ⟨none, 0, 0⟩]) ?_
  refine s_ldN (b := t6) (l' := txL t0X) ?_
  refine s_own f ?_
  refine submit_hg (t := t0X) (fun w hw => t0_rd w) (by simp) (by omega) (fun hb => by rw [t0_right] at hb; cases hb) (fun hb => by omega) fun _ _ b t' ht' => ?_
  refine s_new fun id15 => ?_
  refine s_stN (b := id15) (l' := [.int .i64 0, .int .u64 1, .int .u64 (64 + 1)]) ?_
  refine s_dr ?_
  repeat refine s_nx ?_
  refine s_ar rfl ?_
  refine s_idxFA outL outL_len (by omega) (fun w hw => (own_rd (s := out) hw).1) hx fun t102 ht102 => ?_
  refine s_ldN (b := r11) (l' := idF e.tag) ?_
  refine s_ldNA (cs := outL x) (us := idF x.1) (fun w hw => ht102 w (own_rd (s := out) hw).1) (by rw [outL_len]; omega) ?_
  rw [hxt, het]
  refine s_eqS (xs := idF (tagN j)) (ys := idF (tagN j)) (ks := idK) (p := True) (by simp) ?_
  refine s_t ?_ (by simp)
  repeat refine s_nx ?_
  refine s_t ?_
  refine s_t ?_
  repeat refine s_nx ?_
  refine s_t ?_
  refine s_own f ?_
  refine open_hg (by simp only [List.length_append, List.length_cons, List.length_nil] at hACl ⊢; omega) fun s hs => ?_
  unfold law21_FrontFull.s4
  rw [show decide ((s.n : Int) = 64) = true by
    have : ((A ++ C) ++ [(⟨b, ⟨0, 1, 64 + 1, 0⟩, t', none⟩ : EntX)]).length = 64 := by rw [List.length_append, hACl]; rfl
    simp only [decide_eq_true_eq]; omega]
  exact s_end h
theorem FrontFull_hg {n0 : Int} (h : HG B Γ (q true)) : HG B Γ (law21_FrontFull.call n0 q) := fun w hw => by
  refine law21_FrontFull_ok _ _ _ ?_
  refine hg hw ?_
  clear hw w
  unfold law21_FrontFull
  refine speaks21 ?_
  refine s_f ?_
  refine frontNew_hg fun f => ?_
  refine schedNew_hg (n := 1) (by omega) (by omega) fun sd st => ?_
  refine s_f ?_
  unfold law21_FrontFull.s1
  refine s_f ?_
  refine s_new fun t6 => ?_
  refine s_stN (b := t6) (l' := txL t0X) ?_
  refine s_end (Δ := FrontR f 0 1 1 0 [] :: SchR sd st :: StoreR st 1 [] :: blk t6 (.cells (txL t0X).toArray ty_api_Txn (0, 0)) :: Γ) ?_
  obtain ⟨m1, m2⟩ := bitsAnd_le n0 15 15 (by decide) (by decide)
  refine s_loop (α := Int) (ι := Nat × Nat × List EntX) (fun x i => x = (i.1 : Int) ∧ i.1 ≤ 80 ∧ i.2.1 = min i.1 64 ∧ i.2.2.map EntX.tag = (List.range i.2.1).map tagN) (fun x i => FrontR f 0 1 1 (i.2.1 : Int) i.2.2 :: SchR sd st :: StoreR st 1 [] :: blk t6 (.cells (txL t0X).toArray ty_api_Txn (0, 0)) :: Γ) (fun x i => 80 - i.1) (0, 0, []) ⟨rfl, by simp, by simp, rfl⟩ ?_
  rintro k' _ ⟨i, c, E⟩ ⟨rfl, hi, hc, hE⟩ hk'
  simp only at hi hc hE hk' ⊢
  have hEl : E.length = c := by have := congrArg List.length hE; simpa using this
  unfold law21_FrontFull.b2
  refine s_ar (e' := bitsOf .and .i64 n0 15) rfl ?_
  refine s_ar (e' := 64 + bitsOf .and .i64 n0 15) (by rw [wrap64 (by omega) (by omega)]) ?_
  refine s_ite (fun hb => ?_) fun hb => ?_
  rotate_left
  · have hi64 : 64 ≤ i := by simp only [decide_eq_false_iff_not] at hb; omega
    have hc64 : c = 64 := by omega
    subst hc64
    exact full_end hE h
  have hi79 : i < 80 := by simp only [decide_eq_true_eq] at hb; omega
  refine s_ldN (b := t6) (l' := txL t0X) ?_
  refine submit_hg (t := t0X) (fun w hw => t0_rd w) (by simp) (by omega) (fun hb => by rw [t0_right] at hb; cases hb) (fun hf => ?_) fun _ hlt b t' ht' => ?_
  · have hi64 : 64 ≤ i := by omega
    refine s_new fun t8 => ?_
    refine s_stN (b := t8) (l' := [.int .i64 0, .int .u64 0, .int .u64 0]) ?_
    refine s_f ?_ (by simp; omega)
    refine s_t ?_
    unfold law21_FrontFull.s3
    refine s_f ?_
    refine s_ai ?_
    have hfin := hk' ((i : Int) + 1) (i + 1, c, E) ⟨by simp, by omega, by simp only; omega, hE⟩ (by simp only; omega)
    exact s_end hfin
  · have hi64 : i < 64 := by omega
    refine s_new fun t8 => ?_
    refine s_stN (b := t8) (l' := [.int .i64 0, .int .u64 1, .int .u64 ((c : Int) + 1)]) ?_
    refine s_f ?_ (by simp; omega)
    refine s_f ?_
    unfold law21_FrontFull.s3
    refine s_f ?_
    refine s_ai ?_
    have hfin := hk' ((i : Int) + 1) (i + 1, c + 1, E ++ [⟨b, ⟨0, 1, (c : Int) + 1, 0⟩, t', none⟩]) ⟨by simp, by omega, by simp only; omega, by rw [List.map_append, hE, List.range_succ, List.map_append]; rfl⟩ (by simp only; omega)
    rw [show (((c + 1 : Nat) : Int)) = (c : Int) + 1 by simp] at hfin
    exact s_end hfin
end
end Go.Proofs.Yteolfpghafdmdaa

namespace Go.Proofs.Yteolfpghafdmdaa
open Go Go.Sep Go.RowKit
theorem FrontFull_walk (W : World) (x : Int) (hx : (Lit.int .i64 x).wf = true) :
    Calls Try.prog 5 #[.int .i64 x] W (Ret fun v w' => v = .bool true ∧ Below W.heap.size W w') :=
  law_call (FrontFull_hg (Γ := []) (fun w h => ⟨rfl, h⟩) W (Holds.start W))
end Go.Proofs.Yteolfpghafdmdaa
/- How the arguments of laws read. -/
namespace Go.Proofs.Yteolfpghafdmdaa
open Go Go.Sep
def Sh_ty_int : Sh := (.int .i64)
theorem sh_3 : mkSh Try.prog 9 3 = Sh_ty_int := by kernel_rfl
def Sh_ty_s_api_Txn : Sh := (.sl (.fld 0 1 (.int .i64) (.fld 1 1 (.sl .str 1) (.fld 2 1 (.sl .str 1) (.fld 3 1 (.sl (.fld 0 1 (.int .i64) (.fld 1 1 .str (.fld 2 1 (.sl (.int .u8) 1) (.fld 3 1 (.int .i64) .nil)))) 4) (.fld 4 1 (.int .i64) .nil))))) 5)
theorem sh_22 : mkSh Try.prog 9 22 = Sh_ty_s_api_Txn := by kernel_rfl
def Sh_ty_s_api_Decision : Sh := (.sl (.fld 0 4 (.fld 0 3 (.fld 0 1 (.int .i64) (.fld 1 1 (.int .u64) (.fld 2 1 (.int .u64) .nil))) (.fld 3 1 (.int .i64) .nil)) (.fld 4 2 (.fld 0 1 (.int .i64) (.fld 1 1 (.sl (.fld 0 1 .bool (.fld 1 1 (.sl (.int .u8) 1) .nil)) 2) .nil)) .nil)) 6)
theorem sh_23 : mkSh Try.prog 9 23 = Sh_ty_s_api_Decision := by kernel_rfl
def Sh_ty_s_int : Sh := (.sl (.int .i64) 1)
theorem sh_58 : mkSh Try.prog 9 58 = Sh_ty_s_int := by kernel_rfl
end Go.Proofs.Yteolfpghafdmdaa
/- A transaction that a law is given can be read. -/
namespace Go.Proofs.Yteolfpghafdmdaa
open Go Go.Sep Go.RowKit
set_option linter.unusedSimpArgs false
set_option linter.unusedVariables false
theorem flatMap1 {α β : Type} (f : α → β) (L : List α) : L.flatMap (fun x => [f x]) = L.map f := by induction L <;> simp_all
theorem rdy_op {w : World} {cs : List Value} (hc : cs.length = 4) (y : Rdy w (.fld 0 1 (.int .i64) (.fld 1 1 .str (.fld 2 1 (.sl (.int .u8) 1) (.fld 3 1 (.int .i64) .nil)))) cs) :
    ∃ x : OpX, cs = opF x ∧ RdB w x.2 x.1.val ∧ -9223372036854775808 ≤ x.1.n ∧ x.1.n ≤ 9223372036854775807 := by
  match cs, hc with
  | [a, b, c, d], _ =>
    obtain ⟨⟨x0, e0, _⟩, ⟨x1, e1, _⟩, ⟨s, e2, _, _, h1, h2⟩, ⟨x3, e3, w3⟩, _⟩ := y
    cases e0; cases e1; cases e2; cases e3
    simp [Lit.wf, IntKind.min, IntKind.max, IntKind.signed, IntKind.bits] at w3
    obtain ⟨xs, _, h3⟩ := rd_bytes h1 h2
    obtain ⟨l, rfl⟩ := bs_of x1
    exact ⟨(⟨x0, l, xs, x3⟩, s), rfl, h3, by simp only; omega⟩
theorem rdy_texts {w : World} {s : Sl} (h1 : s.a = none → s.n = 0 ∧ s.c = 0) (h2 : ∀ a i, s.a = some a → i < s.n → ∃ cs', cs'.length = 1 ∧ (∀ j, j < 1 → w.cell? (a.add (i * 1 + j)) = cs'[j]?) ∧ Rdy w .str cs') : ∃ L : List (List UInt8), RdC w s 1 (L.map strV) := by
  obtain ⟨L, _, hL, _⟩ := rd_list (fun x : List UInt8 => [strV x]) (fun _ => True) (fun _ => rfl) h1 h2 fun cs hc hr => by
    obtain ⟨b, rfl, _⟩ := hr
    obtain ⟨x, rfl⟩ := bs_of b
    exact ⟨x, rfl, trivial⟩
  exact ⟨L, by rw [flatMap1] at hL; exact hL⟩
theorem txRd_old {B w : World} {Γ : List HProp} {t : TxX} (h : txRd B t) (hw : Holds B Γ w) : txRd w t := ⟨h.1.old hw, h.2.1.old hw, h.2.2.1.old hw, fun x hx => (h.2.2.2 x hx).old hw⟩
end Go.Proofs.Yteolfpghafdmdaa
/- Plain forms of functions, and that their code comes to them (package law21_FrontOnce). -/
namespace Go.Proofs.Yteolfpghafdmdaa
open Go Go.Sep
set_option linter.unusedVariables false
set_option linter.unusedSimpArgs false
set_option maxRecDepth 100000
set_option maxHeartbeats 4000000
attribute [local irreducible] G Gp Cx Tx Ex Sx Dx Ox Ax Lx Rx Fx Bx Bj Al Do Ld LdN St StN New CallF Ar DoU Rd Rd2 Pu Cd Ite Fv CallV CallY Ans0 Ans1 Ans2 Ans3 Ans4 Ans5 Ext Dead Dr WithS Sv LdS LdNS RdS Rd2S Nn Idx IdxA IdxS Fld Bld Slc SlcS Cat All LoopK RangeF RangeJ TakeD
namespace F_IRLaw21FrontOnce
instance at_36 : AT Try.prog 36 5 := ⟨by kernel_rfl⟩
instance at_39 : AT Try.prog 39 3 := ⟨by kernel_rfl⟩
instance at_48 : AT Try.prog 48 6 := ⟨by kernel_rfl⟩
instance cb_10 : CB Try.prog 10 := ⟨by kernel_rfl⟩
instance cb_11 : CB Try.prog 11 := ⟨by kernel_rfl⟩
instance cb_12 : CB Try.prog 12 := ⟨by kernel_rfl⟩
instance cb_13 : CB Try.prog 13 := ⟨by kernel_rfl⟩
instance cb_6 : CB Try.prog 6 := ⟨by kernel_rfl⟩
instance cb_7 : CB Try.prog 7 := ⟨by kernel_rfl⟩
instance cb_8 : CB Try.prog 8 := ⟨by kernel_rfl⟩
instance cb_9 : CB Try.prog 9 := ⟨by kernel_rfl⟩
instance ct_29 : CT Try.prog 29 := ⟨by kernel_rfl⟩
instance ct_44 : CT Try.prog 44 := ⟨by kernel_rfl⟩
instance ft_43_0 : FT Try.prog 43 0 0 3 := ⟨by kernel_rfl⟩
instance ft_46_0 : FT Try.prog 46 0 0 1 := ⟨by kernel_rfl⟩
instance ft_46_1 : FT Try.prog 46 1 1 1 := ⟨by kernel_rfl⟩
instance ft_48_0 : FT Try.prog 48 0 0 4 := ⟨by kernel_rfl⟩
instance ft_48_1 : FT Try.prog 48 1 4 2 := ⟨by kernel_rfl⟩
instance ft_52_0 : FT Try.prog 52 0 0 3 := ⟨by kernel_rfl⟩
instance ft_52_1 : FT Try.prog 52 1 3 2 := ⟨by kernel_rfl⟩
instance mx : MX Try.prog := ⟨mixed⟩
instance sl_22 : SLT Try.prog 22 36 5 := ⟨by kernel_rfl⟩
instance sl_23 : SLT Try.prog 23 48 6 := ⟨by kernel_rfl⟩
instance sl_44 : SLT Try.prog 44 95 2 := ⟨by kernel_rfl⟩
instance sl_55 : SLT Try.prog 55 39 3 := ⟨by kernel_rfl⟩
instance sz_36 : SZ Try.prog 36 5 := ⟨by kernel_rfl⟩
instance sz_39 : SZ Try.prog 39 3 := ⟨by kernel_rfl⟩
instance sz_48 : SZ Try.prog 48 6 := ⟨by kernel_rfl⟩
instance sz_52 : SZ Try.prog 52 5 := ⟨by kernel_rfl⟩
instance un_25 : UN Try.prog 25 (.pointer 69) := ⟨Try.underlying25⟩
instance un_28 : UN Try.prog 28 (.pointer 78) := ⟨Try.underlying28⟩
instance zt_36 : ZT Try.prog 36 (.agg #[(.int .i64 0), (Sl.val ⟨none, 0, 0⟩), (Sl.val ⟨none, 0, 0⟩), (Sl.val ⟨none, 0, 0⟩), (.int .i64 0)]) := ⟨Try.t36, by kernel_rfl, by kernel_rfl⟩
instance zt_39 : ZT Try.prog 39 (.agg #[(.int .i64 0), (.int .u64 0), (.int .u64 0)]) := ⟨Try.t39, by kernel_rfl, by kernel_rfl⟩
instance zt_48 : ZT Try.prog 48 (.agg #[(.int .i64 0), (.int .u64 0), (.int .u64 0), (.int .i64 0), (.int .i64 0), (Sl.val ⟨none, 0, 0⟩)]) := ⟨Try.t48, by kernel_rfl, by kernel_rfl⟩
instance zt_52 : ZT Try.prog 52 (.agg #[(.int .i64 0), (.int .u64 0), (.int .u64 0), (.int .i64 0), (Sl.val ⟨none, 0, 0⟩)]) := ⟨Try.t52, by kernel_rfl, by kernel_rfl⟩
end F_IRLaw21FrontOnce
def law21_FrontOnce.s4 (Q : Bool → K) (X3 : Int → K) (list1_4 : Sl) (f5_4 : (Option Addr)) (s6_4 : (Option Addr)) (taken8_4 : (Option Nat)) (answered9_4 : (Option Nat)) (t41_4 : Sl) (t42_4 : Int) (t43_4 : Int) : K :=
  Ar (IntKind.wrap .i64 (t43_4 + 1)) fun t62 =>
  X3 t62
def law21_FrontOnce.s6 (Q : Bool → K) (X3 : Int → K) (X5 : Int → K) (f5_6 : (Option Addr)) (s6_6 : (Option Addr)) (taken8_6 : (Option Nat)) (answered9_6 : (Option Nat)) (t63_6 : Sl) (t64_6 : Int) (t65_6 : Int) : K :=
  Ar (IntKind.wrap .i64 (t65_6 + 1)) fun t113 =>
  X5 t113
def law21_FrontOnce.s7 (Q : Bool → K) (X3 : Int → K) (X5 : Int → K) (f5_7 : (Option Addr)) (s6_7 : (Option Addr)) (taken8_7 : (Option Nat)) (answered9_7 : (Option Nat)) (r16_7 : Addr) (t63_7 : Sl) (t64_7 : Int) (t65_7 : Int) (t109_7 : Bool) : K :=
  Ite t109_7
    (Q false)
    (LdN r16_7 3 fun t112 =>
    DoU Try.prog (Instr.mapUpdate 32 (.map answered9_7) (.agg t112) (.bool true)) <|
    law21_FrontOnce.s6 Q X3 X5 f5_7 s6_7 taken8_7 answered9_7 t63_7 t64_7 t65_7)
def law21_FrontOnce.b5 (Q : Bool → K) (X3 : Int → K) (X5 : Int → K) (f5_5 : (Option Addr)) (s6_5 : (Option Addr)) (taken8_5 : (Option Nat)) (answered9_5 : (Option Nat)) (t63_5 : Sl) (t64_5 : Int) (t65_5 : Int) : K :=
  Ite (decide (t65_5 < t64_5))
    (Idx t63_5 t65_5 6 fun t67 =>
    LdN t67 6 fun t68 =>
    New 48 #[(.int .i64 0), (.int .u64 0), (.int .u64 0), (.int .i64 0), (.int .i64 0), (Sl.val ⟨none, 0, 0⟩)] fun d15 =>
    StN d15 6 t68 <|
    Ld ((d15.add 4).add 1) Sl.val fun t71 =>
    Ite (decide ((50 : Int) < (t71.n : Int)))
      (Q true)
      (front_Front_Orders.call f5_5 s6_5 fun t76 =>
      LdN d15 6 fun t79 =>
      front_Front_Decide.call f5_5 t79 fun t80x0 t80x1 =>
      New 52 #[(.int .i64 0), (.int .u64 0), (.int .u64 0), (.int .i64 0), (Sl.val ⟨none, 0, 0⟩)] fun r16 =>
      StN r16 5 t80x0 <|
      Ite (!t80x1)
        (law21_FrontOnce.s6 Q X3 X5 f5_5 s6_5 taken8_5 answered9_5 t63_5 t64_5 t65_5)
        (LdN r16 3 fun t87 =>
        Rd Try.prog (Instr.lookup 32 (.map taken8_5) (.agg t87) false) Value.bool fun t88 =>
        Ite (!t88)
          (law21_FrontOnce.s7 Q X3 X5 f5_5 s6_5 taken8_5 answered9_5 r16 t63_5 t64_5 t65_5 true)
          (LdN r16 3 fun t93 =>
          Rd Try.prog (Instr.lookup 32 (.map answered9_5) (.agg t93) false) Value.bool fun t94 =>
          Ite t94
            (law21_FrontOnce.s7 Q X3 X5 f5_5 s6_5 taken8_5 answered9_5 r16 t63_5 t64_5 t65_5 true)
            (LdN r16 3 fun t98 =>
            LdN d15 3 fun t101 =>
            Pu Try.prog (do eqGuard .neq 39 (.tmp 98) (.tmp 101) (.agg t98) (.agg t101); binOp .neq 39 (.agg t98) (.agg t101) : Sem Value) Value.bool fun t102 =>
            Ite t102
              (law21_FrontOnce.s7 Q X3 X5 f5_5 s6_5 taken8_5 answered9_5 r16 t63_5 t64_5 t65_5 true)
              (Ld (r16.add 3) (Value.int .i64) fun t107 =>
              law21_FrontOnce.s7 Q X3 X5 f5_5 s6_5 taken8_5 answered9_5 r16 t63_5 t64_5 t65_5 (decide (t107 = 112))))))))
    (front_Front_Open.call f5_5 fun t115 =>
    Rd Try.prog (Builtin.len_ #[32] 3 #[(.map taken8_5)]) (Value.int .i64) fun t118 =>
    Rd Try.prog (Builtin.len_ #[32] 3 #[(.map answered9_5)]) (Value.int .i64) fun t120 =>
    Ar (IntKind.wrap .i64 (t118 - t120)) fun t121 =>
    Q (decide ((t115.n : Int) = t121)))
def law21_FrontOnce.b3 (Q : Bool → K)  (X3 : Int → K) (list1_3 : Sl) (f5_3 : (Option Addr)) (s6_3 : (Option Addr)) (taken8_3 : (Option Nat)) (answered9_3 : (Option Nat)) (t41_3 : Sl) (t42_3 : Int) (t43_3 : Int) : K :=
  Ite (decide (t43_3 < t42_3))
    (Idx t41_3 t43_3 5 fun t45 =>
    LdN t45 5 fun t46 =>
    New 36 #[(.int .i64 0), (Sl.val ⟨none, 0, 0⟩), (Sl.val ⟨none, 0, 0⟩), (Sl.val ⟨none, 0, 0⟩), (.int .i64 0)] fun t11 =>
    StN t11 5 t46 <|
    LdN t11 5 fun t47 =>
    ref05_Great.call t47 fun t48 =>
    Ite t48
      (Q true)
      (LdN t11 5 fun t51 =>
      front_Front_Submit.call f5_3 t51 fun t52x0 t52x1 =>
      New 39 #[(.int .i64 0), (.int .u64 0), (.int .u64 0)] fun id12 =>
      StN id12 3 t52x0 <|
      Ite (decide (t52x1 = 0))
        (LdN id12 3 fun t58 =>
        Rd Try.prog (Instr.lookup 32 (.map taken8_3) (.agg t58) false) Value.bool fun t59 =>
        Ite t59
          (Q false)
          (LdN id12 3 fun t61 =>
          DoU Try.prog (Instr.mapUpdate 32 (.map taken8_3) (.agg t61) (.bool true)) <|
          law21_FrontOnce.s4 Q X3 list1_3 f5_3 s6_3 taken8_3 answered9_3 t41_3 t42_3 t43_3))
        (law21_FrontOnce.s4 Q X3 list1_3 f5_3 s6_3 taken8_3 answered9_3 t41_3 t42_3 t43_3)))
    (LoopK (α := Int) (fun X x => law21_FrontOnce.b5 Q X3 X f5_3 s6_3 taken8_3 answered9_3 list1_3 (list1_3.n : Int) x) 0)
def law21_FrontOnce.s2 (Q : Bool → K)  (txns0_2 : Sl) (list1_2 : Sl) (f5_2 : (Option Addr)) (s6_2 : (Option Addr)) (t38_2 : Bool) : K :=
  Ite t38_2
    (Q false)
    (Do Try.prog (Instr.makeMap 32 none) Value.map fun t39 =>
    Do Try.prog (Instr.makeMap 32 none) Value.map fun t40 =>
    LoopK (α := Int) (fun X x => law21_FrontOnce.b3 Q X list1_2 f5_2 s6_2 t39 t40 txns0_2 (txns0_2.n : Int) x) 0)
def law21_FrontOnce.s1 (Q : Bool → K)  (txns0_1 : Sl) (list1_1 : Sl) (t27_1 : Bool) : K :=
  Ite t27_1
    (Q true)
    (front_New.call 1 1 3 fun t28 =>
    sched_New.call 3 fun t30x0 t30x1 =>
    Ite ((t28).isNone)
      (law21_FrontOnce.s2 Q txns0_1 list1_1 t28 t30x0 true)
      (law21_FrontOnce.s2 Q txns0_1 list1_1 t28 t30x0 ((t30x0).isNone)))
def law21_FrontOnce (txns0 : Sl) (list1 : Sl) (Q : Bool → K) : K :=
  law21_speaks.call  fun t18 =>
  Ite (!t18)
    (Q false)
    (Ite (decide ((30 : Int) < (txns0.n : Int)))
      (law21_FrontOnce.s1 Q txns0 list1 true)
      (law21_FrontOnce.s1 Q txns0 list1 (decide ((100 : Int) < (list1.n : Int)))))
theorem law21_FrontOnce_ok (txns0 : Sl) (list1 : Sl) (Q : Bool → K) (w : World) (h : law21_FrontOnce txns0 list1 Q w) : law21_FrontOnce.call txns0 list1 Q w := by
  have hJ20 : ∀ (X3 : Int → K), XH 11 X3 → JH 20 fun D => ∃ (list1_4 : Sl) (f5_4 : (Option Addr)) (s6_4 : (Option Addr)) (taken8_4 : (Option Nat)) (answered9_4 : (Option Nat)) (t41_4 : Sl) (t42_4 : Int) (t43_4 : Int), D [(1, (Sl.val list1_4)), (5, (.pointer f5_4)), (6, (.pointer s6_4)), (8, (.map taken8_4)), (9, (.map answered9_4)), (41, (Sl.val t41_4)), (42, (.int .i64 t42_4)), (43, (.int .i64 t43_4))] (fun C => C [(1, (Sl.val list1_4)), (5, (.pointer f5_4)), (6, (.pointer s6_4)), (8, (.map taken8_4)), (9, (.map answered9_4)), (41, (Sl.val t41_4)), (42, (.int .i64 t42_4)), (43, (.int .i64 t43_4))] (law21_FrontOnce.s4 Q X3 list1_4 f5_4 s6_4 taken8_4 answered9_4 t41_4 t42_4 t43_4)) := by intros; exact ⟨fun _ ⟨_, _, _, _, _, _, _, _, h⟩ => ⟨_, _, h⟩⟩
  have hJ32 : ∀ (X3 : Int → K), XH 11 X3 → ∀ (X5 : Int → K), XH 22 X5 → JH 32 fun D => ∃ (f5_6 : (Option Addr)) (s6_6 : (Option Addr)) (taken8_6 : (Option Nat)) (answered9_6 : (Option Nat)) (t63_6 : Sl) (t64_6 : Int) (t65_6 : Int), D [(5, (.pointer f5_6)), (6, (.pointer s6_6)), (8, (.map taken8_6)), (9, (.map answered9_6)), (63, (Sl.val t63_6)), (64, (.int .i64 t64_6)), (65, (.int .i64 t65_6))] (fun C => C [(5, (.pointer f5_6)), (6, (.pointer s6_6)), (8, (.map taken8_6)), (9, (.map answered9_6)), (63, (Sl.val t63_6)), (64, (.int .i64 t64_6)), (65, (.int .i64 t65_6))] (law21_FrontOnce.s6 Q X3 X5 f5_6 s6_6 taken8_6 answered9_6 t63_6 t64_6 t65_6)) := by intros; exact ⟨fun _ ⟨_, _, _, _, _, _, _, h⟩ => ⟨_, _, h⟩⟩
  have hJ30 : ∀ (X3 : Int → K), XH 11 X3 → ∀ (X5 : Int → K), XH 22 X5 → JH 30 fun D => ∃ (f5_7 : (Option Addr)) (s6_7 : (Option Addr)) (taken8_7 : (Option Nat)) (answered9_7 : (Option Nat)) (r16_7 : Addr) (t63_7 : Sl) (t64_7 : Int) (t65_7 : Int), D [(5, (.pointer f5_7)), (6, (.pointer s6_7)), (8, (.map taken8_7)), (9, (.map answered9_7)), (16, (.pointer (some r16_7))), (63, (Sl.val t63_7)), (64, (.int .i64 t64_7)), (65, (.int .i64 t65_7))] (fun C => ∀ (t109_7 : Bool), C [(5, (.pointer f5_7)), (6, (.pointer s6_7)), (8, (.map taken8_7)), (9, (.map answered9_7)), (16, (.pointer (some r16_7))), (63, (Sl.val t63_7)), (64, (.int .i64 t64_7)), (65, (.int .i64 t65_7)), (109, (.bool t109_7))] (law21_FrontOnce.s7 Q X3 X5 f5_7 s6_7 taken8_7 answered9_7 r16_7 t63_7 t64_7 t65_7 t109_7)) := by intros; exact ⟨fun _ ⟨_, _, _, _, _, _, _, _, h⟩ => ⟨_, _, h⟩⟩
  have hL22 : ∀ (X3 : Int → K), XH 11 X3 → ∀ (f5_5 : (Option Addr)) (s6_5 : (Option Addr)) (taken8_5 : (Option Nat)) (answered9_5 : (Option Nat)) (t63_5 : Sl) (t64_5 : Int), LH 22 (fun x : Int => [(5, (.pointer f5_5)), (6, (.pointer s6_5)), (8, (.map taken8_5)), (9, (.map answered9_5)), (63, (Sl.val t63_5)), (64, (.int .i64 t64_5)), (65, (.int .i64 x))]) (fun X x => law21_FrontOnce.b5 Q X3 X f5_5 s6_5 taken8_5 answered9_5 t63_5 t64_5 x) := by intros; exact ⟨⟩
  have hL11 : ∀ (list1_3 : Sl) (f5_3 : (Option Addr)) (s6_3 : (Option Addr)) (taken8_3 : (Option Nat)) (answered9_3 : (Option Nat)) (t41_3 : Sl) (t42_3 : Int), LH 11 (fun x : Int => [(1, (Sl.val list1_3)), (5, (.pointer f5_3)), (6, (.pointer s6_3)), (8, (.map taken8_3)), (9, (.map answered9_3)), (41, (Sl.val t41_3)), (42, (.int .i64 t42_3)), (43, (.int .i64 x))]) (fun X x => law21_FrontOnce.b3 Q X list1_3 f5_3 s6_3 taken8_3 answered9_3 t41_3 t42_3 x) := by intros; exact ⟨⟩
  have hJ8 : JH 8 fun D => ∃ (txns0_2 : Sl) (list1_2 : Sl) (f5_2 : (Option Addr)) (s6_2 : (Option Addr)), D [(0, (Sl.val txns0_2)), (1, (Sl.val list1_2)), (5, (.pointer f5_2)), (6, (.pointer s6_2))] (fun C => ∀ (t38_2 : Bool), C [(0, (Sl.val txns0_2)), (1, (Sl.val list1_2)), (5, (.pointer f5_2)), (6, (.pointer s6_2)), (38, (.bool t38_2))] (law21_FrontOnce.s2 Q txns0_2 list1_2 f5_2 s6_2 t38_2)) := by intros; exact ⟨fun _ ⟨_, _, _, _, h⟩ => ⟨_, _, h⟩⟩
  have hJ4 : JH 4 fun D => ∃ (txns0_1 : Sl) (list1_1 : Sl), D [(0, (Sl.val txns0_1)), (1, (Sl.val list1_1))] (fun C => ∀ (t27_1 : Bool), C [(0, (Sl.val txns0_1)), (1, (Sl.val list1_1)), (27, (.bool t27_1))] (law21_FrontOnce.s1 Q txns0_1 list1_1 t27_1)) := by intros; exact ⟨fun _ ⟨_, _, h⟩ => ⟨_, _, h⟩⟩
  exact g_walk 123 h Try.func3
end Go.Proofs.Yteolfpghafdmdaa
/- Each submission is answered once at most. -/
namespace Go.Proofs.Yteolfpghafdmdaa
open Go Go.Sep Go.Sep.Bt
set_option linter.unusedSimpArgs false
set_option linter.unusedVariables false
set_option maxRecDepth 100000
structure IdM where
  node : Int
  epoch : Int
  seq : Int
deriving DecidableEq
abbrev idOf (g : TagM) : IdM := ⟨g.node, g.epoch, g.seq⟩
abbrev idL (g : IdM) : List Value := [.int .i64 g.node, .int .u64 g.epoch, .int .u64 g.seq]
theorem idL_inj {a b : IdM} : idL a = idL b ↔ a = b := by
  cases a; cases b; simp [idL]
theorem keyS_id : KeyS Try.prog ty_api_Id idL := ⟨by kernel_rfl, ⟨idK, by kernel_rfl, fun _ => rfl⟩, fun a b h => idL_inj.1 h, fun a => by simp [Instr.sameBits]⟩
structure DecM where
  tag : TagM
  code : Int
  outs : OX
  os : Sl
abbrev decF (d : DecM) : List Value := decL d.tag d.code d.os
theorem decF_len (d : DecM) : (decF d).length = 6 := rfl
abbrev IdB := List (IdM × Bool)
theorem mset_new {m : IdB} {a : IdM} {v : Bool} (h : ∀ p ∈ m, p.1 ≠ a) : mset a v m = m ++ [(a, v)] := by
  rcases mfind a m with ⟨_, h2, _, _⟩ | ⟨j, x, hj, h0, _, _, _, _⟩
  · exact h2 v
  · exact absurd rfl (h _ (List.mem_of_getElem? h0))
theorem mget_no {m : IdB} {a : IdM} (h : ∀ p ∈ m, p.1 ≠ a) : (mget a m).getD false = false := by
  rcases mfind a m with ⟨h1, _⟩ | ⟨j, x, hj, h0, _⟩
  · rw [h1]; rfl
  · exact absurd rfl (h _ (List.mem_of_getElem? h0))
theorem mget_yes {m : IdB} {a : IdM} (h : a ∈ m.map Prod.fst) (ht : ∀ p ∈ m, p.2 = true) : (mget a m).getD false = true := by
  rcases mfind a m with ⟨_, _, _, h4⟩ | ⟨j, x, hj, h0, _, h1, _⟩
  · obtain ⟨p, hp, rfl⟩ := List.mem_map.1 h
    exact absurd rfl (h4 p hp)
  · rw [h1]
    exact ht _ (List.mem_of_getElem? h0)
section
instance (priority := high) adr_add00 {b n m : Nat} : AdrIs (((⟨b, 0, none⟩ : Addr).add n).add m) b (n + m) := ⟨by rw [add_mk, add_mk, Nat.zero_add]⟩
variable {B : World} {Γ Δ : List HProp} {q : Bool → K}
theorem s_mlen {α β : Type} [DecidableEq α] {enc : α → Value} {cV : β → Value} {T kt E t mb : Nat} {m : List (α × β)} {k : Int → K} (h : HG B Γ (k (m.length : Int))) (hT : Try.prog.underlying T = some (.map kt E) := by kernel_rfl) [p : Sep.Own mb Γ (MapR enc cV mb m) Δ] : HG B Γ (Rd Try.prog (Builtin.len_ #[T] t #[.map (some mb)]) (Value.int .i64) k) := fun w hw => by
  obtain ⟨es, c, ⟨hr, hst⟩, h2⟩ := MapR.opens (hw.perm p.perm)
  have hlen : es.size = m.length := by have := congrArg List.length hr; simpa using this
  refine ⟨(m.length : Int), ?_, h w hw⟩
  have e0 : #[T][0]? = some T := rfl
  have e1 : #[Value.map (some mb)][0]? = some (.map (some mb)) := rfl
  unfold Builtin.len_
  simp only [e0, e1, Sem.run_bind, run_underlying hT, Result.andThen, MapKept.run_getObj_map h2.block, Sem.run_pure, hlen, goInt]
/-- What is known while decisions come. -/
structure On (E : List EntX) (T A : IdB) : Prop where
  ids : (E.map fun e => idOf e.tag).Nodup
  inT : ∀ e ∈ E, idOf e.tag ∈ T.map Prod.fst
  ansT : ∀ p ∈ A, p.1 ∈ T.map Prod.fst ∧ p.2 = true ∧ ∀ e ∈ E, idOf e.tag ≠ p.1
  tT : ∀ p ∈ T, p.2 = true
  cnt : E.length + A.length = T.length
  tr : ∀ e ∈ E, 0 ≤ e.tag.tr ∧ e.tag.tr ≤ 2
  len : E.length ≤ 64
theorem On.told {E E' : List EntX} {T A : IdB} {n : Nat} {M : Recs} (h : On E T A) (ht : F2 (Told n M) E E') : On E' T A := by
  have h1 := told_tags ht
  have h2 : E'.map (fun e => idOf e.tag) = E.map fun e => idOf e.tag := by
    have := congrArg (List.map idOf) h1
    simpa [List.map_map, Function.comp_def] using this
  have hm : ∀ e ∈ E', ∃ e0 ∈ E, e0.tag = e.tag := fun e he => by
    have : e.tag ∈ E'.map EntX.tag := List.mem_map.2 ⟨e, he, rfl⟩
    rw [h1] at this
    obtain ⟨e0, h3, h4⟩ := List.mem_map.1 this
    exact ⟨e0, h3, h4⟩
  have hl := f2_len ht
  exact ⟨by rw [h2]; exact h.ids, fun e he => by obtain ⟨e0, h3, h4⟩ := hm e he; rw [← h4]; exact h.inT e0 h3, fun p hp => ⟨(h.ansT p hp).1, (h.ansT p hp).2.1, fun e he => by obtain ⟨e0, h3, h4⟩ := hm e he; rw [← h4]; exact (h.ansT p hp).2.2 e0 h3⟩, h.tT, by rw [← hl]; exact h.cnt, fun e he => by obtain ⟨e0, h3, h4⟩ := hm e he; rw [← h4]; exact h.tr e0 h3, by rw [← hl]; exact h.len⟩
theorem On.again {X C : List EntX} {e : EntX} {T A : IdB} (h : On (X ++ e :: C) T A) (ht : e.tag.tr < 2) : On (X ++ restart e :: C) T A := by
  have hid : idOf (restart e).tag = idOf e.tag := rfl
  have hm : ∀ y ∈ X ++ restart e :: C, ∃ z ∈ X ++ e :: C, idOf z.tag = idOf y.tag := fun y hy => by
    rcases List.mem_append.1 hy with hy | hy
    · exact ⟨y, List.mem_append_left _ hy, rfl⟩
    · rcases List.mem_cons.1 hy with rfl | hy
      · exact ⟨e, by simp, rfl⟩
      · exact ⟨y, List.mem_append_right _ (List.mem_cons_of_mem _ hy), rfl⟩
  refine ⟨?_, fun y hy => ?_, fun p hp => ⟨(h.ansT p hp).1, (h.ansT p hp).2.1, fun y hy => ?_⟩, h.tT, by have := h.cnt; simp at this ⊢; omega, fun y hy => ?_, by have := h.len; simp at this ⊢; omega⟩
  · have := h.ids
    simpa [hid] using this
  · obtain ⟨z, h1, h2⟩ := hm y hy
    rw [← h2]; exact h.inT z h1
  · obtain ⟨z, h1, h2⟩ := hm y hy
    rw [← h2]; exact (h.ansT p hp).2.2 z h1
  · rcases List.mem_append.1 hy with hy | hy
    · exact h.tr y (List.mem_append_left _ hy)
    · rcases List.mem_cons.1 hy with rfl | hy
      · have := h.tr e (by simp)
        simp only [restart]; omega
      · exact h.tr y (List.mem_append_right _ (List.mem_cons_of_mem _ hy))
theorem On.other {X C : List EntX} {e : EntX} {T A : IdB} (h : On (X ++ e :: C) T A) : ∀ y ∈ X ++ C, idOf y.tag ≠ idOf e.tag := by
  have h1 := h.ids
  rw [List.map_append, List.map_cons, List.nodup_append] at h1
  obtain ⟨a1, a2, a3⟩ := h1
  intro y hy e2
  rcases List.mem_append.1 hy with hy | hy
  · exact a3 _ (List.mem_map.2 ⟨y, hy, rfl⟩) (idOf e.tag) (by simp) e2
  · have := (List.nodup_cons.1 a2).1
    rw [← e2] at this
    exact this (List.mem_map.2 ⟨y, hy, rfl⟩)
theorem On.gone {X C : List EntX} {e : EntX} {T A : IdB} (h : On (X ++ e :: C) T A) : On (X ++ C) T (mset (idOf e.tag) true A) := by
  have hno : ∀ p ∈ A, p.1 ≠ idOf e.tag := fun p hp h2 => (h.ansT p hp).2.2 e (by simp) h2.symm
  rw [mset_new hno]
  have hm : ∀ y ∈ X ++ C, y ∈ X ++ e :: C := fun y hy => by
    rcases List.mem_append.1 hy with hy | hy
    · exact List.mem_append_left _ hy
    · exact List.mem_append_right _ (List.mem_cons_of_mem _ hy)
  refine ⟨?_, fun y hy => h.inT y (hm y hy), fun p hp => ?_, h.tT, by have := h.cnt; simp at this ⊢; omega, fun y hy => h.tr y (hm y hy), by have := h.len; simp at this ⊢; omega⟩
  · refine List.Pairwise.sublist (List.Sublist.map _ ?_) h.ids
    exact List.Sublist.append_left (List.sublist_cons_self _ _) _
  · rcases List.mem_append.1 hp with hp | hp
    · exact ⟨(h.ansT p hp).1, (h.ansT p hp).2.1, fun y hy => (h.ansT p hp).2.2 y (hm y hy)⟩
    · rw [List.mem_singleton.1 hp]
      exact ⟨h.inT e (by simp), rfl, fun y hy => h.other y hy⟩
theorem once_b5 {f sd st tb ab : Nat} {E : List EntX} {T A : IdB} {ct : Int} {D : List DecM} {ds : Sl} {X3 : Int → K} (hr : ∀ w, Holds B Γ w → RdC w ds 6 (D.flatMap decF)) (hv : ∀ d ∈ D, ∀ w, Holds B Γ w → RdC w d.os 2 (d.outs.flatMap oF) ∧ ∀ x ∈ d.outs, RdB w x.2 x.1.2) (hb8 : ∀ d ∈ D, ∀ x ∈ d.outs, x.1.2.length ≤ 140737488351232) (hD : D.length ≤ 100) (hT : T.length ≤ 64) (h0 : On E T A)
    (h : HG B Γ (q true)) : HG B (FrontR f 1 1 3 ct E :: MapR (kyS idL) Value.bool tb T :: MapR (kyS idL) Value.bool ab A :: SchR sd st :: StoreR st 3 [] :: Γ) (LoopK (α := Int) (fun X x => law21_FrontOnce.b5 q X3 X (some ⟨f, 0, none⟩) (some ⟨sd, 0, none⟩) (some tb) (some ab) ds (ds.n : Int) x) 0) := fun w hw => by
  have hdn : ds.n = D.length := rd_len decF_len (by omega) (hr w hw.drops)
  have hon : ∀ d ∈ D, d.os.n = d.outs.length := fun d hd => rd_len oF_len (by omega) (hv d hd w hw.drops).1
  refine hg hw ?_
  clear hw w
  refine s_loop (α := Int) (ι := Nat × List EntX × IdB) (fun x i => x = (i.1 : Int) ∧ i.1 ≤ D.length ∧ On i.2.1 T i.2.2) (fun x i => FrontR f 1 1 3 ct i.2.1 :: MapR (kyS idL) Value.bool tb T :: MapR (kyS idL) Value.bool ab i.2.2 :: SchR sd st :: StoreR st 3 [] :: Γ) (fun x i => D.length - i.1) (0, E, A) ⟨rfl, Nat.zero_le _, h0⟩ ?_
  rintro k' _ ⟨i, E, A⟩ ⟨rfl, hi, hO⟩ hk'
  simp only at hi hO hk' ⊢
  unfold law21_FrontOnce.b5
  refine s_ite (fun hb => ?_) fun hb => ?_
  rotate_left
  · refine open_hg (by have := hO.len; omega) fun s hs => ?_
    refine s_mlen (kt := ty_api_Id) (E := ty_bool) (mb := tb) (m := T) ?_
    refine s_mlen (kt := ty_api_Id) (E := ty_bool) (mb := ab) (m := A) ?_
    have hc := hO.cnt
    refine s_ar (e' := (T.length : Int) - (A.length : Int)) (by rw [wrap64 (by omega) (by omega)]) ?_
    rw [show decide ((s.n : Int) = (T.length : Int) - (A.length : Int)) = true by simp; omega]
    exact s_end h
  have hil : i < D.length := by simp only [decide_eq_true_eq] at hb; omega
  have hge : D[i]? = some D[i] := List.getElem?_eq_getElem hil
  have hmem : D[i] ∈ D := List.getElem_mem hil
  generalize D[i] = d at hge hmem
  have hdo := hon d hmem
  refine s_idxN decF decF_len (fun w hw => hr w hw.drops) hge ?_
  refine s_new fun d15 => ?_
  refine s_stN (b := d15) (l' := decL d.tag d.code d.os) ?_
  refine s_ld (b := d15) (x := d.os) ?_
  refine s_ite (fun hb2 => s_end h) fun hb2 => ?_
  have ho50 : d.outs.length ≤ 50 := by simp only [decide_eq_false_iff_not] at hb2; omega
  refine s_own st ?_
  refine s_own sd ?_
  refine s_own f ?_
  refine orders_hg hO.len fun E' out X hT' hX => ?_
  have hO' := hO.told hT'
  refine s_ldN (b := d15) (l' := decL d.tag d.code d.os) ?_
  refine s_own f ?_
  have S6 : ∀ (E2 : List EntX) (A2 : IdB), On E2 T A2 → HG B (FrontR f 1 1 3 ct E2 :: MapR (kyS idL) Value.bool tb T :: MapR (kyS idL) Value.bool ab A2 :: SchR sd st :: StoreR st 3 [] :: Γ) (law21_FrontOnce.s6 q X3 k' (some ⟨f, 0, none⟩) (some ⟨sd, 0, none⟩) (some tb) (some ab) ds (ds.n : Int) (i : Int)) := fun E2 A2 h2 => by
    unfold law21_FrontOnce.s6
    refine s_ai ?_
    exact hk' ((i : Int) + 1) (i + 1, E2, A2) ⟨by simp, hil, h2⟩ (by simp only; omega)
  refine decide_hg (O := d.outs) (by have := hO'.len; omega) (by omega) (fun w hw => (hv d hmem w hw.drops).1) (fun x hx w hw => (hv d hmem w hw.drops).2 x hx) (fun x hx => hb8 d hmem x hx) hO'.tr (fun _ => ?_) (fun Y e C hA _ _ _ htr => ?_) fun Y e C hA he _ hns os' O' _ _ => ?_
  · refine s_new fun r16 => ?_
    refine s_stN (b := r16) (l' := [.int .i64 0, .int .u64 0, .int .u64 0, .int .i64 0, Sl.val ⟨none, 0, 0⟩]) ?_
    refine s_t ?_
    exact s_end (S6 E' A hO')
  · refine s_new fun r16 => ?_
    refine s_stN (b := r16) (l' := [.int .i64 0, .int .u64 0, .int .u64 0, .int .i64 0, Sl.val ⟨none, 0, 0⟩]) ?_
    refine s_t ?_
    rw [hA] at hO'
    exact s_end (S6 _ A (hO'.again htr))
  · rw [hA] at hO'
    have het : e.tag = d.tag := by
      unfold isTry at he
      simp only [Bool.and_eq_true, decide_eq_true_eq] at he
      exact he.1
    have hT1 : (mget (idOf e.tag) T).getD false = true := mget_yes (hO'.inT e (by simp)) hO'.tT
    have hA1 : (mget (idOf e.tag) A).getD false = false := mget_no fun p hp h2 => (hO'.ansT p hp).2.2 e (by simp) h2.symm
    refine s_new fun r16 => ?_
    refine s_stN (b := r16) (l' := repL e.tag (if d.code = 112 then 141 else d.code) os') ?_
    refine s_f ?_
    refine s_ldN (b := r16) (l' := idL (idOf e.tag)) ?_
    refine s_look1S (b := tb) (m := T) (cel := idL) (cV := Value.bool) (z := false) (a := idOf e.tag) keyS_id zero_ty_bool ?_
    rw [hT1]
    refine s_f ?_
    refine s_ldN (b := r16) (l' := idL (idOf e.tag)) ?_
    refine s_look1S (b := ab) (m := A) (cel := idL) (cV := Value.bool) (z := false) (a := idOf e.tag) keyS_id zero_ty_bool ?_
    rw [hA1]
    refine s_f ?_
    refine s_ldN (b := r16) (l' := idL (idOf e.tag)) ?_
    refine s_ldN (b := d15) (l' := idL (idOf d.tag)) ?_
    refine s_neS (xs := idL (idOf e.tag)) (ys := idL (idOf d.tag)) (ks := idK) (p := True) (by rw [het]; simp) ?_
    refine s_f ?_ (by simp)
    refine s_ld (b := r16) (x := if d.code = 112 then 141 else d.code) ?_
    unfold law21_FrontOnce.s7
    refine s_f ?_ (by split <;> simp_all)
    refine s_ldN (b := r16) (l' := idL (idOf e.tag)) ?_
    refine s_updS (E := ty_bool) (b := ab) (m := A) (cel := idL) (cV := Value.bool) (a := idOf e.tag) (v := true) keyS_id rfl ?_
    exact s_end (S6 _ _ hO'.gone)
theorem FrontOnce_hg {L : List TxX} {ts ds : Sl} {D : List DecM} (hL : RdC B ts 5 (L.flatMap txL)) (hLr : ∀ t ∈ L, txRd B t) (hr : RdC B ds 6 (D.flatMap decF)) (hv : ∀ d ∈ D, RdC B d.os 2 (d.outs.flatMap oF) ∧ ∀ x ∈ d.outs, RdB B x.2 x.1.2) (hb8 : ∀ d ∈ D, ∀ x ∈ d.outs, x.1.2.length ≤ 140737488351232)
    (h : HG B Γ (q true)) : HG B Γ (law21_FrontOnce.call ts ds q) := fun w hw => by
  refine law21_FrontOnce_ok _ _ _ _ ?_
  have htn : ts.n = L.length := rd_len (f := txL) (esz := 5) (fun _ => rfl) (by omega) hL
  have hdn : ds.n = D.length := rd_len decF_len (by omega) hr
  refine hg hw ?_
  clear hw w
  unfold law21_FrontOnce
  refine speaks21 ?_
  refine s_f ?_
  have out : HG B Γ (law21_FrontOnce.s1 q ts ds true) := by
    unfold law21_FrontOnce.s1
    exact s_t h
  refine s_ite (fun hb => out) fun hb => ?_
  have hL30 : L.length ≤ 30 := by simp only [decide_eq_false_iff_not] at hb; omega
  by_cases hD : 100 < D.length
  · rw [show decide ((100 : Int) < (ds.n : Int)) = true by simp; omega]
    exact out
  rw [show decide ((100 : Int) < (ds.n : Int)) = false by simp; omega]
  unfold law21_FrontOnce.s1
  refine s_f ?_
  refine frontNew_hg fun f => ?_
  refine schedNew_hg (n := 3) (by omega) (by omega) fun sd st => ?_
  refine s_f ?_
  unfold law21_FrontOnce.s2
  refine s_f ?_
  refine s_mkMap (enc := kyS idL) (cV := Value.bool) fun tb => ?_
  refine s_mkMap (enc := kyS idL) (cV := Value.bool) fun ab => ?_
  refine s_end (Δ := FrontR f 1 1 3 ((0 : Nat) : Int) [] :: MapR (kyS idL) Value.bool tb ([] : IdB) :: MapR (kyS idL) Value.bool ab ([] : IdB) :: SchR sd st :: StoreR st 3 [] :: Γ) ?_
  refine s_loop (α := Int) (ι := Nat × Nat × List EntX × IdB) (fun x i => x = (i.1 : Int) ∧ i.1 ≤ L.length ∧ i.2.1 ≤ i.1 ∧ i.2.2.2.length ≤ i.2.1 ∧ On i.2.2.1 i.2.2.2 [] ∧ ∀ p ∈ i.2.2.2, p.1.seq ≤ (i.2.1 : Int)) (fun x i => FrontR f 1 1 3 (i.2.1 : Int) i.2.2.1 :: MapR (kyS idL) Value.bool tb i.2.2.2 :: MapR (kyS idL) Value.bool ab ([] : IdB) :: SchR sd st :: StoreR st 3 [] :: Γ) (fun x i => L.length - i.1) (0, 0, [], []) ⟨rfl, Nat.zero_le _, Nat.le_refl _, Nat.le_refl _, ⟨List.Pairwise.nil, by simp, by simp, by simp, rfl, by simp, by simp⟩, by simp⟩ ?_
  rintro k' _ ⟨i, c, E, T⟩ ⟨rfl, hi, hci, hTc, hO, hseq⟩ hk'
  simp only at hi hci hTc hO hseq hk' ⊢
  unfold law21_FrontOnce.b3
  refine s_ite (fun hb2 => ?_) fun hb2 => ?_
  rotate_left
  · exact once_b5 (fun w hw => hr.old hw) (fun d hd w hw => ⟨(hv d hd).1.old hw, fun x hx => ((hv d hd).2 x hx).old hw⟩) hb8 (by omega) (by omega) hO h
  have hil : i < L.length := by simp only [decide_eq_true_eq] at hb2; omega
  have hge : L[i]? = some L[i] := List.getElem?_eq_getElem hil
  have hmem : L[i] ∈ L := List.getElem_mem hil
  generalize L[i] = t at hge hmem
  have htr := hLr t hmem
  refine s_idxN txL (fun _ => rfl) (fun w hw => hL.old hw) hge ?_
  refine s_new fun t11 => ?_
  refine s_stN (b := t11) (l' := txL t) ?_
  refine s_ldN (b := t11) (l' := txL t) ?_
  refine great05_hg (t := t) (fun w hw => txRd_old htr hw) ?_
  refine s_ite (fun hb3 => s_end h) fun hb3 => ?_
  have htg : ¬ GreatP t := by simpa only [decide_eq_false_iff_not] using hb3
  have hsm := htg
  simp only [GreatP, not_or, Nat.not_lt, not_exists, not_and] at hsm
  obtain ⟨l1, l2, l3, l4, l5, l6⟩ := hsm
  refine s_ldN (b := t11) (l' := txL t) ?_
  refine s_own f ?_
  have S4 : ∀ (c2 : Nat) (E2 : List EntX) (T2 : IdB), c2 ≤ i + 1 → T2.length ≤ c2 → On E2 T2 [] → (∀ p ∈ T2, p.1.seq ≤ (c2 : Int)) → HG B (FrontR f 1 1 3 (c2 : Int) E2 :: MapR (kyS idL) Value.bool tb T2 :: MapR (kyS idL) Value.bool ab ([] : IdB) :: SchR sd st :: StoreR st 3 [] :: Γ) (law21_FrontOnce.s4 q k' ds (some ⟨f, 0, none⟩) (some ⟨sd, 0, none⟩) (some tb) (some ab) ts (ts.n : Int) (i : Int)) := fun c2 E2 T2 h1 h2 h3 h4 => by
    unfold law21_FrontOnce.s4
    refine s_ai ?_
    exact hk' ((i : Int) + 1) (i + 1, c2, E2, T2) ⟨by simp, hil, h1, h2, h3, h4⟩ (by simp only; omega)
  refine submit_hg (t := t) (fun w hw => txRd_old htr hw) ⟨by omega, by omega, by omega⟩ (by omega) (fun _ => ?_) (fun _ => ?_) fun _ hlt b t' ht' => ?_
  · refine s_new fun id12 => ?_
    refine s_stN (b := id12) (l' := [.int .i64 0, .int .u64 0, .int .u64 0]) ?_
    refine s_f ?_
    exact s_end (S4 c E T (by omega) hTc hO hseq)
  · refine s_new fun id12 => ?_
    refine s_stN (b := id12) (l' := [.int .i64 0, .int .u64 0, .int .u64 0]) ?_
    refine s_f ?_
    exact s_end (S4 c E T (by omega) hTc hO hseq)
  · have hno : ∀ p ∈ T, p.1 ≠ (⟨1, 1, (c : Int) + 1⟩ : IdM) := fun p hp h2 => by
      have := hseq p hp
      rw [h2] at this
      simp only at this
      omega
    refine s_new fun id12 => ?_
    refine s_stN (b := id12) (l' := idL ⟨1, 1, (c : Int) + 1⟩) ?_
    refine s_t ?_
    refine s_ldN (b := id12) (l' := idL ⟨1, 1, (c : Int) + 1⟩) ?_
    refine s_look1S (b := tb) (m := T) (cel := idL) (cV := Value.bool) (z := false) (a := ⟨1, 1, (c : Int) + 1⟩) keyS_id zero_ty_bool ?_
    rw [mget_no hno]
    refine s_f ?_
    refine s_ldN (b := id12) (l' := idL ⟨1, 1, (c : Int) + 1⟩) ?_
    refine s_updS (E := ty_bool) (b := tb) (m := T) (cel := idL) (cV := Value.bool) (a := ⟨1, 1, (c : Int) + 1⟩) (v := true) keyS_id rfl ?_
    rw [mset_new hno]
    have hfin := S4 (c + 1) (E ++ [⟨b, ⟨1, 1, (c : Int) + 1, 0⟩, t', none⟩]) (T ++ [(⟨1, 1, (c : Int) + 1⟩, true)]) (by omega) (by simp; omega) ⟨?_, fun e he => ?_, by simp, fun p hp => ?_, by have := hO.cnt; simp at this ⊢; omega, fun e he => ?_, by simp; omega⟩ (fun p hp => ?_)
    · rw [show (((c + 1 : Nat) : Int)) = (c : Int) + 1 by simp] at hfin
      exact s_end hfin
    · rw [List.map_append, List.nodup_append]
      refine ⟨hO.ids, by simp, fun a ha b' hb' => ?_⟩
      obtain ⟨e, he, rfl⟩ := List.mem_map.1 ha
      simp only [List.map_cons, List.map_nil, List.mem_singleton] at hb'
      rw [hb']
      intro h2
      obtain ⟨p, hp, hpe⟩ := List.mem_map.1 (hO.inT e he)
      exact hno p hp (by rw [hpe]; exact h2)
    · rw [List.map_append]
      rcases List.mem_append.1 he with he | he
      · exact List.mem_append_left _ (hO.inT e he)
      · rw [List.mem_singleton.1 he]; simp
    · rcases List.mem_append.1 hp with hp | hp
      · exact hO.tT p hp
      · rw [List.mem_singleton.1 hp]
    · rcases List.mem_append.1 he with he | he
      · exact hO.tr e he
      · rw [List.mem_singleton.1 he]; simp
    · rcases List.mem_append.1 hp with hp | hp
      · have := hseq p hp; omega
      · rw [List.mem_singleton.1 hp]; simp
end
end Go.Proofs.Yteolfpghafdmdaa

namespace Go.Proofs.Yteolfpghafdmdaa
open Go Go.Sep Go.RowKit
theorem rdyB_out {w : World} {cs : List Value} (hc : cs.length = 2) (y : RdyB w (.fld 0 1 .bool (.fld 1 1 (.sl (.int .u8) 1) .nil)) cs) : ∃ x : (Bool × List UInt8) × Sl, cs = oF x ∧ RdB w x.2 x.1.2 ∧ x.1.2.length ≤ 140737488351232 := by
  match cs, hc with
  | [a, b], _ =>
    obtain ⟨⟨x0, e0⟩, ⟨s, e1, hb, h1, h2⟩, _⟩ := y
    cases e0; cases e1
    have h2' : ∀ a i, s.a = some a → i < s.n → ∃ cs', cs'.length = 1 ∧ (∀ j, j < 1 → w.cell? (a.add (i * 1 + j)) = cs'[j]?) ∧ Rdy w (.int .u8) cs' := fun a i ha hi => by
      obtain ⟨cs', g1, g2, g3⟩ := h2 a i ha hi
      exact ⟨cs', g1, g2, g3⟩
    obtain ⟨xs, hl, h3⟩ := rd_bytes h1 h2'
    have := hb rfl
    refine ⟨((x0, xs), s), rfl, h3, ?_⟩
    simp only [reachBytes] at this
    simp only
    omega
theorem rdB_list {w : World} {α : Type} {s : Sl} {esz : Nat} {e : Sh} (f : α → List Value) (R : α → Prop) (hf : ∀ x, (f x).length = esz) (hn : s.a = none → s.n = 0 ∧ s.c = 0)
    (h : ∀ a i, s.a = some a → i < s.n → ∃ cs', cs'.length = esz ∧ (∀ j, j < esz → w.cell? (a.add (i * esz + j)) = cs'[j]?) ∧ RdyB w e cs')
    (hR : ∀ cs, cs.length = esz → RdyB w e cs → ∃ x, cs = f x ∧ R x) : ∃ l : List α, l.length = s.n ∧ RdC w s esz (l.flatMap f) ∧ ∀ x ∈ l, R x := by
  have key : ∀ m, m ≤ s.n → ∃ l : List α, l.length = m ∧ (∀ x ∈ l, R x) ∧ ∀ a, s.a = some a → ∀ i x, l[i]? = some x → ∀ j, j < esz → w.cell? (a.add (i * esz + j)) = (f x)[j]? := by
    intro m
    induction m with
    | zero => intro _; exact ⟨[], rfl, by simp, by simp⟩
    | succ m ih =>
      intro hm
      obtain ⟨l, h1, h2, h3⟩ := ih (by omega)
      cases ha : s.a with
      | none => have := (hn ha).1; omega
      | some a =>
        obtain ⟨cs', g1, g2, g3⟩ := h a m ha (by omega)
        obtain ⟨x, rfl, hx⟩ := hR cs' g1 g3
        refine ⟨l ++ [x], by simp [h1], fun y hy => ?_, fun a' ha' i y hy j hj => ?_⟩
        · rcases List.mem_append.1 hy with hy | hy
          · exact h2 y hy
          · rw [List.mem_singleton.1 hy]; exact hx
        · cases ha'
          rw [List.getElem?_append] at hy
          split at hy
          · exact h3 a ha i y hy j hj
          · rename_i hlt
            have hi : i = m := by
              have := (List.getElem?_eq_some_iff.1 hy).1
              simp at this; omega
            subst hi
            rw [h1, Nat.sub_self] at hy
            simp at hy
            subst hy
            exact g2 j hj
  obtain ⟨l, h1, h2, h3⟩ := key s.n (Nat.le_refl _)
  refine ⟨l, h1, ⟨by rw [flatMap_len f esz hf, h1], fun ha => (hn ha).1, fun a ha i hi => ?_⟩, h2⟩
  rw [flatMap_len f esz hf] at hi
  have he : 0 < esz := Nat.pos_of_ne_zero fun h0 => by rw [h0] at hi; simp at hi
  have hdiv : i / esz < l.length := Nat.div_lt_of_lt_mul (by rw [Nat.mul_comm]; exact hi)
  have h4 := h3 a ha (i / esz) l[i / esz] (List.getElem?_eq_getElem hdiv) (i % esz) (Nat.mod_lt _ he)
  have h5 := flatMap_get f esz hf l (i / esz) (i % esz) (Nat.mod_lt _ he)
  rw [show i / esz * esz + i % esz = i by rw [Nat.mul_comm]; exact Nat.div_add_mod i esz] at h4 h5
  rw [h4, h5, List.getElem?_eq_getElem hdiv]; rfl
theorem rdyB_dec {w : World} {cs : List Value} (hc : cs.length = 6) (y : RdyB w (.fld 0 4 (.fld 0 3 (.fld 0 1 (.int .i64) (.fld 1 1 (.int .u64) (.fld 2 1 (.int .u64) .nil))) (.fld 3 1 (.int .i64) .nil)) (.fld 4 2 (.fld 0 1 (.int .i64) (.fld 1 1 (.sl (.fld 0 1 .bool (.fld 1 1 (.sl (.int .u8) 1) .nil)) 2) .nil)) .nil)) cs) :
    ∃ d : DecM, cs = decF d ∧ (RdC w d.os 2 (d.outs.flatMap oF) ∧ ∀ x ∈ d.outs, RdB w x.2 x.1.2) ∧ ∀ x ∈ d.outs, x.1.2.length ≤ 140737488351232 := by
  match cs, hc with
  | [a, b, c, d, e, f], _ =>
    obtain ⟨⟨⟨⟨x0, e0, _⟩, ⟨x1, e1, _⟩, ⟨x2, e2, _⟩, _⟩, ⟨x3, e3, _⟩, _⟩, ⟨⟨x4, e4, _⟩, ⟨s, e5, _, h1, h2⟩, _⟩, _⟩ := y
    cases e0; cases e1; cases e2; cases e3; cases e4; cases e5
    obtain ⟨O, _, hO, hd⟩ := rdB_list oF (fun x => RdB w x.2 x.1.2 ∧ x.1.2.length ≤ 140737488351232) oF_len h1 h2 fun cs hc hr => rdyB_out hc hr
    exact ⟨⟨⟨x0, x1, x2, x3⟩, x4, O, s⟩, rfl, ⟨hO, fun x hx => (hd x hx).1⟩, fun x hx => (hd x hx).2⟩
theorem rdyB_opX {w : World} {cs : List Value} (hc : cs.length = 4) (y : RdyB w (.fld 0 1 (.int .i64) (.fld 1 1 .str (.fld 2 1 (.sl (.int .u8) 1) (.fld 3 1 (.int .i64) .nil)))) cs) : ∃ x : OpX, cs = opF x ∧ RdB w x.2 x.1.val := by
  match cs, hc with
  | [a, b, c, d], _ =>
    obtain ⟨⟨x0, e0, _⟩, ⟨x1, e1, _⟩, ⟨s, e2, _, h1, h2⟩, ⟨x3, e3, _⟩, _⟩ := y
    cases e0; cases e1; cases e2; cases e3
    have h2' : ∀ a i, s.a = some a → i < s.n → ∃ cs', cs'.length = 1 ∧ (∀ j, j < 1 → w.cell? (a.add (i * 1 + j)) = cs'[j]?) ∧ Rdy w (.int .u8) cs' := fun a i ha hi => by
      obtain ⟨cs', g1, g2, g3⟩ := h2 a i ha hi
      exact ⟨cs', g1, g2, g3⟩
    obtain ⟨xs, _, h3⟩ := rd_bytes h1 h2'
    obtain ⟨l, rfl⟩ := bs_of x1
    exact ⟨(⟨x0, l, xs, x3⟩, s), rfl, h3⟩
theorem rdyB_texts {w : World} {s : Sl} (h1 : s.a = none → s.n = 0 ∧ s.c = 0) (h2 : ∀ a i, s.a = some a → i < s.n → ∃ cs', cs'.length = 1 ∧ (∀ j, j < 1 → w.cell? (a.add (i * 1 + j)) = cs'[j]?) ∧ RdyB w .str cs') : ∃ L : List (List UInt8), RdC w s 1 (L.map strV) := by
  obtain ⟨L, _, hL, _⟩ := rdB_list (fun x : List UInt8 => [strV x]) (fun _ => True) (fun _ => rfl) h1 h2 fun cs hc hr => by
    obtain ⟨b, rfl, _⟩ := hr
    obtain ⟨x, rfl⟩ := bs_of b
    exact ⟨x, rfl, trivial⟩
  exact ⟨L, by rw [flatMap1] at hL; exact hL⟩
theorem rdyB_txnL {w : World} {cs : List Value} (hc : cs.length = 5) (y : RdyB w (.fld 0 1 (.int .i64) (.fld 1 1 (.sl .str 1) (.fld 2 1 (.sl .str 1) (.fld 3 1 (.sl (.fld 0 1 (.int .i64) (.fld 1 1 .str (.fld 2 1 (.sl (.int .u8) 1) (.fld 3 1 (.int .i64) .nil)))) 4) (.fld 4 1 (.int .i64) .nil))))) cs) : ∃ t : TxX, cs = txL t ∧ txRd w t := by
  match cs, hc with
  | [a, b, c, d, e], _ =>
    obtain ⟨⟨x0, e0, _⟩, ⟨rs, e1, _, r1, r2⟩, ⟨ws, e2, _, w1, w2⟩, ⟨os, e3, _, o1, o2⟩, ⟨x4, e4, _⟩, _⟩ := y
    cases e0; cases e1; cases e2; cases e3; cases e4
    obtain ⟨R, hR⟩ := rdyB_texts r1 r2
    obtain ⟨S, hS⟩ := rdyB_texts w1 w2
    obtain ⟨O, _, hO, hd⟩ := rdB_list opF (fun x => RdB w x.2 x.1.val) opF_len o1 o2 fun cs hc hr => rdyB_opX hc hr
    exact ⟨⟨x0, R, S, O, x4, rs, ws, os⟩, rfl, ⟨hR, hS, hO, hd⟩⟩
theorem FrontOnce_walk (W : World) (s0 : Sl) (y0 : RdyB W Sh_ty_s_api_Txn (Sl.val s0).cells.toList) (s1 : Sl) (y1 : RdyB W Sh_ty_s_api_Decision (Sl.val s1).cells.toList) :
    Calls Try.prog 3 #[s0.val, s1.val] W (Ret fun v w' => v = .bool true ∧ Below W.heap.size W w') := by
  obtain ⟨s0', e0, _, h1, h2⟩ := y0
  obtain rfl := sl_cells e0
  obtain ⟨s1', e1, _, g1, g2⟩ := y1
  obtain rfl := sl_cells e1
  obtain ⟨L, _, hL, hLr⟩ := rdB_list txL (fun t => txRd W t) (fun _ => rfl) h1 h2 fun cs hc hr => rdyB_txnL hc hr
  obtain ⟨D, _, hD, hDr⟩ := rdB_list decF (fun d => (RdC W d.os 2 (d.outs.flatMap oF) ∧ ∀ x ∈ d.outs, RdB W x.2 x.1.2) ∧ ∀ x ∈ d.outs, x.1.2.length ≤ 140737488351232) decF_len g1 g2 fun cs hc hr => rdyB_dec hc hr
  exact law_call (FrontOnce_hg (Γ := []) hL hLr hD (fun d hd => (hDr d hd).1) (fun d hd => (hDr d hd).2) (fun w h => ⟨rfl, h⟩) W (Holds.start W))
end Go.Proofs.Yteolfpghafdmdaa
/- The walk of functions that add to what stands in a map. Holds for every program. -/
namespace Go.Sep
open Go
set_option linter.unusedVariables false
section
variable {P : Program} {σ : List (Nat × Value)} {o : Oper} {w w' : World} {v : Value} {x y z : Operand} {T : TypeId}
theorem e_mapEntry' {vx vy : Value} (ho : o.op = .mapEntry T x y) (hx : ev σ x = some vx) (hy : ev σ y = some vy) : ∀ v w w', (Instr.mapEntry T vx vy).run P w = .ok v w' → Eff P σ o w (.value v) w' := fun v w w' hr _ _ hs => by
  simp [execOp, ho, hs.ev hx, hs.ev hy, hr]
theorem e_entryStore' {vx vy vz : Value} (ho : o.op = .entryStore T x y z) (hx : ev σ x = some vx) (hy : ev σ y = some vy) (hz : ev σ z = some vz) : ∀ u w w', (Instr.entryStore T vx vy vz).run P w = .ok u w' → Eff P σ o w .skip w' := fun u w w' hr _ _ hs => by
  simp [execOp, ho, hs.ev hx, hs.ev hy, hs.ev hz, hr]
theorem we_do2 {α β : Type} {sem : Sem Value} {c : α → β → Value} {kx : α → β → K} (hs : ∀ v w w', sem.run P w = .ok v w' → Eff P σ o w (.value v) w') : WE P σ o (Do2 P sem c kx) (fun u => u) (fun u => Ans2 c kx u) := fun w ⟨t, u, w', hd, h⟩ => ⟨c t u, w', hs _ _ _ hd, t, u, rfl, h⟩
end
section
variable {P : Program} {dl : List Deferred} {n : Nat} {σ : List (Nat × Value)} {k : K} {ops : Array Oper} {Q : Exit → Act → World → Prop} {o : Oper} {S : World → Prop} {ds done : List Nat} {i d : Nat} {t : Scr}
theorem ox_e2 {kk kS : Value → K} (h : ∀ u, G dl n ((d, u) :: σ) (Al S (kS u)) (Dx P ops Q S ds (i :: done) t)) (hi : ops[i]? = some o := by rfl) (hd : o.dst = some d := by rfl) (hw : wants ops σ o = some true := by rfl) (hp : WE P σ o k (fun u => u) kk)
    (hS : SvA S kk kS) (hn : Nat.ble (d + 1) n = true := by rfl) (nd : isDef o.op = false := by rfl) : G dl n σ (Al S k) (Ox P ops Q S ds done i 1 t) := fun a w hs ⟨_, hk⟩ => by
  obtain ⟨x, w', hp, h'⟩ := hp w hk
  refine ox_run hs hi hw fun hQ => (op_value (r := none) hs nd hp ⟨fun _ _ _ => (hS x w' h').1, ?_⟩)
  rw [hd, dn_len (m := 0)]; exact h x _ w' (hs.put (Nat.le_of_ble_eq_true hn) _) (hS x w' h') hQ
end
set_option maxRecDepth 100000 in
theorem g_walk5 {P : Program} {f : FuncId} {fn : Func} {c : Code} {args : List Value} {kk : Value → K} {k : K} (n : Nat) {w : World} (hk : k w) (hf : P.funcs[f]? = some fn) (hb : fn.body = some c := by rfl) (hn : fn.ntmps = n := by rfl) (hl : Nat.ble args.length n = true := by rfl)
    (h : G [] n (numb 0 args) k (Cx none P c (bodyPostT P fn (Ret kk))) := by
      repeat' first
      | intro _
      | (refine is_tx ?_; first
          | refine tx_nil ?_
          | (refine is_gd ?_ rfl; first | refine tx_no ?_ | refine tx_no' ?_)
          | (refine is_t 0 ?_ rfl; refine tx_p (hp := by exact au_p0) ?_)
          | (refine is_t 2 ?_ rfl; first | refine tx_p (hp := by exact au_p2) ?_ | (refine gx_nn ?_; intro b hb; subst hb) | (refine gx_fv ?_; intro g fs cs hf cb; subst hf))
          | (refine is_t 3 ?_ rfl; refine tx_p (hp := by exact au_p3) ?_)
          | (refine is_t 13 ?_ rfl; refine tx_wr (hp := by exact au_wr13) ?_)
          | (refine is_t 19 ?_ rfl; first | (refine tx_wc (hp := by exact au_wc19) ?_; intro u; first | refine an_1 ?_ | refine an_0 ?_ | refine an_2 ?_ | refine an_3 ?_ | refine an_4 ?_ | refine an_5 ?_) | refine tx_wr (hp := by exact wr_rd (e_ext' rfl rfl rfl)) ?_ | (refine tx_wcn (hp := by exact au_wc19) ?_; intro u; first | refine am_0 ?_ | refine am_1 ?_ | refine am_2 ?_ | skip) | (refine tx_wy ?_; intro u; first | refine an_1 ?_ | refine an_0 ?_ | refine an_2 ?_ | refine an_3 ?_ | refine an_4 ?_ | refine an_5 ?_))
          | (refine is_t 10 ?_ rfl; first | refine tx_p (hp := by exact au_p10) ?_ | refine tx_wp (hp := by exact au_wp10) ?_)
          | (refine is_t 8 ?_ rfl; refine tx_wp (hp := by exact au_wp8) ?_)
          | (refine is_t 20 ?_ rfl; first | refine tx_p (hp := by exact au_p20) ?_ | refine tx_wr (hp := by exact au_wr20) ?_)
          | (refine is_t 27 ?_ rfl; refine tx_wp (hp := by exact au_wp27) ?_)
          | (refine is_t 4 ?_ rfl; first | refine tx_p (hp := by exact au_p4) ?_ | refine tx_wp (hp := by exact au_wp4) ?_)
          | (refine is_t 17 ?_ rfl; refine tx_wk (hp := by exact au_wk17) ?_)
          | (refine is_t 1 ?_ rfl; refine tx_p (hp := by exact au_p1) ?_)
          | (refine is_t 6 ?_ rfl; refine tx_p (hp := by exact au_p6) ?_)
          | (refine is_t 15 ?_ rfl; refine tx_we (hp := by exact au_we15) ?_)
          | (refine is_t 16 ?_ rfl; refine tx_we (hp := by exact au_we16) ?_)
          | (refine is_t 22 ?_ rfl; first | refine tx_we (hp := by exact au_we22) ?_ | refine tx_wen (hp := by exact au_we22) ?_)
          | (refine is_t 28 ?_ rfl; refine tx_wp (hp := by exact au_wp28) ?_)
          | (refine is_t 11 ?_ rfl; first | refine tx_wp (hp := by exact au_wp11) ?_ | refine tx_p (hp := by exact au_p11) ?_ | refine tx_wr (hp := by exact au_wr11) ?_ | refine tx_we (hp := by exact au_we11) ?_)
          | (refine is_t 26 ?_ rfl; first | refine tx_wp (hp := by exact au_wp26) ?_ | refine tx_p (hp := by exact au_p26) ?_)
          | (refine is_t 12 ?_ rfl; first | refine tx_wp (hp := by exact au_wp12) ?_ | refine tx_p (hp := by exact au_p12) ?_)
          | (refine is_t 5 ?_ rfl; refine tx_p (hp := by exact au_p5) ?_)
          | (refine is_t 7 ?_ rfl; refine tx_wp (hp := by exact au_wp7) ?_)
          | (refine is_t 9 ?_ rfl; refine tx_wp (hp := by exact au_wp9) ?_)
          | (refine is_t 14 ?_ rfl; first | refine tx_wr (hp := by exact wr_rd (e_lookup' rfl rfl rfl)) ?_ | (refine tx_wr (hp := by exact wr_rd2 (e_lookup' rfl rfl rfl)) ?_; intro u; refine an_2 ?_))
          | (refine is_t 18 ?_ rfl; refine tx_wk (hp := by exact au_wk18) ?_)
          | (refine is_t 99 ?_ rfl; refine tx_we (hp := by exact we_do2 (e_mapEntry' rfl rfl rfl)) ?_; intro u; refine an_2 ?_)
          | (refine is_t 99 ?_ rfl; refine tx_wk (hp := by exact wk_do (e_entryStore' rfl rfl rfl rfl)) ?_)
          | (refine is_t 21 ?_ rfl; refine tx_wp (hp := by exact au_wp21) ?_)
          | (refine is_t 23 ?_ rfl; refine tx_we (hp := by exact au_we23) ?_)
          | (refine is_t 24 ?_ rfl; refine tx_we (hp := by exact au_we24) ?_)
          | (refine is_t 25 ?_ rfl; refine tx_wr (hp := by exact au_wr25) ?_)
          | (refine tx_ite ?_ ?_ <;> (intro hb; refine gx_fold ?_; intro a w hs; try rw [hb] at hs; clear hb; revert hs; revert w; revert a; refine gx_unf ?_)))
      | (refine is_cx ?_; first
          | refine cx_reg ?_
          | (refine is_seq ?_; first | (refine cx_join ?_; (repeat apply ex_i); refine And.intro sub_auto (And.intro ?_ ?_)) | refine cx_seq ?_)
          | refine cx_cond_i ?_ ?_ rfl
          | refine cx_skip ?_
          | refine cx_ret ?_
          | refine cx_block ?_
          | refine cx_exit ?_
          | refine cx_loop ?_
          | (refine is_cond ?_; first | refine cx_cond_t ?_ | refine cx_cond_f ?_)
          | (refine is_draw ?_; first | refine cx_draw1 ?_ | refine cx_draw0 ?_ | refine cx_draw2 ?_ | refine cx_still ?_)
          | refine cx_label ?_
          | refine cx_rangeF ?_ ?_
          | refine cx_rangeJ ?_ ?_ ?_
          | refine al_drop ?_)
      | (refine is_ex ?_; first
          | refine ex_then ?_
          | refine ex_then_r ?_
          | refine ex_then_x ?_
          | refine ex_blk ?_
          | refine ex_blk_r ?_
          | refine ex_blk_x ?_
          | refine ex_blk_y ?_
          | refine ex_retM ?_
          | refine ex_ret ?_
          | refine ex_end ?_
          | exact rq_n
          | exact rq_r
          | exact rq_x
          | refine al_drop ?_)
      | exact gx_dead
      | refine gp_in ?_
      | (refine is_rx ?_; first
          | refine rx_tmp ?_
          | refine rx_nil ?_
          | refine rx_cell ?_
          | refine rx_cellN ?_)
      | (refine is_fx ?_; first
          | exact fx_1
          | exact fx_0
          | exact fx_2
          | exact fx_3
          | exact fx_4
          | exact fx_5)
      | (refine is_dx ?_; first
          | refine dx_end ?_
          | refine dx_nil ?_
          | refine dx_a ?_
          | (refine dx_iteA ?_ ?_ <;> (intro hb; refine gx_fold ?_; intro a w hs; try rw [hb] at hs; clear hb; revert hs; revert w; revert a; refine gx_unf ?_))
          | (refine dx_ite ?_ ?_ <;> (intro hb; refine gx_fold ?_; intro a w hs; try rw [hb] at hs; clear hb; revert hs; revert w; revert a; refine gx_unf ?_))
          | (refine is_gdx ?_ rfl; first | refine dx_no ?_ | refine dx_no' ?_)
          | (refine is_d 0 ?_ rfl; refine dx_p (hp := by exact au_p0) ?_)
          | (refine is_d 2 ?_ rfl; first | refine dx_p (hp := by exact au_p2) ?_ | (refine al_nn ?_; intro b hb; subst hb) | (refine gx_nn ?_; intro b hb; subst hb) | (refine al_fv ?_; intro g fs cs hf cb; subst hf) | (refine gx_fv ?_; intro g fs cs hf cb; subst hf))
          | (refine is_d 3 ?_ rfl; refine dx_p (hp := by exact au_p3) ?_)
          | (refine is_d 13 ?_ rfl; first | refine dx_is (hp := by exact au_wr13) ?_ | refine dx_S (hp := by exact au_ws13) ?_)
          | (refine is_d 10 ?_ rfl; first | refine dx_p (hp := by exact au_p10) ?_ | refine dx_wpA (hp := by exact au_wp10) ?_ | refine dx_wp (hp := by exact au_wp10) ?_)
          | (refine is_d 8 ?_ rfl; first | refine dx_wpA (hp := by exact au_wp8) ?_ | refine dx_wp (hp := by exact au_wp8) ?_)
          | (refine is_d 20 ?_ rfl; first | refine dx_p (hp := by exact au_p20) ?_ | refine dx_is (hp := by exact au_wr20) ?_ | refine dx_S (hp := by exact au_ws20) ?_)
          | (refine is_d 27 ?_ rfl; first | refine dx_wpA (hp := by exact au_wp27) ?_ | refine dx_wp (hp := by exact au_wp27) ?_)
          | (refine is_d 4 ?_ rfl; first | refine dx_p (hp := by exact au_p4) ?_ | refine dx_wpA (hp := by exact au_wp4) ?_ | refine dx_wp (hp := by exact au_wp4) ?_)
          | (refine is_d 1 ?_ rfl; refine dx_p (hp := by exact au_p1) ?_)
          | (refine is_d 6 ?_ rfl; refine dx_p (hp := by exact au_p6) ?_)
          | (refine is_d 28 ?_ rfl; first | refine dx_wpA (hp := by exact au_wp28) ?_ | refine dx_wp (hp := by exact au_wp28) ?_)
          | (refine is_d 11 ?_ rfl; first | refine dx_wpA (hp := by exact au_wp11) ?_ | refine dx_wp (hp := by exact au_wp11) ?_ | refine dx_p (hp := by exact au_p11) ?_ | refine dx_is (hp := by exact au_wr11) ?_ | refine dx_S (hp := by exact au_ws11) ?_)
          | (refine is_d 26 ?_ rfl; first | refine dx_wpA (hp := by exact au_wp26) ?_ | refine dx_wp (hp := by exact au_wp26) ?_ | refine dx_p (hp := by exact au_p26) ?_)
          | (refine is_d 12 ?_ rfl; first | refine dx_wpA (hp := by exact au_wp12) ?_ | refine dx_wp (hp := by exact au_wp12) ?_ | refine dx_p (hp := by exact au_p12) ?_)
          | (refine is_d 5 ?_ rfl; refine dx_p (hp := by exact au_p5) ?_)
          | (refine is_d 7 ?_ rfl; first | refine dx_wpA (hp := by exact au_wp7) ?_ | refine dx_wp (hp := by exact au_wp7) ?_)
          | (refine is_d 9 ?_ rfl; first | refine dx_wpA (hp := by exact au_wp9) ?_ | refine dx_wp (hp := by exact au_wp9) ?_)
          | (refine is_d 14 ?_ rfl; first | refine dx_is (hp := by exact wr_rd (e_lookup' rfl rfl rfl)) ?_ | (refine dx_is (hp := by exact wr_rd2 (e_lookup' rfl rfl rfl)) ?_; intro u; refine al_an2 ?_) | refine dx_S (hp := by exact ws_rd (e_lookup' rfl rfl rfl)) ?_ | (refine dx_S (hp := by exact ws_rd2 (e_lookup' rfl rfl rfl)) ?_; intro u; refine al_an2 ?_))
          | (refine is_d 21 ?_ rfl; first | refine dx_wpA (hp := by exact au_wp21) ?_ | refine dx_wp (hp := by exact au_wp21) ?_)
          | (refine is_d 25 ?_ rfl; first | refine dx_is (hp := by exact au_wr25) ?_ | refine dx_S (hp := by exact au_ws25) ?_)
          | refine al_drop ?_)
      | (refine is_ox ?_; first
          | (refine is_o 13 ?_ rfl; first | refine ox_r2A (hp := by exact au_wr13) ?_ | refine ox_r2 (hp := by exact au_wr13) ?_)
          | (refine is_o 19 ?_ rfl; first | (refine ox_c1 (hp := by exact au_wc19) ?_; intro u; first | refine al_an1 ?_ | refine al_an0 ?_ | refine al_an2 ?_) | (refine ox_c (hp := by exact au_wc19) ?_; intro u; first | refine an_1 ?_ | refine an_0 ?_ | refine an_2 ?_ | refine an_3 ?_ | refine an_4 ?_ | refine an_5 ?_) | (refine ox_cn (hp := by exact au_wc19) ?_; intro u; first | refine am_0 ?_ | refine am_1 ?_ | refine am_2 ?_ | skip) | (refine ox_y ?_; intro u; first | refine an_1 ?_ | refine an_0 ?_ | refine an_2 ?_ | refine an_3 ?_ | refine an_4 ?_ | refine an_5 ?_))
          | (refine is_o 20 ?_ rfl; first | refine ox_r2A (hp := by exact au_wr20) ?_ | refine ox_r2 (hp := by exact au_wr20) ?_)
          | (refine is_o 17 ?_ rfl; first | refine ox_k1 (hp := by exact au_wk17) ?_ | refine ox_k (hp := by exact au_wk17) ?_)
          | (refine is_o 15 ?_ rfl; first | refine ox_e1 (hp := by exact au_we15) ?_ | refine ox_e (hp := by exact au_we15) ?_)
          | (refine is_o 16 ?_ rfl; first | refine ox_e1 (hp := by exact au_we16) ?_ | refine ox_e (hp := by exact au_we16) ?_)
          | (refine is_o 22 ?_ rfl; first | refine ox_e1 (hp := by exact au_we22) ?_ | refine ox_e (hp := by exact au_we22) ?_ | refine ox_en1 (hp := by exact au_we22) ?_ | refine ox_en (hp := by exact au_we22) ?_)
          | (refine is_o 11 ?_ rfl; first | refine ox_e1 (hp := by exact au_we11) ?_ | refine ox_e (hp := by exact au_we11) ?_ | refine ox_r2A (hp := by exact au_wr11) ?_ | refine ox_r2 (hp := by exact au_wr11) ?_)
          | (refine is_o 14 ?_ rfl; first | refine ox_r2A (hp := by exact wr_rd (e_lookup' rfl rfl rfl)) ?_ | (refine ox_r2A (hp := by exact wr_rd2 (e_lookup' rfl rfl rfl)) ?_; intro u; refine al_an2 ?_) | refine ox_r2 (hp := by exact wr_rd (e_lookup' rfl rfl rfl)) ?_ | (refine ox_r2 (hp := by exact wr_rd2 (e_lookup' rfl rfl rfl)) ?_; intro u; refine an_2 ?_))
          | (refine is_o 18 ?_ rfl; first | refine ox_k1 (hp := by exact au_wk18) ?_ | refine ox_k (hp := by exact au_wk18) ?_)
          | (refine is_o 99 ?_ rfl; first | (refine ox_e2 (hp := by exact we_do2 (e_mapEntry' rfl rfl rfl)) (hS := sva_2) ?_; intro u; refine al_an2 ?_) | (refine ox_e (hp := by exact we_do2 (e_mapEntry' rfl rfl rfl)) ?_; intro u; refine an_2 ?_) | refine ox_k1 (hp := by exact wk_do (e_entryStore' rfl rfl rfl rfl)) ?_ | refine ox_k (hp := by exact wk_do (e_entryStore' rfl rfl rfl rfl)) ?_)
          | (refine is_o 23 ?_ rfl; first | refine ox_e1 (hp := by exact au_we23) ?_ | refine ox_e (hp := by exact au_we23) ?_)
          | (refine is_o 24 ?_ rfl; first | refine ox_e1 (hp := by exact au_we24) ?_ | refine ox_e (hp := by exact au_we24) ?_)
          | (refine is_o 25 ?_ rfl; first | refine ox_r2A (hp := by exact au_wr25) ?_ | refine ox_r2 (hp := by exact au_wr25) ?_)
          | refine al_drop ?_)
      | refine ax_allA ?_ ?_
      | refine ax_all ?_ ?_
      | exact ax_nil
      | refine ax_one ?_
      | (refine is_lx ?_; exact lx_end)
      | (refine is_sx ?_; first
          | refine sx_nil ?_
          | (refine is_gs ?_ rfl; refine sx_no ?_)
          | (refine is_s 0 ?_ rfl; refine sx_p (hp := by exact au_p0) ?_)
          | (refine is_s 2 ?_ rfl; first | refine sx_p (hp := by exact au_p2) ?_ | (refine gx_nn ?_; intro b hb; subst hb) | (refine gx_fv ?_; intro g fs cs hf cb; subst hf))
          | (refine is_s 3 ?_ rfl; refine sx_p (hp := by exact au_p3) ?_)
          | (refine is_s 13 ?_ rfl; refine sx_wr (hp := by exact au_wr13) ?_)
          | (refine is_s 10 ?_ rfl; first | refine sx_p (hp := by exact au_p10) ?_ | refine sx_wp (hp := by exact au_wp10) ?_)
          | (refine is_s 8 ?_ rfl; refine sx_wp (hp := by exact au_wp8) ?_)
          | (refine is_s 20 ?_ rfl; first | refine sx_p (hp := by exact au_p20) ?_ | refine sx_wr (hp := by exact au_wr20) ?_)
          | (refine is_s 27 ?_ rfl; refine sx_wp (hp := by exact au_wp27) ?_)
          | (refine is_s 4 ?_ rfl; first | refine sx_p (hp := by exact au_p4) ?_ | refine sx_wp (hp := by exact au_wp4) ?_)
          | (refine is_s 1 ?_ rfl; refine sx_p (hp := by exact au_p1) ?_)
          | (refine is_s 6 ?_ rfl; refine sx_p (hp := by exact au_p6) ?_)
          | (refine is_s 28 ?_ rfl; refine sx_wp (hp := by exact au_wp28) ?_)
          | (refine is_s 11 ?_ rfl; first | refine sx_wp (hp := by exact au_wp11) ?_ | refine sx_p (hp := by exact au_p11) ?_ | refine sx_wr (hp := by exact au_wr11) ?_)
          | (refine is_s 26 ?_ rfl; first | refine sx_wp (hp := by exact au_wp26) ?_ | refine sx_p (hp := by exact au_p26) ?_)
          | (refine is_s 12 ?_ rfl; first | refine sx_wp (hp := by exact au_wp12) ?_ | refine sx_p (hp := by exact au_p12) ?_)
          | (refine is_s 5 ?_ rfl; refine sx_p (hp := by exact au_p5) ?_)
          | (refine is_s 7 ?_ rfl; refine sx_wp (hp := by exact au_wp7) ?_)
          | (refine is_s 9 ?_ rfl; refine sx_wp (hp := by exact au_wp9) ?_)
          | (refine is_s 14 ?_ rfl; first | refine sx_wr (hp := by exact wr_rd (e_lookup' rfl rfl rfl)) ?_ | (refine sx_wr (hp := by exact wr_rd2 (e_lookup' rfl rfl rfl)) ?_; intro u; refine an_2 ?_))
          | (refine is_s 21 ?_ rfl; refine sx_wp (hp := by exact au_wp21) ?_)
          | (refine is_s 25 ?_ rfl; refine sx_wr (hp := by exact au_wr25) ?_)
          | (refine sx_ite ?_ ?_ <;> (intro hb; refine gx_fold ?_; intro a w hs; try rw [hb] at hs; clear hb; revert hs; revert w; revert a; refine gx_unf ?_)))
      | refine bx_b ?_
      | refine bj_b ?_
      | exact gx_jump
      | refine al_drop ?_) :
    CallF P f args.toArray kk w := g_start n hk hf h hb hn hl
end Go.Sep
/- Adding to what stands in a map. -/
namespace Go.Sep
open Go Go.RowKit Go.MapKept
set_option linter.unusedSimpArgs false
set_option linter.unusedVariables false
set_option linter.unusedSectionVars false
/-- Keys that are found. -/
structure Fnd {α : Type} [DecidableEq α] (P : Program) (kt : TypeId) (enc : α → Value) : Prop where
  chk : ∀ a w, (Instr.checkKey false 10000 kt (enc a)).run P w = .ok () w
  bits : ∀ a, Instr.sameBits 10000 (enc a) (enc a) = true
  find : ∀ (β : Type) (cV : β → Value) (es : Array MapEntry) (m : List (α × β)), mrel enc cV es m → ∀ a w, ((Instr.findKey kt (enc a) es.toList).run P w = .ok none w ∧ mget a m = none ∧ (∀ v, mset a v m = m ++ [(a, v)])) ∨
    ∃ j x, (Instr.findKey kt (enc a) es.toList).run P w = .ok (some (j, cV x)) w ∧ j < m.length ∧ m[j]? = some (a, x) ∧ mget a m = some x ∧ (∀ v, mset a v m = m.set j (a, v))
theorem fndS {α : Type} [DecidableEq α] {P : Program} {kt : TypeId} {cel : α → List Value} (h : KeyS P kt cel) : Fnd P kt (kyS cel) := ⟨fun a w => h.chk a false w, h.bits, fun β cV es m hr a w => by
  rcases run_findS h hr a w with ⟨g1, g2, g3, _⟩ | ⟨j, x, g1, g2, g3, g4, g5, _⟩
  · exact .inl ⟨g1, g2, g3⟩
  · exact .inr ⟨j, x, g1, g2, g3, g4, g5⟩⟩
theorem fndE {α : Type} [DecidableEq α] {P : Program} {kt : TypeId} {d : TypeDesc} {enc : α → Value} (hd : P.underlying kt = some d) (h : KeyE d enc) : Fnd P kt enc := ⟨fun a w => run_checkKey hd (h.key a) _ _, h.bits, fun β cV es m hr a w => by
  rcases mfound h hr a with ⟨g1, g2, g3, _⟩ | ⟨j, x, g1, g2, g3, g4, g5, _⟩
  · exact .inl ⟨run_findKey hd g1, g2, g3⟩
  · exact .inr ⟨j, x, run_findKey hd g1, g2, g3, g4, g5⟩⟩
theorem idx_born {p : MapEntry → Bool} : ∀ {l : List MapEntry} {j : Nat} {e : MapEntry}, l[j]? = some e → p e = true → (∀ i x, i < j → l[i]? = some x → p x = false) → l.findIdx? p = some j
  | [], _, _, h, _, _ => by simp at h
  | a :: l, 0, e, h, hp, _ => by
    simp at h; subst h
    simp [List.findIdx?_cons, hp]
  | a :: l, j + 1, e, h, hp, hn => by
    have h0 := hn 0 a (by omega) rfl
    rw [List.findIdx?_cons, h0]
    simp only [Bool.false_eq_true, if_false]
    rw [idx_born (j := j) (by simpa using h) hp fun i x hi hx => hn (i + 1) x (by omega) (by simpa using hx)]
    rfl
section
variable {α β : Type} [DecidableEq α] {P : Program} {B : World} {Γ Δ : List HProp} {kt : TypeId} {enc : α → Value} {cV : β → Value} {k : K}
/-- A map that has just been asked for an entry. -/
def EntR (enc : α → Value) (cV : β → Value) (b : Nat) (m : List (α × β)) (z : β) (a : α) (st : Int) : HProp := ex fun es : Array MapEntry => ex fun c : Nat => fun g =>
  (stamps es c ∧ ∃ m1 j e, mrel enc cV es m1 ∧ j < m1.length ∧ es[j]? = some e ∧ (e.born : Int) = st ∧ e.key = enc a ∧ (∀ v, m1.set j (a, v) = mset a v m) ∧ m1 = mset a ((mget a m).getD z) m) ∧ blk b (.map es c) g
instance (priority := high) own_ent {b : Nat} {m : List (α × β)} {z : β} {a : α} {st : Int} {Γ : List HProp} : Own b (EntR enc cV b m z a st :: Γ) (EntR enc cV b m z a st) Γ := ⟨.refl _⟩
/-- It's a map still. -/
theorem EntR.map {m : List (α × β)} {z : β} {a : α} {st : Int} {b : Nat} {w : World} (h : Holds B (EntR enc cV b m z a st :: Δ) w) : Holds B (MapR enc cV b (mset a ((mget a m).getD z) m) :: Δ) w := by
  obtain ⟨es, h1⟩ := Holds.ex.1 h
  obtain ⟨c, h1⟩ := Holds.ex.1 h1
  obtain ⟨hst, m1, j, e, hr, hj, he, hbn, hek, hm, h2⟩ := h1.fact fun g hg => hg.1
  subst h2
  exact MapR.shuts ⟨hr, hst⟩ (h1.imp fun g hg => hg.2)
theorem mset_same {v : β} : ∀ {m : List (α × β)} {a : α}, mget a m = some v → mset a v m = m
  | [], _, h => by simp [mget] at h
  | p :: m, a, h => by
    unfold mget at h
    unfold mset
    split at h
    · rename_i hp
      simp only [Option.some.injEq] at h
      rw [if_pos hp, hp, ← h]
    · rename_i hp
      rw [if_neg hp, mset_same h]
theorem mget_self (m : List (α × β)) (a : α) (v : β) : mget a (mset a v m) = some v := by rw [mget_mset, if_pos rfl]
theorem s_mapEnt {T E : TypeId} {b : Nat} {m : List (α × β)} {z : β} {a : α} {k : β → Int → K} (hF : Fnd P kt enc) (hz : zeroT P E (cV z)) (h : ∀ st, HG B (EntR enc cV b m z a st :: Δ) (k ((mget a m).getD z) st)) (hT : P.underlying T = some (.map kt E) := by kernel_rfl) [p : Own b Γ (MapR enc cV b m) Δ] :
    HG B Γ (Do2 P (Instr.mapEntry T (.map (some b)) (enc a)) (fun x y => .tuple #[cV x, .int .i64 y]) k) := fun w hw => by
  obtain ⟨es, c, ⟨hr, hst⟩, h1⟩ := MapR.opens (hw.perm p.perm)
  have hb := h1.block
  have hlen : es.size = m.length := by have := congrArg List.length hr; simpa using this
  have key : ∀ {es' c' v st w'}, (Instr.mapEntry T (.map (some b)) (enc a)).run P w = .ok (.tuple #[cV v, goInt st]) w' → v = (mget a m).getD z → (stamps es' c' ∧ ∃ m1 j e, mrel enc cV es' m1 ∧ j < m1.length ∧ es'[j]? = some e ∧ (e.born : Int) = st ∧ e.key = enc a ∧ (∀ v, m1.set j (a, v) = mset a v m) ∧ m1 = mset a ((mget a m).getD z) m) →
      Holds B (blk b (.map es' c') :: Δ) w' → Do2 P (Instr.mapEntry T (.map (some b)) (enc a)) (fun x y => .tuple #[cV x, .int .i64 y]) k w := fun {es' c' v st w'} h3 h4 h5 h6 => by
    subst h4
    exact ⟨_, st, w', h3, h st w' (Holds.ex.2 ⟨es', Holds.ex.2 ⟨c', h6.imp fun g hg => ⟨h5, hg⟩⟩⟩)⟩
  rcases hF.find β cV es m hr a w with ⟨g1, g2, h2⟩ | ⟨j, x, g1, hj, h0, g2, h2⟩
  · obtain ⟨e1, h3⟩ := h1.setMap (P := P) (es' := es.push { key := enc a, val := cV z, born := c }) (c' := c + 1)
    refine key (es' := es.push { key := enc a, val := cV z, born := c }) (c' := c + 1) (v := z) (st := (c : Int)) ?_ (by rw [g2]; rfl) ⟨stamps_push hst _ _, m ++ [(a, z)], m.length, ⟨enc a, cV z, c⟩, ?_, by simp, ?_, rfl, rfl, fun v => ?_, by rw [h2, g2]; rfl⟩ h3
    · unfold Instr.mapEntry
      simp only [Sem.run_bind, run_underlying hT, Result.andThen, MapKept.run_getObj_map hb, hF.chk, g1, zeroT_spec hz, e1, Sem.run_pure]
    · simp only [mrel, Array.toList_push, List.map_append, List.map_cons, List.map_nil]
      rw [show es.toList.map (fun e => (e.key, e.val)) = _ from hr]
    · rw [← hlen]; simp
    · rw [h2, List.set_append]; simp
  · have hes : ∃ e, es.toList[j]? = some e ∧ e.key = enc a := by
      have := mrel_at hr j
      rw [h0] at this
      cases he : es.toList[j]? with
      | none => rw [he] at this; simp at this
      | some e =>
        rw [he] at this
        simp only [Option.map_some, Option.some.injEq, Prod.mk.injEq] at this
        exact ⟨e, rfl, this.1⟩
    obtain ⟨e, he, hek⟩ := hes
    have he2 : es[j]? = some e := by rw [← he, Array.getElem?_toList]
    have hmod : (es.modify j fun e' => { e' with key := enc a }) = es := by
      apply Array.ext_getElem?
      intro i
      rw [Array.getElem?_modify]
      split
      · rename_i hij
        subst hij
        rw [he2]
        simp [← hek]
      · rfl
    obtain ⟨e1, h3⟩ := h1.setMap (P := P) (es' := es) (c' := c)
    refine key (es' := es) (c' := c) (v := x) (st := (e.born : Int)) ?_ (by rw [g2]; rfl) ⟨hst, m, j, e, hr, hj, he2, rfl, hek, fun v => (h2 v).symm, by rw [g2]; exact (mset_same g2).symm⟩ h3
    unfold Instr.mapEntry
    simp only [Sem.run_bind, run_underlying hT, Result.andThen, MapKept.run_getObj_map hb, hF.chk, g1, he2, Option.map_some, Option.getD_some, hek, Instr.keyThatStays, hF.bits, if_true, Sem.run_pure, hmod, e1]
theorem s_mapEntSt {T : TypeId} {b : Nat} {m : List (α × β)} {z : β} {a : α} {v : β} {x : Value} {st : Int} (hx : x = cV v) (h : HG B (MapR enc cV b (mset a v m) :: Δ) k) [p : Own b Γ (EntR enc cV b m z a st) Δ] :
    HG B Γ (DoU P (Instr.entryStore T (.map (some b)) (.int .i64 st) x) k) := fun w hw => by
  subst hx
  obtain ⟨es, h1⟩ := Holds.ex.1 (hw.perm p.perm)
  obtain ⟨c, h1⟩ := Holds.ex.1 h1
  obtain ⟨hst, m1, j, e, hr, hj, he, hbn, hek, hm, _⟩ := h1.fact fun g hg => hg.1
  have h1 := h1.imp fun g hg => hg.2
  have hb := h1.block
  have hidx : es.findIdx? (fun e' => ((e'.born : Nat) : Int) == st) = some j := by
    rw [show es.findIdx? (fun e' => ((e'.born : Nat) : Int) == st) = es.toList.findIdx? (fun e' => ((e'.born : Nat) : Int) == st) by cases es; simp]
    refine idx_born (e := e) (by rw [← he, Array.getElem?_toList]) (by simp [hbn]) fun i x hi hx => ?_
    simp only [beq_eq_false_iff_ne, ne_eq, ← hbn, Int.natCast_inj]
    intro hbe
    have hl : j < es.toList.length := by
      have := (Array.getElem?_eq_some_iff.1 he).1; simpa using this
    have h1 : (es.toList.map (·.born))[i]? = some e.born := by rw [List.getElem?_map, hx, ← hbe]; rfl
    have h2 : (es.toList.map (·.born))[j]? = some e.born := by rw [List.getElem?_map, Array.getElem?_toList, he]; rfl
    have := (List.getElem?_inj (by simp at hl ⊢; omega) hst.1).1 (h1.trans h2.symm)
    omega
  obtain ⟨e1, h3⟩ := h1.setMap (P := P) (es' := es.modify j fun e' => { e' with val := cV v }) (c' := c)
  refine ⟨(), _, ?_, h _ (MapR.shuts ⟨?_, ?_⟩ h3)⟩
  · unfold Instr.entryStore
    simp only [Sem.run_bind, MapKept.run_getObj_map hb, Result.andThen, asInt, asIntOf, Sem.run_pure, hidx, e1]
  · rw [← hm]
    simp only [mrel]
    apply List.ext_getElem?
    intro i
    have hi := mrel_at hr i
    simp only [List.getElem?_map, Array.getElem?_toList, Array.getElem?_modify] at hi ⊢
    by_cases hij : j = i
    · subst hij
      rw [List.getElem?_set_self hj, he]
      simp [hek]
    · rw [List.getElem?_set_ne hij, if_neg hij]
      exact hi
  · have : (es.modify j fun e' => { e' with val := cV v }) = es.modify j fun e' => { e' with key := enc a, val := cV v } := by
      apply Array.ext_getElem?
      intro i
      simp only [Array.getElem?_modify]
      split
      · rename_i hij
        subst hij
        rw [he]
        simp [← hek]
      · rfl
    rw [this]
    exact stamps_modify hst _ _ _
end
section
variable {P : Program} {B : World} {Γ Δ : List HProp} {k : K}
/-! ### what is read in any of some states -/
theorem s_wsP {k : (World → Prop) → K} (S : World → Prop) (h0 : ∀ w, Holds B Γ w → S w) (h : HG B Γ (k S)) : HG B Γ (WithS k) := fun w hw => ⟨S, h0 w hw, h w hw⟩
theorem s_svP {S : World → Prop} (h0 : ∀ w, Holds B Γ w → S w) (h : HG B Γ k) : HG B Γ (Sv S k) := fun w hw => ⟨h0 w hw, h w hw⟩
theorem s_ldNSP {S : World → Prop} {a : Addr} {n : Nat} {l : List Value} {k : Array Value → K} (h0 : ∀ w, S w → RdN w a l.toArray) (h : HG B Γ (k l.toArray)) (hn : l.length = n := by rfl) : HG B Γ (LdNS S a n k) := fun w hw => ⟨l.toArray, by simpa using hn, h0, h w hw⟩
theorem s_ldSP {S : World → Prop} {α : Type} {a : Addr} {c : α → Value} {x : α} {k : α → K} (h0 : ∀ w, S w → w.cell? a = some (c x)) (h : HG B Γ (k x)) : HG B Γ (LdS S a c k) := fun w hw => ⟨x, h0, h w hw⟩
theorem s_rdSP {S : World → Prop} {α : Type} {s : Sem Value} {c : α → Value} {x : α} {k : α → K} (h0 : ∀ w, S w → s.run P w = .ok (c x) w) (h : HG B Γ (k x)) : HG B Γ (RdS P S s c k) := fun w hw => ⟨x, h0, h w hw⟩
theorem rd_at {a : Addr} {b off n : Nat} {l l' : List Value} {T : TypeId} {fz : Nat × Nat} {w : World} (hw : Holds B Γ w) [ad : AdrIs a b off] [p : Own b Γ (blk b (.cells l.toArray T fz)) Δ] (hl : (l.drop off).take n = l' := by rfl) (hn : l'.length = n := by rfl) : RdN w a l'.toArray := by
  rw [ad.h]; exact rdN_own (own_blkOf hw (p := p)) hl hn
theorem look_at {α β : Type} [DecidableEq α] {kt : TypeId} {cel : α → List Value} {cV : β → Value} {T E : TypeId} {b : Nat} {m : List (α × β)} {z : β} {a : α} {w : World} (hw : Holds B Γ w) (hE : KeyS P kt cel) (hz : zeroT P E (cV z)) (hT : P.underlying T = some (.map kt E) := by kernel_rfl) [p : Own b Γ (MapR (kyS cel) cV b m) Δ] :
    (Instr.lookup T (.map (some b)) (kyS cel a) false).run P w = .ok (cV ((mget a m).getD z)) w := by
  obtain ⟨x, h1, rfl⟩ := s_look1S (B := B) (Γ := Γ) (Δ := Δ) (P := P) (b := b) (m := m) (a := a) (k := fun x _ => x = (mget a m).getD z) hE hz (fun w _ => rfl) hT w hw
  exact h1
end
end Go.Sep
/- Plain forms of functions, and that their code comes to them (package law21_FrontTries). -/
namespace Go.Proofs.Yteolfpghafdmdaa
open Go Go.Sep
set_option linter.unusedVariables false
set_option linter.unusedSimpArgs false
set_option maxRecDepth 100000
set_option maxHeartbeats 4000000
attribute [local irreducible] Do2
attribute [local irreducible] G Gp Cx Tx Ex Sx Dx Ox Ax Lx Rx Fx Bx Bj Al Do Ld LdN St StN New CallF Ar DoU Rd Rd2 Pu Cd Ite Fv CallV CallY Ans0 Ans1 Ans2 Ans3 Ans4 Ans5 Ext Dead Dr WithS Sv LdS LdNS RdS Rd2S Nn Idx IdxA IdxS Fld Bld Slc SlcS Cat All LoopK RangeF RangeJ TakeD
namespace F_IRLaw21FrontTries
instance at_36 : AT Try.prog 36 5 := ⟨by kernel_rfl⟩
instance at_39 : AT Try.prog 39 3 := ⟨by kernel_rfl⟩
instance at_43 : AT Try.prog 43 4 := ⟨by kernel_rfl⟩
instance at_63 : AT Try.prog 63 10 := ⟨by kernel_rfl⟩
instance cb_10 : CB Try.prog 10 := ⟨by kernel_rfl⟩
instance cb_11 : CB Try.prog 11 := ⟨by kernel_rfl⟩
instance cb_12 : CB Try.prog 12 := ⟨by kernel_rfl⟩
instance cb_13 : CB Try.prog 13 := ⟨by kernel_rfl⟩
instance cb_6 : CB Try.prog 6 := ⟨by kernel_rfl⟩
instance cb_7 : CB Try.prog 7 := ⟨by kernel_rfl⟩
instance cb_8 : CB Try.prog 8 := ⟨by kernel_rfl⟩
instance cb_9 : CB Try.prog 9 := ⟨by kernel_rfl⟩
instance ct_29 : CT Try.prog 29 := ⟨by kernel_rfl⟩
instance ct_3 : CT Try.prog 3 := ⟨by kernel_rfl⟩
instance ft_43_0 : FT Try.prog 43 0 0 3 := ⟨by kernel_rfl⟩
instance ft_43_1 : FT Try.prog 43 1 3 1 := ⟨by kernel_rfl⟩
instance ft_46_0 : FT Try.prog 46 0 0 1 := ⟨by kernel_rfl⟩
instance ft_52_0 : FT Try.prog 52 0 0 3 := ⟨by kernel_rfl⟩
instance ft_52_1 : FT Try.prog 52 1 3 2 := ⟨by kernel_rfl⟩
instance ft_63_0 : FT Try.prog 63 0 0 4 := ⟨by kernel_rfl⟩
instance mx : MX Try.prog := ⟨mixed⟩
instance pl_46 : PLT Try.prog 46 [(0, 1), (1, 1)] := ⟨_, Try.underlying46, by kernel_rfl⟩
instance pl_48 : PLT Try.prog 48 [(0, 4), (4, 2)] := ⟨_, Try.underlying48, by kernel_rfl⟩
instance sl_22 : SLT Try.prog 22 36 5 := ⟨by kernel_rfl⟩
instance sl_49 : SLT Try.prog 49 63 10 := ⟨by kernel_rfl⟩
instance sl_55 : SLT Try.prog 55 39 3 := ⟨by kernel_rfl⟩
instance sl_58 : SLT Try.prog 58 3 1 := ⟨by kernel_rfl⟩
instance sz_36 : SZ Try.prog 36 5 := ⟨by kernel_rfl⟩
instance sz_52 : SZ Try.prog 52 5 := ⟨by kernel_rfl⟩
instance sz_63 : SZ Try.prog 63 10 := ⟨by kernel_rfl⟩
instance un_25 : UN Try.prog 25 (.pointer 69) := ⟨Try.underlying25⟩
instance un_28 : UN Try.prog 28 (.pointer 78) := ⟨Try.underlying28⟩
instance un_4 : UN Try.prog 4 .bool := ⟨Try.underlying4⟩
instance zt_36 : ZT Try.prog 36 (.agg #[(.int .i64 0), (Sl.val ⟨none, 0, 0⟩), (Sl.val ⟨none, 0, 0⟩), (Sl.val ⟨none, 0, 0⟩), (.int .i64 0)]) := ⟨Try.t36, by kernel_rfl, by kernel_rfl⟩
instance zt_46 : ZT Try.prog 46 (.agg #[(.int .i64 0), (Sl.val ⟨none, 0, 0⟩)]) := ⟨Try.t46, by kernel_rfl, by kernel_rfl⟩
instance zt_48 : ZT Try.prog 48 (.agg #[(.int .i64 0), (.int .u64 0), (.int .u64 0), (.int .i64 0), (.int .i64 0), (Sl.val ⟨none, 0, 0⟩)]) := ⟨Try.t48, by kernel_rfl, by kernel_rfl⟩
instance zt_52 : ZT Try.prog 52 (.agg #[(.int .i64 0), (.int .u64 0), (.int .u64 0), (.int .i64 0), (Sl.val ⟨none, 0, 0⟩)]) := ⟨Try.t52, by kernel_rfl, by kernel_rfl⟩
instance zt_63 : ZT Try.prog 63 (.agg #[(.int .i64 0), (.int .u64 0), (.int .u64 0), (.int .i64 0), (.int .i64 0), (Sl.val ⟨none, 0, 0⟩), (Sl.val ⟨none, 0, 0⟩), (Sl.val ⟨none, 0, 0⟩), (.int .i64 0), (Sl.val ⟨none, 0, 0⟩)]) := ⟨Try.t63, by kernel_rfl, by kernel_rfl⟩
end F_IRLaw21FrontTries
def law21_FrontTries.s6 (Q : Bool → K) (X3 : Int → K) (X4 : Int → K) (f5_6 : (Option Addr)) (s6_6 : (Option Addr)) (tags10_6 : (Option Nat)) (last11_6 : (Option Nat)) (t53_6 : Sl) (t54_6 : Int) (t55_6 : Int) (t140_6 : Bool) : K :=
  Ite t140_6
    (Q false)
    (Ar (IntKind.wrap .i64 (t55_6 + 1)) fun t141 =>
    X4 t141)
def law21_FrontTries.s5 (Q : Bool → K) (X3 : Int → K) (X4 : Int → K) (f5_5 : (Option Addr)) (s6_5 : (Option Addr)) (tags10_5 : (Option Nat)) (last11_5 : (Option Nat)) (x15_5 : Addr) (t53_5 : Sl) (t54_5 : Int) (t55_5 : Int) (t97_5 : Bool) : K :=
  Ite t97_5
    (Q false)
    (LdN x15_5 4 fun t100 =>
    DoU Try.prog (Instr.mapUpdate 59 (.map tags10_5) (.agg t100) (.bool true)) <|
    Dr <| WithS fun S =>
    LdNS S x15_5 3 fun t104 =>
    RdS Try.prog S (Instr.lookup 60 (.map last11_5) (.agg t104) false) (Value.int .i64) fun t105 =>
    Ar (IntKind.wrap .i64 (t105 + 1)) fun t106 =>
    Do2 Try.prog (Instr.mapEntry 60 (.map last11_5) (.agg t104)) (fun x y => .tuple #[(Value.int .i64) x, .int .i64 y]) fun t107v t107st =>
    Sv S <|
    DoU Try.prog (Instr.entryStore 60 (.map last11_5) (.int .i64 t107st) (.int .i64 t106)) <|
    LdN x15_5 4 fun t112 =>
    Bld #[(.int .i64 0), (.int .u64 0), (.int .u64 0), (.int .i64 0), (.int .i64 0), (Sl.val ⟨none, 0, 0⟩)] ([(0, 4), (4, 2)][·]?) [(0, (.agg t112)), (1, (.agg #[(.int .i64 112), (Sl.val ⟨none, 0, 0⟩)]))] fun t114 =>
    front_Front_Decide.call f5_5 t114 fun t115x0 t115x1 =>
    New 52 #[(.int .i64 0), (.int .u64 0), (.int .u64 0), (.int .i64 0), (Sl.val ⟨none, 0, 0⟩)] fun r16 =>
    StN r16 5 t115x0 <|
    Ld (x15_5.add 3) (Value.int .i64) fun t121 =>
    Ite (!(t115x1 == (decide (t121 = 2))))
      (law21_FrontTries.s6 Q X3 X4 f5_5 s6_5 tags10_5 last11_5 t53_5 t54_5 t55_5 true)
      (Ite t115x1
        (Ld (r16.add 3) (Value.int .i64) fun t129 =>
        Ite (decide (t129 ≠ 141))
          (law21_FrontTries.s6 Q X3 X4 f5_5 s6_5 tags10_5 last11_5 t53_5 t54_5 t55_5 true)
          (LdN r16 3 fun t133 =>
          LdN x15_5 3 fun t136 =>
          Pu Try.prog (do eqGuard .neq 39 (.tmp 133) (.tmp 136) (.agg t133) (.agg t136); binOp .neq 39 (.agg t133) (.agg t136) : Sem Value) Value.bool fun t137 =>
          law21_FrontTries.s6 Q X3 X4 f5_5 s6_5 tags10_5 last11_5 t53_5 t54_5 t55_5 t137))
        (law21_FrontTries.s6 Q X3 X4 f5_5 s6_5 tags10_5 last11_5 t53_5 t54_5 t55_5 false)))
def law21_FrontTries.b4 (Q : Bool → K) (X3 : Int → K) (X4 : Int → K) (f5_4 : (Option Addr)) (s6_4 : (Option Addr)) (tags10_4 : (Option Nat)) (last11_4 : (Option Nat)) (t53_4 : Sl) (t54_4 : Int) (t55_4 : Int) : K :=
  Ite (decide (t55_4 < t54_4))
    (Idx t53_4 t55_4 1 fun t57 =>
    Ld t57 (Value.int .i64) fun t58 =>
    front_Front_Orders.call f5_4 s6_4 fun t61 =>
    Ite (decide ((t61.n : Int) = 0))
      (front_Front_Open.call f5_4 fun t66 =>
      Q (decide ((t66.n : Int) = 0)))
      (Ar (bitsOf .and .i64 t58 1023) fun t71 =>
      Cd ((t61.n : Int) ≠ 0) <|
      Ar (Int.tmod t71 (t61.n : Int)) fun t74 =>
      Idx t61 t74 10 fun t75 =>
      LdN t75 10 fun t76 =>
      New 63 #[(.int .i64 0), (.int .u64 0), (.int .u64 0), (.int .i64 0), (.int .i64 0), (Sl.val ⟨none, 0, 0⟩), (Sl.val ⟨none, 0, 0⟩), (Sl.val ⟨none, 0, 0⟩), (.int .i64 0), (Sl.val ⟨none, 0, 0⟩)] fun x15 =>
      StN x15 10 t76 <|
      Dr <|
      LdN x15 4 fun t79 =>
      Rd Try.prog (Instr.lookup 59 (.map tags10_4) (.agg t79) false) Value.bool fun t80 =>
      Ite t80
        (law21_FrontTries.s5 Q X3 X4 f5_4 s6_4 tags10_4 last11_4 x15 t53_4 t54_4 t55_4 true)
        (Ld (x15.add 3) (Value.int .i64) fun t84 =>
        LdN x15 3 fun t88 =>
        Rd Try.prog (Instr.lookup 60 (.map last11_4) (.agg t88) false) (Value.int .i64) fun t89 =>
        Ite (decide (t84 ≠ t89))
          (law21_FrontTries.s5 Q X3 X4 f5_4 s6_4 tags10_4 last11_4 x15 t53_4 t54_4 t55_4 true)
          (Ld (x15.add 3) (Value.int .i64) fun t95 =>
          law21_FrontTries.s5 Q X3 X4 f5_4 s6_4 tags10_4 last11_4 x15 t53_4 t54_4 t55_4 (decide ((2 : Int) < t95))))))
    (Q true)
def law21_FrontTries.b3 (Q : Bool → K)  (X3 : Int → K) (codes1_3 : Sl) (f5_3 : (Option Addr)) (s6_3 : (Option Addr)) (t39_3 : Sl) (t40_3 : Int) (t41_3 : Int) : K :=
  Ite (decide (t41_3 < t40_3))
    (Idx t39_3 t41_3 5 fun t43 =>
    LdN t43 5 fun t44 =>
    New 36 #[(.int .i64 0), (Sl.val ⟨none, 0, 0⟩), (Sl.val ⟨none, 0, 0⟩), (Sl.val ⟨none, 0, 0⟩), (.int .i64 0)] fun t9 =>
    StN t9 5 t44 <|
    LdN t9 5 fun t45 =>
    ref05_Great.call t45 fun t46 =>
    Ite t46
      (Q true)
      (LdN t9 5 fun t48 =>
      front_Front_Submit.call f5_3 t48 fun t49x0 t49x1 =>
      Ar (IntKind.wrap .i64 (t41_3 + 1)) fun t50 =>
      X3 t50))
    (Do Try.prog (Instr.makeMap 59 none) Value.map fun t51 =>
    Do Try.prog (Instr.makeMap 60 none) Value.map fun t52 =>
    LoopK (α := Int) (fun X x => law21_FrontTries.b4 Q X3 X f5_3 s6_3 t51 t52 codes1_3 (codes1_3.n : Int) x) 0)
def law21_FrontTries.s2 (Q : Bool → K)  (list0_2 : Sl) (codes1_2 : Sl) (f5_2 : (Option Addr)) (s6_2 : (Option Addr)) (t38_2 : Bool) : K :=
  Ite t38_2
    (Q false)
    (LoopK (α := Int) (fun X x => law21_FrontTries.b3 Q X codes1_2 f5_2 s6_2 list0_2 (list0_2.n : Int) x) 0)
def law21_FrontTries.s1 (Q : Bool → K)  (list0_1 : Sl) (codes1_1 : Sl) (t27_1 : Bool) : K :=
  Ite t27_1
    (Q true)
    (front_New.call 0 4 3 fun t28 =>
    sched_New.call 3 fun t30x0 t30x1 =>
    Ite ((t28).isNone)
      (law21_FrontTries.s2 Q list0_1 codes1_1 t28 t30x0 true)
      (law21_FrontTries.s2 Q list0_1 codes1_1 t28 t30x0 ((t30x0).isNone)))
def law21_FrontTries (list0 : Sl) (codes1 : Sl) (Q : Bool → K) : K :=
  law21_speaks.call  fun t18 =>
  Ite (!t18)
    (Q false)
    (Ite (decide ((10 : Int) < (list0.n : Int)))
      (law21_FrontTries.s1 Q list0 codes1 true)
      (law21_FrontTries.s1 Q list0 codes1 (decide ((100 : Int) < (codes1.n : Int)))))
theorem law21_FrontTries_ok (list0 : Sl) (codes1 : Sl) (Q : Bool → K) (w : World) (h : law21_FrontTries list0 codes1 Q w) : law21_FrontTries.call list0 codes1 Q w := by
  have hJ30 : ∀ (X3 : Int → K), XH 10 X3 → ∀ (X4 : Int → K), XH 18 X4 → JH 30 fun D => ∃ (f5_6 : (Option Addr)) (s6_6 : (Option Addr)) (tags10_6 : (Option Nat)) (last11_6 : (Option Nat)) (t53_6 : Sl) (t54_6 : Int) (t55_6 : Int), D [(5, (.pointer f5_6)), (6, (.pointer s6_6)), (10, (.map tags10_6)), (11, (.map last11_6)), (53, (Sl.val t53_6)), (54, (.int .i64 t54_6)), (55, (.int .i64 t55_6))] (fun C => ∀ (t140_6 : Bool), C [(5, (.pointer f5_6)), (6, (.pointer s6_6)), (10, (.map tags10_6)), (11, (.map last11_6)), (53, (Sl.val t53_6)), (54, (.int .i64 t54_6)), (55, (.int .i64 t55_6)), (140, (.bool t140_6))] (law21_FrontTries.s6 Q X3 X4 f5_6 s6_6 tags10_6 last11_6 t53_6 t54_6 t55_6 t140_6)) := by intros; exact ⟨fun _ ⟨_, _, _, _, _, _, _, h⟩ => ⟨_, _, h⟩⟩
  have hD27 : DH 27 2 [8] (.s [0, 1, 2, 3, 4, 5] (.a [(6, 1, .s [7] (.a [(8, 0, .e)]))])) := by intros; exact ⟨⟩
  have hJ25 : ∀ (X3 : Int → K), XH 10 X3 → ∀ (X4 : Int → K), XH 18 X4 → JH 25 fun D => ∃ (f5_5 : (Option Addr)) (s6_5 : (Option Addr)) (tags10_5 : (Option Nat)) (last11_5 : (Option Nat)) (x15_5 : Addr) (t53_5 : Sl) (t54_5 : Int) (t55_5 : Int), D [(5, (.pointer f5_5)), (6, (.pointer s6_5)), (10, (.map tags10_5)), (11, (.map last11_5)), (15, (.pointer (some x15_5))), (53, (Sl.val t53_5)), (54, (.int .i64 t54_5)), (55, (.int .i64 t55_5))] (fun C => ∀ (t97_5 : Bool), C [(5, (.pointer f5_5)), (6, (.pointer s6_5)), (10, (.map tags10_5)), (11, (.map last11_5)), (15, (.pointer (some x15_5))), (53, (Sl.val t53_5)), (54, (.int .i64 t54_5)), (55, (.int .i64 t55_5)), (97, (.bool t97_5))] (law21_FrontTries.s5 Q X3 X4 f5_5 s6_5 tags10_5 last11_5 x15_5 t53_5 t54_5 t55_5 t97_5)) := by intros; exact ⟨fun _ ⟨_, _, _, _, _, _, _, _, h⟩ => ⟨_, _, h⟩⟩
  have hL18 : ∀ (X3 : Int → K), XH 10 X3 → ∀ (f5_4 : (Option Addr)) (s6_4 : (Option Addr)) (tags10_4 : (Option Nat)) (last11_4 : (Option Nat)) (t53_4 : Sl) (t54_4 : Int), LH 18 (fun x : Int => [(5, (.pointer f5_4)), (6, (.pointer s6_4)), (10, (.map tags10_4)), (11, (.map last11_4)), (53, (Sl.val t53_4)), (54, (.int .i64 t54_4)), (55, (.int .i64 x))]) (fun X x => law21_FrontTries.b4 Q X3 X f5_4 s6_4 tags10_4 last11_4 t53_4 t54_4 x) := by intros; exact ⟨⟩
  have hL10 : ∀ (codes1_3 : Sl) (f5_3 : (Option Addr)) (s6_3 : (Option Addr)) (t39_3 : Sl) (t40_3 : Int), LH 10 (fun x : Int => [(1, (Sl.val codes1_3)), (5, (.pointer f5_3)), (6, (.pointer s6_3)), (39, (Sl.val t39_3)), (40, (.int .i64 t40_3)), (41, (.int .i64 x))]) (fun X x => law21_FrontTries.b3 Q X codes1_3 f5_3 s6_3 t39_3 t40_3 x) := by intros; exact ⟨⟩
  have hJ8 : JH 8 fun D => ∃ (list0_2 : Sl) (codes1_2 : Sl) (f5_2 : (Option Addr)) (s6_2 : (Option Addr)), D [(0, (Sl.val list0_2)), (1, (Sl.val codes1_2)), (5, (.pointer f5_2)), (6, (.pointer s6_2))] (fun C => ∀ (t38_2 : Bool), C [(0, (Sl.val list0_2)), (1, (Sl.val codes1_2)), (5, (.pointer f5_2)), (6, (.pointer s6_2)), (38, (.bool t38_2))] (law21_FrontTries.s2 Q list0_2 codes1_2 f5_2 s6_2 t38_2)) := by intros; exact ⟨fun _ ⟨_, _, _, _, h⟩ => ⟨_, _, h⟩⟩
  have hJ4 : JH 4 fun D => ∃ (list0_1 : Sl) (codes1_1 : Sl), D [(0, (Sl.val list0_1)), (1, (Sl.val codes1_1))] (fun C => ∀ (t27_1 : Bool), C [(0, (Sl.val list0_1)), (1, (Sl.val codes1_1)), (27, (.bool t27_1))] (law21_FrontTries.s1 Q list0_1 codes1_1 t27_1)) := by intros; exact ⟨fun _ ⟨_, _, h⟩ => ⟨_, _, h⟩⟩
  exact g_walk5 142 h Try.func4
end Go.Proofs.Yteolfpghafdmdaa
/- Each try of a submission has its own Tag. -/
namespace Go.Proofs.Yteolfpghafdmdaa
open Go Go.Sep Go.Sep.Bt
set_option linter.unusedSimpArgs false
set_option linter.unusedVariables false
set_option maxRecDepth 100000
theorem keyS_tg : KeyS Try.prog ty_api_Tag tagF := ⟨by kernel_rfl, ⟨tagK, by kernel_rfl, fun _ => rfl⟩, fun a b h => tagF_inj.1 h, fun a => by simp [Instr.sameBits]⟩
theorem f2_get {α β : Type} {R : α → β → Prop} {l : List α} {m : List β} (h : F2 R l m) : ∀ {j : Nat} {b : β}, m[j]? = some b → ∃ a, l[j]? = some a ∧ R a b := by
  induction h with
  | nil => intro j b h; simp at h
  | cons h1 _ ih =>
    intro j b hb
    cases j with
    | zero => simp at hb; subst hb; exact ⟨_, rfl, h1⟩
    | succ j => simpa using ih (by simpa using hb)
theorem mget_none {α : Type} [DecidableEq α] {m : List (α × Bool)} {a : α} (h : ∀ p ∈ m, p.1 ≠ a) : (mget a m).getD false = false := by
  rcases mfind a m with ⟨h1, _⟩ | ⟨j, x, hj, h0, _⟩
  · rw [h1]; rfl
  · exact absurd rfl (h _ (List.mem_of_getElem? h0))
theorem mset_mem {α β : Type} [DecidableEq α] {m : List (α × β)} {a : α} {v : β} {p : α × β} (h : p ∈ mset a v m) : p ∈ m ∨ p = (a, v) := by
  rcases mfind a m with ⟨_, h2, _⟩ | ⟨j, x, hj, h0, _, _, h2, _⟩
  · rw [h2] at h
    rcases List.mem_append.1 h with h | h
    · exact .inl h
    · exact .inr (List.mem_singleton.1 h)
  · rw [h2] at h
    exact List.mem_or_eq_of_mem_set h
/-- What is known while tries are stale. -/
structure Tr (E : List EntX) (T : List (TagM × Bool)) (L : List (IdM × Int)) : Prop where
  ids : (E.map fun e => idOf e.tag).Nodup
  tr : ∀ e ∈ E, 0 ≤ e.tag.tr ∧ e.tag.tr ≤ 2
  last : ∀ e ∈ E, (mget (idOf e.tag) L).getD 0 = e.tag.tr
  tags : ∀ p ∈ T, ∀ e ∈ E, idOf p.1 = idOf e.tag → p.1.tr < e.tag.tr
  len : E.length ≤ 64
theorem Tr.told {E E' : List EntX} {T : List (TagM × Bool)} {L : List (IdM × Int)} {n : Nat} {M : Recs} (h : Tr E T L) (ht : F2 (Told n M) E E') : Tr E' T L := by
  have h1 := told_tags ht
  have h2 : E'.map (fun e => idOf e.tag) = E.map fun e => idOf e.tag := by
    have := congrArg (List.map idOf) h1
    simpa [List.map_map, Function.comp_def] using this
  have hm : ∀ e ∈ E', ∃ e0 ∈ E, e0.tag = e.tag := fun e he => by
    have : e.tag ∈ E'.map EntX.tag := List.mem_map.2 ⟨e, he, rfl⟩
    rw [h1] at this
    obtain ⟨e0, h3, h4⟩ := List.mem_map.1 this
    exact ⟨e0, h3, h4⟩
  have hl := f2_len ht
  exact ⟨by rw [h2]; exact h.ids, fun e he => by obtain ⟨e0, h3, h4⟩ := hm e he; rw [← h4]; exact h.tr e0 h3, fun e he => by obtain ⟨e0, h3, h4⟩ := hm e he; rw [← h4]; exact h.last e0 h3, fun p hp e he => by obtain ⟨e0, h3, h4⟩ := hm e he; rw [← h4]; exact h.tags p hp e0 h3, by rw [← hl]; exact h.len⟩
theorem Tr.other {X C : List EntX} {e : EntX} {T : List (TagM × Bool)} {L : List (IdM × Int)} (h : Tr (X ++ e :: C) T L) : ∀ y ∈ X ++ C, idOf y.tag ≠ idOf e.tag := by
  have h1 := h.ids
  rw [List.map_append, List.map_cons, List.nodup_append] at h1
  obtain ⟨a1, a2, a3⟩ := h1
  intro y hy e2
  rcases List.mem_append.1 hy with hy | hy
  · exact a3 _ (List.mem_map.2 ⟨y, hy, rfl⟩) (idOf e.tag) (by simp) e2
  · have := (List.nodup_cons.1 a2).1
    rw [← e2] at this
    exact this (List.mem_map.2 ⟨y, hy, rfl⟩)
theorem mem_mid {X C : List EntX} {e y : EntX} (hy : y ∈ X ++ e :: C) : y = e ∨ y ∈ X ++ C := by
  rcases List.mem_append.1 hy with hy | hy
  · exact .inr (List.mem_append_left _ hy)
  · rcases List.mem_cons.1 hy with rfl | hy
    · exact .inl rfl
    · exact .inr (List.mem_append_right _ hy)
theorem mid_mem {X C : List EntX} {e y : EntX} (hy : y ∈ X ++ C) : y ∈ X ++ e :: C := by
  rcases List.mem_append.1 hy with hy | hy
  · exact List.mem_append_left _ hy
  · exact List.mem_append_right _ (List.mem_cons_of_mem _ hy)
theorem Tr.others {X C : List EntX} {e : EntX} {T : List (TagM × Bool)} {L : List (IdM × Int)} (h : Tr (X ++ e :: C) T L) : ∀ y ∈ X ++ C, (mget (idOf y.tag) (mset (idOf e.tag) (e.tag.tr + 1) L)).getD 0 = y.tag.tr ∧ ∀ p ∈ mset e.tag true T, idOf p.1 = idOf y.tag → p.1.tr < y.tag.tr := fun y hy => by
  have hne := h.other y hy
  refine ⟨by rw [mget_mset, if_neg hne]; exact h.last y (mid_mem hy), fun p hp he => ?_⟩
  rcases mset_mem hp with hp | rfl
  · exact h.tags p hp y (mid_mem hy) he
  · exact absurd he.symm hne
theorem Tr.again {X C : List EntX} {e : EntX} {T : List (TagM × Bool)} {L : List (IdM × Int)} (h : Tr (X ++ e :: C) T L) (ht : e.tag.tr < 2) : Tr (X ++ restart e :: C) (mset e.tag true T) (mset (idOf e.tag) (e.tag.tr + 1) L) := by
  have hid : idOf (restart e).tag = idOf e.tag := rfl
  have htr : (restart e).tag.tr = e.tag.tr + 1 := rfl
  have h0 := h.tr e (by simp)
  refine ⟨by have := h.ids; simpa [hid] using this, fun y hy => ?_, fun y hy => ?_, fun p hp y hy he => ?_, by have := h.len; simp at this ⊢; omega⟩
  · rcases mem_mid hy with rfl | hy
    · omega
    · exact h.tr y (mid_mem hy)
  · rcases mem_mid hy with rfl | hy
    · rw [hid, htr, mget_self]; rfl
    · exact (h.others y hy).1
  · rcases mem_mid hy with rfl | hy
    · rw [hid] at he
      rw [htr]
      rcases mset_mem hp with hp | rfl
      · have := h.tags p hp e (by simp) he; omega
      · show e.tag.tr < e.tag.tr + 1; omega
    · exact (h.others y hy).2 p hp he
theorem Tr.gone {X C : List EntX} {e : EntX} {T : List (TagM × Bool)} {L : List (IdM × Int)} (h : Tr (X ++ e :: C) T L) : Tr (X ++ C) (mset e.tag true T) (mset (idOf e.tag) (e.tag.tr + 1) L) := by
  refine ⟨List.Pairwise.sublist (List.Sublist.map _ (List.Sublist.append_left (List.sublist_cons_self _ _) _)) h.ids, fun y hy => h.tr y (mid_mem hy), fun y hy => (h.others y hy).1, fun p hp y hy he => (h.others y hy).2 p hp he, by have := h.len; simp at this ⊢; omega⟩
section
variable {B : World} {Γ Δ : List HProp} {q : Bool → K}
theorem tries_b4 {f sd st tb lb : Nat} {E : List EntX} {T : List (TagM × Bool)} {L : List (IdM × Int)} {ct : Int} {C : List Int} {cs : Sl} {X3 : Int → K} (hr : ∀ w, Holds B Γ w → RdC w cs 1 (C.map (Value.int .i64))) (hC : C.length ≤ 100) (h0 : Tr E T L)
    (h : HG B Γ (q true)) : HG B (FrontR f 0 4 3 ct E :: MapR (kyS tagF) Value.bool tb T :: MapR (kyS idL) (Value.int .i64) lb L :: SchR sd st :: StoreR st 3 [] :: Γ) (LoopK (α := Int) (fun X x => law21_FrontTries.b4 q X3 X (some ⟨f, 0, none⟩) (some ⟨sd, 0, none⟩) (some tb) (some lb) cs (cs.n : Int) x) 0) := fun w hw => by
  have hcn : cs.n = C.length := by have := (hr w hw.drops).len; rw [List.length_map] at this; omega
  refine hg hw ?_
  clear hw w
  refine s_loop (α := Int) (ι := Nat × List EntX × List (TagM × Bool) × List (IdM × Int)) (fun x i => x = (i.1 : Int) ∧ i.1 ≤ C.length ∧ Tr i.2.1 i.2.2.1 i.2.2.2) (fun x i => FrontR f 0 4 3 ct i.2.1 :: MapR (kyS tagF) Value.bool tb i.2.2.1 :: MapR (kyS idL) (Value.int .i64) lb i.2.2.2 :: SchR sd st :: StoreR st 3 [] :: Γ) (fun x i => C.length - i.1) (0, E, T, L) ⟨rfl, Nat.zero_le _, h0⟩ ?_
  rintro k' _ ⟨i, E, T, L⟩ ⟨rfl, hi, hO⟩ hk'
  simp only at hi hO hk' ⊢
  unfold law21_FrontTries.b4
  refine s_ite (fun hb => ?_) fun hb => s_end h
  have hil : i < C.length := by simp only [decide_eq_true_eq] at hb; omega
  have hge : C[i]? = some C[i] := List.getElem?_eq_getElem hil
  generalize C[i] = cd at hge
  refine s_idx1 (c := Value.int .i64) (fun w hw => hr w hw.drops) hge ?_
  refine s_own st ?_
  refine s_own sd ?_
  refine s_own f ?_
  refine orders_hg hO.len fun E' out X hT hX => ?_
  have hO' := hO.told hT
  have hXl := f2_len hX
  have hl64 := hO'.len
  refine s_cap out fun a1 a2 a3 a4 => ?_
  rw [flatMap_len _ 10 outL_len] at a1
  by_cases hE0 : X.length = 0
  · refine s_t ?_ (by simp; omega)
    refine s_own f ?_
    refine open_hg (by omega) fun s hs => ?_
    rw [show decide ((s.n : Int) = 0) = true by simp only [decide_eq_true_eq]; omega]
    exact s_end h
  refine s_f ?_ (by simp; omega)
  refine s_ar (e' := bitsOf .and .i64 cd 1023) rfl ?_
  refine s_cd (by omega) ?_
  obtain ⟨m1, m2⟩ := bitsAnd_le cd 1023 1023 (by decide) (by decide)
  obtain ⟨j, hj, hjn⟩ : ∃ j : Nat, Int.tmod (bitsOf .and .i64 cd 1023) (out.n : Int) = (j : Int) ∧ j < X.length := by
    generalize bitsOf .and .i64 cd 1023 = z at m1 m2
    rw [Int.tmod_eq_emod_of_nonneg m1]
    have h1 := Int.emod_nonneg z (b := (out.n : Int)) (by omega)
    have h2 := Int.emod_lt_of_pos z (b := (out.n : Int)) (by omega)
    exact ⟨(z % (out.n : Int)).toNat, by omega, by omega⟩
  refine s_ar hj ?_
  have hx : X[j]? = some X[j] := List.getElem?_eq_getElem hjn
  generalize X[j] = x at hx
  obtain ⟨e, he, hxt, _⟩ := f2_get hX hx
  have hem : e ∈ E' := List.mem_of_getElem? he
  have htr := hO'.tr e hem
  refine s_idxN outL outL_len (fun w hw => (own_rd (s := out) hw).1) hx ?_
  refine s_new fun x15 => ?_
  refine s_stN (b := x15) (l' := ordL x.1 x.2) ?_
  rw [hxt]
  refine s_dr ?_
  refine s_ldN (b := x15) (l' := tagF e.tag) ?_
  have hT1 : (mget e.tag T).getD false = false := mget_none fun p hp h2 => by
    have := hO'.tags p hp e hem (by rw [h2])
    rw [h2] at this; omega
  refine s_look1S (b := tb) (m := T) (cel := tagF) (cV := Value.bool) (z := false) (a := e.tag) keyS_tg zero_ty_bool ?_
  rw [hT1]
  refine s_f ?_
  refine s_ld (b := x15) (x := e.tag.tr) ?_
  refine s_ldN (b := x15) (l' := idL (idOf e.tag)) ?_
  refine s_look1S (b := lb) (m := L) (cel := idL) (cV := Value.int .i64) (z := 0) (a := idOf e.tag) keyS_id zero_ty_int ?_
  rw [hO'.last e hem]
  refine s_f ?_ (by simp)
  refine s_ld (b := x15) (x := e.tag.tr) ?_
  unfold law21_FrontTries.s5
  refine s_f ?_ (by simp; omega)
  refine s_ldN (b := x15) (l' := tagF e.tag) ?_
  refine s_updS (E := ty_bool) (b := tb) (m := T) (cel := tagF) (cV := Value.bool) (a := e.tag) (v := true) keyS_tg rfl ?_
  refine s_dr ?_
  refine s_wsP (fun w => RdN w ⟨x15, 0, none⟩ (idL (idOf e.tag)).toArray ∧ (Instr.lookup ty_map_api_Id_int (.map (some lb)) (kyS idL (idOf e.tag)) false).run Try.prog w = .ok (.int .i64 e.tag.tr) w) (fun w hw => ⟨rd_at (b := x15) (l := ordL e.tag x.2) (n := 3) hw, by rw [← hO'.last e hem]; exact look_at (b := lb) (m := L) (cV := Value.int .i64) hw keyS_id zero_ty_int⟩) ?_
  refine s_ldNSP (l := idL (idOf e.tag)) (fun w hS => hS.1) ?_
  refine s_rdSP (x := e.tag.tr) (fun w hS => hS.2) ?_
  refine s_ar (e' := e.tag.tr + 1) (by rw [wrap64 (by omega) (by omega)]) ?_
  refine s_mapEnt (b := lb) (m := L) (cV := Value.int .i64) (z := (0 : Int)) (a := idOf e.tag) (fndS keyS_id) zero_ty_int fun stp => ?_
  refine s_svP (fun w hw => ⟨rd_at (b := x15) (l := ordL e.tag x.2) (n := 3) hw, by
    have h1 := look_at (b := lb) (m := mset (idOf e.tag) ((mget (idOf e.tag) L).getD 0) L) (cV := Value.int .i64) (a := idOf e.tag) (T := ty_map_api_Id_int) (EntR.map hw) keyS_id zero_ty_int
    rw [mget_self, hO'.last e hem] at h1
    exact h1⟩) ?_
  refine s_mapEntSt (b := lb) (enc := kyS idL) (cV := Value.int .i64) (m := L) (z := (0 : Int)) (a := idOf e.tag) (v := e.tag.tr + 1) rfl ?_
  refine s_ldN (b := x15) (l' := tagF e.tag) ?_
  refine s_bld (cs := decL e.tag 112 ⟨none, 0, 0⟩) ?_
  refine s_own f ?_
  have S6 : ∀ (E2 : List EntX), Tr E2 (mset e.tag true T) (mset (idOf e.tag) (e.tag.tr + 1) L) → HG B (FrontR f 0 4 3 ct E2 :: MapR (kyS tagF) Value.bool tb (mset e.tag true T) :: MapR (kyS idL) (Value.int .i64) lb (mset (idOf e.tag) (e.tag.tr + 1) L) :: SchR sd st :: StoreR st 3 [] :: Γ) (law21_FrontTries.s6 q X3 k' (some ⟨f, 0, none⟩) (some ⟨sd, 0, none⟩) (some tb) (some lb) cs (cs.n : Int) (i : Int) false) := fun E2 h2 => by
    unfold law21_FrontTries.s6
    refine s_f ?_
    refine s_ai ?_
    exact hk' ((i : Int) + 1) (i + 1, E2, _, _) ⟨by simp, hil, h2⟩ (by simp only; omega)
  refine decide_hg (g := e.tag) (code := 112) (os := ⟨none, 0, 0⟩) (O := []) (by omega) (by simp) (fun w hw => RdC.none') (by simp) (by simp) hO'.tr (fun hno => ?_) (fun A y D hA hy _ _ hlt => ?_) fun A y D hA hy _ hns os' O' _ _ => ?_
  · exfalso
    have h2 := hno e hem
    have h3 := told_some hT e hem
    unfold isTry at h2
    rw [h3] at h2
    simp at h2
  · have hyt : y.tag = e.tag := by
      unfold isTry at hy
      simp only [Bool.and_eq_true, decide_eq_true_eq] at hy
      exact hy.1
    rw [hyt] at hlt
    refine s_new fun r16 => ?_
    refine s_stN (b := r16) (l' := [.int .i64 0, .int .u64 0, .int .u64 0, .int .i64 0, Sl.val ⟨none, 0, 0⟩]) ?_
    refine s_ld (b := x15) (x := e.tag.tr) ?_
    refine s_f ?_ (by simp; omega)
    refine s_f ?_
    rw [hA] at hO'
    have := hO'.again (by rw [hyt]; exact hlt)
    rw [hyt] at this
    exact s_end (S6 _ this)
  · have hyt : y.tag = e.tag := by
      unfold isTry at hy
      simp only [Bool.and_eq_true, decide_eq_true_eq] at hy
      exact hy.1
    rw [hyt] at hns
    have h2 : e.tag.tr = 2 := by
      by_cases h3 : e.tag.tr < 2
      · exact absurd ⟨rfl, h3⟩ hns
      · omega
    rw [hyt]
    refine s_new fun r16 => ?_
    refine s_stN (b := r16) (l' := repL e.tag 141 os') ?_
    refine s_ld (b := x15) (x := e.tag.tr) ?_
    refine s_f ?_ (by simp [h2])
    refine s_t ?_
    refine s_ld (b := r16) (x := (141 : Int)) ?_
    refine s_f ?_ (by simp)
    refine s_ldN (b := r16) (l' := idL (idOf e.tag)) ?_
    refine s_ldN (b := x15) (l' := idL (idOf e.tag)) ?_
    refine s_neS (xs := idL (idOf e.tag)) (ys := idL (idOf e.tag)) (ks := idK) (p := True) (by simp) ?_
    rw [hA] at hO'
    have := hO'.gone
    rw [hyt] at this
    have hfin := S6 _ this
    rw [show (!decide True) = false by simp]
    exact s_end hfin
theorem FrontTries_hg {L : List TxX} {ts cs : Sl} {C : List Int} (hL : RdC B ts 5 (L.flatMap txL)) (hLr : ∀ t ∈ L, txRd B t) (hr : RdC B cs 1 (C.map (Value.int .i64)))
    (h : HG B Γ (q true)) : HG B Γ (law21_FrontTries.call ts cs q) := fun w hw => by
  refine law21_FrontTries_ok _ _ _ _ ?_
  have htn : ts.n = L.length := rd_len (f := txL) (esz := 5) (fun _ => rfl) (by omega) hL
  have hcn : cs.n = C.length := by have := hr.len; rw [List.length_map] at this; omega
  refine hg hw ?_
  clear hw w
  unfold law21_FrontTries
  refine speaks21 ?_
  refine s_f ?_
  have out : HG B Γ (law21_FrontTries.s1 q ts cs true) := by
    unfold law21_FrontTries.s1
    exact s_t h
  refine s_ite (fun hb => out) fun hb => ?_
  have hL10 : L.length ≤ 10 := by simp only [decide_eq_false_iff_not] at hb; omega
  by_cases hC : 100 < C.length
  · rw [show decide ((100 : Int) < (cs.n : Int)) = true by simp; omega]
    exact out
  rw [show decide ((100 : Int) < (cs.n : Int)) = false by simp; omega]
  unfold law21_FrontTries.s1
  refine s_f ?_
  refine frontNew_hg fun f => ?_
  refine schedNew_hg (n := 3) (by omega) (by omega) fun sd st => ?_
  refine s_f ?_
  unfold law21_FrontTries.s2
  refine s_f ?_
  refine s_end (Δ := FrontR f 0 4 3 ((0 : Nat) : Int) [] :: SchR sd st :: StoreR st 3 [] :: Γ) ?_
  refine s_loop (α := Int) (ι := Nat × Nat × List EntX) (fun x i => x = (i.1 : Int) ∧ i.1 ≤ L.length ∧ i.2.1 ≤ i.1 ∧ i.2.2.length ≤ i.2.1 ∧ (i.2.2.map fun e => idOf e.tag).Nodup ∧ ∀ e ∈ i.2.2, e.tag.tr = 0 ∧ e.tag.seq ≤ (i.2.1 : Int)) (fun x i => FrontR f 0 4 3 (i.2.1 : Int) i.2.2 :: SchR sd st :: StoreR st 3 [] :: Γ) (fun x i => L.length - i.1) (0, 0, []) ⟨rfl, Nat.zero_le _, Nat.le_refl _, Nat.le_refl _, List.Pairwise.nil, by simp⟩ ?_
  rintro k' _ ⟨i, c, E⟩ ⟨rfl, hi, hci, hEc, hO, hseq⟩ hk'
  simp only at hi hci hEc hO hseq hk' ⊢
  unfold law21_FrontTries.b3
  refine s_ite (fun hb2 => ?_) fun hb2 => ?_
  rotate_left
  · refine s_mkMap (enc := kyS tagF) (cV := Value.bool) fun tb => ?_
    refine s_mkMap (enc := kyS idL) (cV := Value.int .i64) fun lb => ?_
    have hfin := tries_b4 (B := B) (Γ := Γ) (q := q) (f := f) (sd := sd) (st := st) (tb := tb) (lb := lb) (E := E) (T := []) (L := []) (ct := (c : Int)) (C := C) (cs := cs) (X3 := k') (fun w hw => hr.old hw) (by omega) ⟨hO, fun e he => by have := (hseq e he).1; omega, fun e he => by rw [(hseq e he).1]; rfl, by simp, by omega⟩ h
    exact s_end hfin
  have hil : i < L.length := by simp only [decide_eq_true_eq] at hb2; omega
  have hge : L[i]? = some L[i] := List.getElem?_eq_getElem hil
  have hmem : L[i] ∈ L := List.getElem_mem hil
  generalize L[i] = t at hge hmem
  have htr := hLr t hmem
  refine s_idxN txL (fun _ => rfl) (fun w hw => hL.old hw) hge ?_
  refine s_new fun t9 => ?_
  refine s_stN (b := t9) (l' := txL t) ?_
  refine s_ldN (b := t9) (l' := txL t) ?_
  refine great05_hg (t := t) (fun w hw => txRd_old htr hw) ?_
  refine s_ite (fun hb3 => s_end h) fun hb3 => ?_
  have htg : ¬ GreatP t := by simpa only [decide_eq_false_iff_not] using hb3
  have hsm := htg
  simp only [GreatP, not_or, Nat.not_lt, not_exists, not_and] at hsm
  obtain ⟨l1, l2, l3, l4, l5, l6⟩ := hsm
  refine s_ldN (b := t9) (l' := txL t) ?_
  refine s_own f ?_
  have S4 : ∀ (c2 : Nat) (E2 : List EntX), c2 ≤ i + 1 → E2.length ≤ c2 → (E2.map fun e => idOf e.tag).Nodup → (∀ e ∈ E2, e.tag.tr = 0 ∧ e.tag.seq ≤ (c2 : Int)) → HG B (FrontR f 0 4 3 (c2 : Int) E2 :: SchR sd st :: StoreR st 3 [] :: Γ) (Ar (IntKind.wrap .i64 ((i : Int) + 1)) fun t50 => k' t50) := fun c2 E2 h1 h2 h3 h4 => by
    refine s_ai ?_
    exact hk' ((i : Int) + 1) (i + 1, c2, E2) ⟨by simp, hil, h1, h2, h3, h4⟩ (by simp only; omega)
  refine submit_hg (t := t) (fun w hw => txRd_old htr hw) ⟨by omega, by omega, by omega⟩ (by omega) (fun _ => ?_) (fun _ => ?_) fun _ hlt b t' ht' => ?_
  · exact s_end (S4 c E (by omega) hEc hO hseq)
  · exact s_end (S4 c E (by omega) hEc hO hseq)
  · have hfin := S4 (c + 1) (E ++ [⟨b, ⟨0, 4, (c : Int) + 1, 0⟩, t', none⟩]) (by omega) (by simp; omega) (by
      rw [List.map_append, List.nodup_append]
      refine ⟨hO, by simp, fun a ha b' hb' => ?_⟩
      obtain ⟨e, he, rfl⟩ := List.mem_map.1 ha
      simp only [List.map_cons, List.map_nil, List.mem_singleton] at hb'
      rw [hb']
      intro h2
      have h3 : e.tag.seq = (c : Int) + 1 := congrArg IdM.seq h2
      have := (hseq e he).2
      omega) (fun e he => by
      rcases List.mem_append.1 he with he | he
      · have := hseq e he; exact ⟨this.1, by omega⟩
      · rw [List.mem_singleton.1 he]; simp)
    rw [show (((c + 1 : Nat) : Int)) = (c : Int) + 1 by simp] at hfin
    exact s_end hfin
end
end Go.Proofs.Yteolfpghafdmdaa

namespace Go.Proofs.Yteolfpghafdmdaa
open Go Go.Sep Go.RowKit
theorem rdyB_intL {w : World} {s : Sl} (h1 : s.a = none → s.n = 0 ∧ s.c = 0) (h2 : ∀ a i, s.a = some a → i < s.n → ∃ cs', cs'.length = 1 ∧ (∀ j, j < 1 → w.cell? (a.add (i * 1 + j)) = cs'[j]?) ∧ RdyB w (.int .i64) cs') : ∃ L : List Int, RdC w s 1 (L.map (Value.int .i64)) := by
  obtain ⟨L, _, hL, _⟩ := rdB_list (fun x : Int => [Value.int .i64 x]) (fun _ => True) (fun _ => rfl) h1 h2 fun cs hc hr => by
    obtain ⟨x, rfl, _⟩ := hr
    exact ⟨x, rfl, trivial⟩
  exact ⟨L, by rw [flatMap1] at hL; exact hL⟩
theorem FrontTries_walk (W : World) (s0 : Sl) (y0 : RdyB W Sh_ty_s_api_Txn (Sl.val s0).cells.toList) (s1 : Sl) (y1 : RdyB W Sh_ty_s_int (Sl.val s1).cells.toList) :
    Calls Try.prog 4 #[s0.val, s1.val] W (Ret fun v w' => v = .bool true ∧ Below W.heap.size W w') := by
  obtain ⟨s0', e0, _, h1, h2⟩ := y0
  obtain rfl := sl_cells e0
  obtain ⟨s1', e1, _, g1, g2⟩ := y1
  obtain rfl := sl_cells e1
  obtain ⟨L, _, hL, hLr⟩ := rdB_list txL (fun t => txRd W t) (fun _ => rfl) h1 h2 fun cs hc hr => rdyB_txnL hc hr
  obtain ⟨C, hC⟩ := rdyB_intL g1 g2
  exact law_call (FrontTries_hg (Γ := []) hL hLr hC (fun w h => ⟨rfl, h⟩) W (Holds.start W))
end Go.Proofs.Yteolfpghafdmdaa
