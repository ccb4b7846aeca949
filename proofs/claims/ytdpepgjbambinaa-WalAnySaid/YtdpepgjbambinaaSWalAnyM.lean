/- WalAny, in plain: any files are opened as a log. -/
import Derived.Test.YtdpepgjbambinaaSWal6
import Derived.Test.YtdpepgjbambinaaSWalK
namespace Go.Proofs.Ytdpepgjbambinaa
open Go Go.Sep
set_option linter.unusedSimpArgs false
set_option linter.unusedVariables false
set_option maxRecDepth 100000
theorem parse_shape : ∀ (n : Nat) (d : List UInt8), d.length = n → d.take (parseL d).2 = catF (parseL d).1 ∧ Small (parseL d).1 := by
  intro n
  induction n using Nat.strongRecOn with
  | _ n ih =>
    intro d hd
    by_cases h1 : d = []
    · subst h1; rw [parse_nil]; exact ⟨rfl, by intro r hr; cases hr⟩
    by_cases h2 : (unframeL d).2.2 = 0
    · have hF := unfF d
      obtain ⟨q1, q2, q3⟩ := hF.ok h2
      have hl : 0 < d.length := List.length_pos_iff.2 h1
      have h9 := ih (d.drop (unframeL d).2.1).length (by simp; omega) _ rfl
      rw [parse_ok h1 h2]
      simp only
      refine ⟨?_, fun r hr => ?_⟩
      · rw [catF_cons, ← h9.1]
        generalize (parseL (d.drop (unframeL d).2.1)).2 = g
        have e9 : d.take ((unframeL d).2.1 + g) = (frameL (unframeL d).1 ++ d.drop (unframeL d).2.1).take ((unframeL d).2.1 + g) := congrArg (List.take ((unframeL d).2.1 + g)) q3
        have e8 := frameL_len (unframeL d).1
        rw [e9, List.take_append, List.take_of_length_le (by omega), show (unframeL d).2.1 + g - (frameL (unframeL d).1).length = g by omega]
      · rcases List.mem_cons.1 hr with rfl | hr
        · exact hF.small
        · exact h9.2 r hr
    · rw [parse_bad h2]; exact ⟨rfl, by intro r hr; cases hr⟩
theorem parse_self (d : List UInt8) : parseL (d.take (parseL d).2) = ((parseL d).1, (parseL d).2) ∧ (d.take (parseL d).2).length = (parseL d).2 := by
  obtain ⟨h1, h2⟩ := parse_shape _ d rfl
  have h3 := (parse_le _ d rfl).2
  have h4 : (d.take (parseL d).2).length = (parseL d).2 := by rw [List.length_take]; omega
  refine ⟨?_, h4⟩
  rw [h1] at h4 ⊢
  rw [parse_cat h2, h4]
abbrev AnyS := List (List UInt8) × Bool
def anyS (st : AnyS) (p : List UInt8) : AnyS := if st.2 = true then (st.1 ++ (parseL p).1, decide ((parseL p).2 = p.length)) else st
theorem any_stop : ∀ (Q : List (List UInt8)) (r : List (List UInt8)), Q.foldl anyS (r, false) = (r, false)
  | [], _ => rfl
  | p :: Q, r => any_stop Q r
structure AnyF (D : DiskD) (i : Nat) (Q : List (List UInt8)) : Prop where
  files : ∀ k p, Q[k]? = some p → ∃ lt, mget (fileW LOG (i + k)) D.files = some ⟨p, lt⟩
theorem any_load : ∀ (Q : List (List UInt8)) (f i : Nat) (D : DiskD) (W : WalD), f + i = 10 → Q.length ≤ f → (∀ p ∈ Q, p.length ≤ 1048576) → AnyF D i Q → (∀ k, i + Q.length ≤ k → k ≤ 9 → mget (fileW LOG k) D.files = none) → Free D →
    ∃ D' W' Q', loadF LOG f i D W = (D', W', i + Q'.length, 0) ∧ W'.recs = (Q.foldl anyS (W.recs, true)).1 ∧ W'.name = W.name ∧ W'.size = W.size ∧ W'.part ≤ max W.part 9 ∧ D'.a = D.a ∧ Q'.length ≤ Q.length ∧
      (∀ n, (∀ k, i ≤ k → k ≤ 9 → n ≠ fileW LOG k) → mget n D'.files = mget n D.files) ∧ AnyF D' i Q' ∧ (∀ st, (Q'.foldl anyS (st, true)).1 = (Q.foldl anyS (st, true)).1) ∧ W'.used ≤ max W.used 1048576 ∧ (∀ p ∈ Q', p.length ≤ 1048576) ∧ ((D.files.map Prod.fst).Nodup → (D'.files.map Prod.fst).Nodup)
  | [], f, i, D, W, hf, hl, hb, hQ, hno, hF => by
    refine ⟨D, W, [], ?_, rfl, rfl, rfl, by omega, rfl, Nat.le_refl _, fun _ _ => rfl, ⟨fun k p hp => by simp at hp⟩, fun _ => rfl, by omega, by simp, fun h => h⟩
    match f with
    | 0 => rfl
    | f + 1 =>
      have hrd : D.read (fileW LOG i) = ([], 60) := by rw [read_free hF, hno i (by simp) (by omega)]
      rw [loadF, hrd]
      simp only [if_true]
      rfl
  | p :: Q, f, i, D, W, hf, hl, hb, hQ, hno, hF => by
    have hpb := hb p List.mem_cons_self
    have hple := (parse_le _ p rfl).2
    obtain ⟨f', rfl⟩ : ∃ f', f = f' + 1 := ⟨f - 1, by simp only [List.length_cons] at hl; omega⟩
    obtain ⟨lt, hfile⟩ := hQ.files 0 p rfl
    rw [Nat.add_zero] at hfile
    have hrd : D.read (fileW LOG i) = (p, 0) := by rw [read_free hF, hfile]
    rw [loadF, hrd]
    simp only
    rw [if_neg (by decide), if_neg (by simp)]
    by_cases hg : (parseL p).2 = p.length
    · rw [if_pos hg]
      obtain ⟨D', W', Q', a1, a2, a3, a4, a5, a6, a7, a8, a9, a10, a11, a12, a13⟩ := any_load Q f' (i + 1) D { W with recs := W.recs ++ (parseL p).1, part := i, used := (parseL p).2 } (by omega) (by simp only [List.length_cons] at hl; omega) (fun x hx => hb x (List.mem_cons_of_mem _ hx))
        ⟨fun k x hx => by have := hQ.files (k + 1) x (by simpa using hx); rwa [show i + (k + 1) = i + 1 + k by omega] at this⟩ (fun k h1 h2 => hno k (by simp only [List.length_cons]; omega) h2) hF
      refine ⟨D', W', p :: Q', by rw [a1]; simp only [List.length_cons]; rw [show i + 1 + Q'.length = i + (Q'.length + 1) by omega], ?_, a3, a4, by simp only at a5; omega, a6, by simp only [List.length_cons]; omega, fun n hn => a8 n fun k h1 h2 => hn k (by omega) h2, ⟨fun k x hx => ?_⟩, fun st => ?_, ?_, fun x hx => ?_, a13⟩
      · rw [a2]
        show _ = (Q.foldl anyS (anyS (W.recs, true) p)).1
        unfold anyS
        simp only [if_true, hg, decide_true]
      · cases k with
        | zero =>
          simp only [List.getElem?_cons_zero, Option.some.injEq] at hx
          subst hx
          rw [Nat.add_zero, a8 _ fun k h1 h2 e => by have := fileW_inj (by omega) h2 e; omega]
          exact ⟨lt, hfile⟩
        | succ k =>
          have := a9.files k x (by simpa using hx)
          rwa [show i + 1 + k = i + (k + 1) by omega] at this
      · show (Q'.foldl anyS (anyS (st, true) p)).1 = (Q.foldl anyS (anyS (st, true) p)).1
        unfold anyS
        simp only [if_true, hg, decide_true]
        exact a10 _
      · simp only at a11
        omega
      · rcases List.mem_cons.1 hx with rfl | hx
        · exact hpb
        · exact a12 x hx
    · rw [if_neg hg]
      have hcut := cut_free (c := (parseL p).2) hF hfile hple
      rw [hcut]
      simp only
      rw [if_neg (by simp)]
      obtain ⟨s1, s2⟩ := parse_self p
      refine ⟨_, _, [p.take (parseL p).2], rfl, ?_, rfl, rfl, by simp only; omega, rfl, by simp, fun n hn => mget_mset_ne (hn i (Nat.le_refl _) (by omega)) _, ⟨fun k x hx => ?_⟩, fun st => ?_, ?_, fun x hx => ?_, fun hnd => ?_⟩
      · show _ = (Q.foldl anyS (anyS (W.recs, true) p)).1
        unfold anyS
        simp only [if_true, hg, decide_false]
        have := any_stop Q (W.recs ++ (parseL p).1)
        unfold anyS at this
        rw [this]
      · cases k with
        | zero =>
          simp only [List.getElem?_cons_zero, Option.some.injEq] at hx
          subst hx
          exact ⟨_, mget_mset_self _⟩
        | succ k => simp at hx
      · show (anyS (st, true) (p.take (parseL p).2)).1 = (Q.foldl anyS (anyS (st, true) p)).1
        have e1 : anyS (st, true) p = (st ++ (parseL p).1, false) := by unfold anyS; simp [hg]
        have e2 : anyS (st, true) (p.take (parseL p).2) = (st ++ (parseL p).1, true) := by unfold anyS; simp [s1, s2]
        rw [e1, e2, any_stop]
      · simp only
        omega
      · simp only [List.mem_singleton] at hx
        subst hx
        omega
      · show ((mset _ _ D.files).map Prod.fst).Nodup
        obtain ⟨l1, l2, g1, g2, _⟩ := mget_split hfile
        rw [g2]
        rw [g1] at hnd
        simpa using hnd
theorem mdel_get_self {n : List UInt8} {fs : Files} (hnd : (fs.map Prod.fst).Nodup) : mget n (mdel n fs) = none := by
  cases hm : mget n (mdel n fs) with
  | none => rfl
  | some f =>
    exfalso
    have hmem := mget_mem hm
    clear hm
    induction fs with
    | nil => cases hmem
    | cons p fs ih =>
      obtain ⟨h1, h2⟩ := List.nodup_cons.1 (show (p.1 :: fs.map Prod.fst).Nodup from hnd)
      unfold mdel at hmem
      split at hmem
      · rename_i e
        exact h1 (by rw [← e]; exact List.mem_map_of_mem (f := Prod.fst) hmem)
      · rename_i e
        rcases List.mem_cons.1 hmem with h3 | h3
        · exact e (congrArg Prod.fst h3)
        · exact ih h2 h3
theorem mdel_get_ne {n n' : List UInt8} (hn : n' ≠ n) : ∀ fs : Files, mget n' (mdel n fs) = mget n' fs
  | [] => rfl
  | p :: fs => by
    unfold mdel
    split
    · rename_i e
      show _ = if n' = p.1 then _ else _
      rw [if_neg (fun e2 => hn (e2.trans e.symm))]
    · show (if n' = p.1 then _ else _) = if n' = p.1 then _ else _
      rw [mdel_get_ne hn fs]
/-- The files behind are gone. -/
theorem any_rem : ∀ (f j : Nat) (D : DiskD), f + j ≤ 10 → Free D → (D.files.map Prod.fst).Nodup → ∃ D', remF LOG f j D = (D', 0) ∧ D'.a = D.a ∧ (D'.files.map Prod.fst).Nodup ∧
    (∀ k, j ≤ k → k < j + f → mget (fileW LOG k) D'.files = none) ∧ (∀ n, (∀ k, j ≤ k → k < j + f → n ≠ fileW LOG k) → mget n D'.files = mget n D.files)
  | 0, j, D, _, _, hnd => ⟨D, rfl, rfl, hnd, fun k h1 h2 => by omega, fun _ _ => rfl⟩
  | f + 1, j, D, hf, hF, hnd => by
    have hrm : ∃ D1 e, D.remove (fileW LOG (j + f)) = (D1, e) ∧ (e = 0 ∨ e = 60) ∧ D1.a = D.a ∧ D1.files = mdel (fileW LOG (j + f)) D.files := by
      unfold DiskD.remove
      rw [if_neg (by rw [hF.down]; decide)]
      cases hm : mget (fileW LOG (j + f)) D.files with
      | none =>
        refine ⟨D, 60, rfl, .inr rfl, rfl, ?_⟩
        rcases mfind (fileW LOG (j + f)) D.files with ⟨_, _, h, _⟩ | ⟨_, x, _, _, _, h2, _⟩
        · exact h.symm
        · rw [h2] at hm; cases hm
      | some x =>
        simp only [chg_fr hF.left, if_true]
        exact ⟨_, 0, rfl, .inl rfl, rfl, rfl⟩
    obtain ⟨D1, e, h1, h2, h3, h4⟩ := hrm
    unfold remF
    rw [h1]
    simp only
    rw [if_neg (by omega)]
    have hnd1 : (D1.files.map Prod.fst).Nodup := by
      rw [h4]
      have hs : ∀ fs : Files, (mdel (fileW LOG (j + f)) fs).Sublist fs := fun fs => by
        induction fs with
        | nil => exact List.Sublist.refl _
        | cons p fs ih =>
          unfold mdel
          split
          · exact List.sublist_cons_self _ _
          · exact ih.cons_cons _
      exact ((hs D.files).map Prod.fst).nodup hnd
    obtain ⟨D', g1, g2, g3, g4, g5⟩ := any_rem f j D1 (by omega) ⟨by rw [h3]; exact hF.left, by rw [h3]; exact hF.down⟩ hnd1
    refine ⟨D', g1, by rw [g2, h3], g3, fun k k1 k2 => ?_, fun n hn => ?_⟩
    · by_cases hk : k = j + f
      · subst hk
        rw [g5 _ fun k' k3 k4 e => by have := fileW_inj (by omega) (by omega) e; omega, h4]
        exact mdel_get_self hnd
      · exact g4 k k1 (by omega)
    · rw [g5 n fun k k1 k2 => hn k k1 (by omega), h4, mdel_get_ne (hn (j + f) (by omega) (by omega))]
/-- Any files are opened. -/
theorem any_open {D : DiskD} {Q : List (List UInt8)} (hl : Q.length ≤ 10) (hb : ∀ p ∈ Q, p.length ≤ 1048576) (hF : Free D) (hnd : (D.files.map Prod.fst).Nodup) (hQ : AnyF D 0 Q) (hno : ∀ k, Q.length ≤ k → k ≤ 9 → mget (fileW LOG k) D.files = none) :
    ∃ D' W' Q', (newW LOG 100).load D = (D', W', 0) ∧ W'.recs = (Q.foldl anyS ([], true)).1 ∧ W'.name = LOG ∧ W'.size = 100 ∧ W'.part ≤ 9 ∧ W'.used ≤ 1048576 ∧ Free D' ∧ (D'.files.map Prod.fst).Nodup ∧ Q'.length ≤ 10 ∧ (∀ p ∈ Q', p.length ≤ 1048576) ∧ AnyF D' 0 Q' ∧
      (∀ k, Q'.length ≤ k → k ≤ 9 → mget (fileW LOG k) D'.files = none) ∧ (Q'.foldl anyS ([], true)).1 = (Q.foldl anyS ([], true)).1 := by
  obtain ⟨D1, W1, Q', a1, a2, a3, a4, a5, a6, a7, a8, a9, a10, a11, a12, a13⟩ := any_load Q 10 0 D (newW LOG 100) rfl hl hb hQ (fun k h1 h2 => hno k (by omega) h2) hF
  have hF1 : Free D1 := ⟨by rw [a6]; exact hF.left, by rw [a6]; exact hF.down⟩
  obtain ⟨D', g1, g2, g3, g4, g5⟩ := any_rem (10 - Q'.length) Q'.length D1 (by omega) hF1 (a13 hnd)
  unfold WalD.load
  rw [show (newW LOG 100).name = LOG from rfl, a1]
  simp only [Nat.zero_add]
  rw [if_neg (by simp), g1]
  refine ⟨D', W1, Q', rfl, a2, a3, a4, ?_, ?_, ⟨by rw [g2]; exact hF1.left, by rw [g2]; exact hF1.down⟩, g3, by omega, a12, ⟨fun k x hx => ?_⟩, fun k h1 h2 => g4 k h1 (by omega), a10 []⟩
  · have : (newW LOG 100).part = 0 := rfl
    omega
  · have : (newW LOG 100).used = 0 := rfl
    omega
  · have hk : k < Q'.length := (List.getElem?_eq_some_iff.1 hx).1
    rw [Nat.zero_add, g5 _ fun k' k1 k2 e => by have := fileW_inj (by omega) (by omega) e; omega]
    have := a9.files k x hx
    rwa [Nat.zero_add] at this
end Go.Proofs.Ytdpepgjbambinaa
