/- A body out of frames. -/
import Derived.Test.YtgnkminakongkaaSPack
namespace Go.Proofs.Ytgnkminakongkaa
open Go Go.Sep
set_option linter.unusedSimpArgs false
set_option linter.unusedVariables false
set_option maxRecDepth 100000

theorem unframe_frame {b : List UInt8} (rest : List UInt8) (hb : b.length ≤ 4096) : unframeL (frameL b ++ rest) = (b, 6 + b.length, 0) := by
  have hl : (frameL b ++ rest).length = 6 + b.length + rest.length := by rw [List.length_append, frameL_len]
  have h0 : (frameL b ++ rest).getD 0 0 = u8 (b.length / 256) := rfl
  have h1 : (frameL b ++ rest).getD 1 0 = u8 b.length := rfl
  have hd : (frameL b ++ rest).drop 6 = b ++ rest := rfl
  have ht : (frameL b ++ rest).take (6 + b.length) = frameL b := by rw [List.take_append_of_le_length (by rw [frameL_len]; omega), List.take_of_length_le (by rw [frameL_len]; omega)]
  have hn : 256 * (u8 (b.length / 256)).toNat + (u8 b.length).toNat = b.length := by rw [u8N, u8N]; omega
  unfold unframeL
  rw [if_neg (by omega), h0, h1]
  simp only [hn]
  rw [if_neg (by omega), if_neg (by omega), hd, ht, List.take_append_of_le_length (Nat.le_refl _), List.take_length, if_pos rfl]

structure UnfF (d : List UInt8) : Prop where
  le : (unframeL d).2.1 ≤ d.length
  ok : (unframeL d).2.2 = 0 → 6 ≤ (unframeL d).2.1 ∧ (unframeL d).1.length + 6 = (unframeL d).2.1 ∧ d = frameL (unframeL d).1 ++ d.drop (unframeL d).2.1
  no : (unframeL d).2.2 ≠ 0 → (unframeL d).1 = [] ∧ (unframeL d).2.1 = 0
  small : (unframeL d).1.length ≤ 4096
  err : (unframeL d).2.2 ≤ 33
theorem unfF (d : List UInt8) : UnfF d := by
  by_cases h1 : d.length < 6
  · have e : unframeL d = ([], 0, 30) := by unfold unframeL; rw [if_pos h1]
    constructor <;> simp [e]
  by_cases h2 : 4096 < 256 * (d.getD 0 0).toNat + (d.getD 1 0).toNat
  · have e : unframeL d = ([], 0, 31) := by unfold unframeL; rw [if_neg h1]; simp only; rw [if_pos h2]
    constructor <;> simp [e]
  by_cases h3 : d.length - 6 < 256 * (d.getD 0 0).toNat + (d.getD 1 0).toNat
  · have e : unframeL d = ([], 0, 30) := by unfold unframeL; rw [if_neg h1]; simp only; rw [if_neg h2, if_pos h3]
    constructor <;> simp [e]
  obtain ⟨n, hn⟩ : ∃ n, n = 256 * (d.getD 0 0).toNat + (d.getD 1 0).toNat := ⟨_, rfl⟩
  by_cases h4 : frameL ((d.drop 6).take n) = d.take (6 + n)
  · have e : unframeL d = ((d.drop 6).take n, 6 + n, 0) := by unfold unframeL; rw [if_neg h1]; simp only; rw [← hn, if_neg (by omega), if_neg (by omega), if_pos h4]
    constructor
    · rw [e]; simp only; omega
    · intro _
      rw [e]
      refine ⟨by simp only; omega, by simp; omega, ?_⟩
      simp only
      rw [h4, List.take_append_drop]
    · intro h; rw [e] at h; exact absurd rfl h
    · rw [e]; simp; omega
    · rw [e]; simp
  · have e : unframeL d = ([], 0, 33) := by unfold unframeL; rw [if_neg h1]; simp only; rw [← hn, if_neg (by omega), if_neg (by omega), if_neg h4]
    constructor <;> simp [e]
theorem UnfF.all {d : List UInt8} : UnfF d := unfF d

theorem framesL_eq_nil {b : List UInt8} (h : framesL b = []) : b = [] := by
  by_cases hb : b = []
  · exact hb
  · rw [framesL_cons hb] at h
    have := congrArg List.length h
    rw [List.length_append, frameL_len] at this
    simp at this

theorem framesL_ge (b : List UInt8) : b.length ≤ (framesL b).length := by
  have key : ∀ (n : Nat) (b : List UInt8), b.length = n → b.length ≤ (framesL b).length := by
    intro n
    induction n using Nat.strongRecOn with
    | _ n ih =>
      intro b hb
      by_cases hbn : b = []
      · subst hbn; simp
      · have hp : 0 < b.length := List.length_pos_iff.2 hbn
        rw [framesL_cons hbn, List.length_append, frameL_len]
        have := ih (b.drop 1024).length (by simp; omega) _ rfl
        simp only [List.length_drop, List.length_take] at this ⊢
        omega
  exact key _ b rfl
theorem numL_inj : ∀ (m n : Nat), numL m = numL n → m = n := by
  intro m
  induction m using Nat.strongRecOn with
  | _ m ih =>
    intro n h
    by_cases hm : m < 128
    · by_cases hn : n < 128
      · rw [numL_small hm, numL_small hn] at h
        have := congrArg UInt8.toNat (List.cons.inj h).1
        rw [u8N, u8N] at this
        omega
      · rw [numL_small hm, numL_big hn] at h
        have := congrArg UInt8.toNat (List.cons.inj h).1
        rw [u8N, u8N] at this
        omega
    · by_cases hn : n < 128
      · rw [numL_big hm, numL_small hn] at h
        have := congrArg UInt8.toNat (List.cons.inj h).1
        rw [u8N, u8N] at this
        omega
      · rw [numL_big hm, numL_big hn] at h
        have h1 := congrArg UInt8.toNat (List.cons.inj h).1
        have h2 := ih (m / 128) (by omega) _ (List.cons.inj h).2
        rw [u8N, u8N] at h1
        omega
theorem numL_few {b : List UInt8} (hb : b.length ≤ 1000000) : (numL b.length).length ≤ 4096 := by have := numL_len 2 b.length (by omega); omega
theorem pack_len_ge (b : List UInt8) : b.length ≤ (packL b).length := by
  have := framesL_ge b
  unfold packL
  rw [List.length_append]; omega
theorem pack_len_le {b : List UInt8} (hb : b.length ≤ 100000) : (packL b).length ≤ 9 + 7 * b.length := by
  have h2 := framesL_len _ b rfl
  have h3 := numL_len 2 b.length (by omega)
  unfold packL
  rw [List.length_append, frameL_len]
  omega
theorem frame_inj {x y r s : List UInt8} (hx : x.length ≤ 4096) (hy : y.length ≤ 4096) (h : frameL x ++ r = frameL y ++ s) : x = y ∧ r = s := by
  have h1 := unframe_frame r hx
  rw [h, unframe_frame s hy] at h1
  have h2 : x = y := (congrArg Prod.fst h1).symm
  subst h2
  exact ⟨rfl, List.append_cancel_left h⟩
theorem frames_inj (a b : List UInt8) (h : framesL a = framesL b) : a = b := by
  have key : ∀ (n : Nat) (a b : List UInt8), a.length = n → framesL a = framesL b → a = b := by
    intro n
    induction n using Nat.strongRecOn with
    | _ n ih =>
      intro a b hn h
      by_cases ha : a = []
      · subst ha; rw [framesL_nil] at h; exact (framesL_eq_nil h.symm).symm
      · by_cases hb : b = []
        · subst hb; rw [framesL_nil] at h; exact framesL_eq_nil h
        · have hp : 0 < a.length := List.length_pos_iff.2 ha
          rw [framesL_cons ha, framesL_cons hb] at h
          obtain ⟨h1, h2⟩ := frame_inj (by simp; omega) (by simp; omega) h
          have h3 := ih (a.drop 1024).length (by simp; omega) _ _ rfl h2
          rw [← List.take_append_drop 1024 a, h1, h3, List.take_append_drop]
  exact key _ a b rfl h
theorem pack_inj {a b : List UInt8} (ha : a.length ≤ 100000) (h : packL a = packL b) : a = b := by
  have h1 := pack_len_ge b
  have h2 := pack_len_le ha
  rw [← h] at h1
  have h3 := frame_inj (numL_few (by omega)) (numL_few (by omega)) h
  exact frames_inj _ _ h3.2
theorem frames_same_len (a b : List UInt8) (h : a.length = b.length) : (framesL a).length = (framesL b).length := by
  have key : ∀ (n : Nat) (a b : List UInt8), a.length = n → a.length = b.length → (framesL a).length = (framesL b).length := by
    intro n
    induction n using Nat.strongRecOn with
    | _ n ih =>
      intro a b hn h
      by_cases ha : a = []
      · subst ha
        have : b = [] := List.length_eq_zero_iff.1 (by simpa using h.symm)
        rw [this]
      · have hp : 0 < a.length := List.length_pos_iff.2 ha
        have hb : b ≠ [] := fun e => by rw [e] at h; simp at h; exact ha h
        rw [framesL_cons ha, framesL_cons hb, List.length_append, List.length_append, frameL_len, frameL_len]
        have := ih (a.drop 1024).length (by simp; omega) (a.drop 1024) (b.drop 1024) rfl (by simp; omega)
        simp only [List.length_take]
        omega
  exact key _ a b rfl h
/-- No beginning of a body's bytes is a body's. -/
theorem pack_noprefix {a b : List UInt8} {j : Nat} (ha : a.length ≤ 100000) (hj : j < (packL a).length) : packL b ≠ (packL a).take j := by
  intro h
  have h1 := pack_len_ge b
  have h2 := pack_len_le ha
  have h3 := congrArg List.length h
  rw [List.length_take] at h3
  have h4 : packL b ++ (packL a).drop j = packL a := by rw [h, List.take_append_drop]
  unfold packL at h4
  rw [List.append_assoc] at h4
  have h5 := frame_inj (numL_few (by omega)) (numL_few (by omega)) h4
  have h6 := numL_inj _ _ h5.1
  have h7 := frames_same_len b a h6
  have h8 : (packL b).length = (packL a).length := by
    unfold packL
    rw [List.length_append, List.length_append, h7, h6]
  omega

section
variable {B w : World} {Γ : List HProp}
theorem rdB_drop {w : World} {s : Sl} {d : List UInt8} {i : Nat} (h : RdB w s d) (hi : i ≤ s.n) (hcap : s.n ≤ s.c) (hsp : ∀ a, s.a = some a → a.spot = none) : RdB w ⟨cutA s.a i s.c 1, s.n - i, s.c - i⟩ (d.drop i) := by
  have h2 := h.drop (l := i) (c := s.c) hi hcap hsp
  simp only [Nat.mul_one] at h2
  show RdC w _ 1 ((d.drop i).map byteV)
  rw [List.map_drop]
  exact h2
theorem cutA_spot {a : Option Addr} {l m e : Nat} (hsp : ∀ x, a = some x → x.spot = none) : ∀ x, cutA a l m e = some x → x.spot = none := by
  intro x hx
  unfold cutA at hx
  split at hx
  · exact hsp x hx
  · cases ha : a with
    | none => rw [ha] at hx; cases hx
    | some y =>
      rw [ha] at hx
      simp only [Option.map_some, Option.some.injEq] at hx
      have := hsp y ha
      rw [← hx]
      obtain ⟨b, o, sp⟩ := y
      simp only at this
      subst this
      rw [add_mk]

theorem snap_Unpack_spec {s : Sl} {d : List UInt8} {k : Sl → Int → K} (hl : d.length ≤ 100000) (hcap : s.n ≤ s.c) (h : Holds B Γ w) (hr : ∀ w, Holds B Γ w → RdB w s d)
    (hok : ∀ b f w, packL b = d → Holds B (Bytes ty_uint8 f b :: Γ) w → k f 0 w) (hno : (∀ b, packL b ≠ d) → ∀ w, Holds B Γ w → k ⟨none, 0, 0⟩ 61 w) : snap_Unpack.call s k w := by
  have hn : d.length = s.n := by have := (hr w h).len; simpa using this
  refine snap_Unpack_ok _ _ _ ?_
  unfold snap_Unpack
  refine code_Unframe_spec (by omega) h hr hcap fun f w h => ?_
  replace h := h.tail
  refine r_new h ?_
  clear h
  intro t16 w h
  try simp only [add_mk, Nat.zero_add, Nat.reduceAdd]
  replace h := bytes_new (xs := []) (n := 0) (by rfl) rfl h
  have hF := unfF d
  have hF1 := hF.le
  refine LoopK.of (fun t w => ∃ (i e : Nat) (o : Sl) (b : List UInt8), t = ((i : Int), (e : Int), o) ∧ i ≤ d.length ∧ e ≤ 33 ∧ b.length ≤ i ∧
      (∀ b0, packL b0 = d → e = 0 ∧ ∃ j, b = b0.take j ∧ j ≤ b0.length ∧ d.drop i = framesL (b0.drop j)) ∧ Holds B (Bytes ty_uint8 o b :: Γ) w)
    (fun t _ => 2 * ((s.n : Int) - t.1).toNat + (if t.2.1 = 0 then 1 else 0)) ⟨(unframeL d).2.1, (unframeL d).2.2, _, [], rfl, hF.le, hF.err, by simp, fun b0 hb0 => ?_, h⟩ ?_
  · have hnl : (numL b0.length).length ≤ 4096 := by
      have h1 : (packL b0).length ≤ 100000 := by rw [hb0]; omega
      unfold packL at h1
      rw [List.length_append, frameL_len] at h1
      have h3 : (numL b0.length).length ≤ 4 ∨ ¬ b0.length < 128 ^ 4 := by
        by_cases hb : b0.length < 128 ^ 4
        · exact .inl (numL_len 3 _ hb)
        · exact .inr hb
      rcases h3 with h3 | h3
      · omega
      · exfalso
        have h4 := framesL_ge b0
        omega
    have hu := unframe_frame (b := numL b0.length) (framesL b0) hnl
    have hu2 : unframeL d = (numL b0.length, 6 + (numL b0.length).length, 0) := by rw [← hb0]; exact hu
    rw [hu2]
    refine ⟨rfl, 0, rfl, by omega, ?_⟩
    rw [← hb0]
    unfold packL
    simp only [List.drop_zero]
    rw [← frameL_len, List.drop_left]
  clear h hF hF1
  rintro t w ⟨i, e, o, b, rfl, hi, he33, hbl, hall, h⟩
  dsimp only
  have hlast : (∀ b0, packL b0 = d → e = 0 ∧ d.drop i = [] → b = b0) := fun b0 hb0 hx => by
    obtain ⟨_, j, h1, h2, h3⟩ := hall b0 hb0
    rw [hx.2] at h3
    have h4 := framesL_eq_nil h3.symm
    have : b0.length ≤ j := by have := congrArg List.length h4; simp at this; omega
    rw [h1, List.take_of_length_le this]
  unfold snap_Unpack.b1
  refine r_ite (fun hb => ?_) (fun hb => ?_)
  · simp only [decide_eq_true_eq] at hb
    have he0 : e = 0 := by omega
    unfold snap_Unpack.s2
    refine r_ite (fun hb2 => ?_) (fun hb2 => ?_)
    · simp only [decide_eq_true_eq] at hb2
      refine ⟨_, by omega, by omega, by omega, by omega, rfl, ?_⟩
      simp only [Int.toNat_natCast]
      have hsp := rd_spot (hr w h.tail) (fun e => by rw [e] at hn; simp at hn; omega)
      have hG := unfF (d.drop i)
      have hG1 := hG.le
      have hG2 := hG.small
      simp only [List.length_drop] at hG1
      refine code_Unframe_spec (d := d.drop i) (by simp; omega) h (fun w h => rdB_drop (hr w h.tail) (by omega) hcap hsp) (by simp only; omega) fun f w h => ?_
      have hbb : b.length + (unframeL (d.drop i)).1.length ≤ i + (unframeL (d.drop i)).2.1 := by
        by_cases hz : (unframeL (d.drop i)).2.2 = 0
        · have := (hG.ok hz).2.1; omega
        · have := (hG.no hz).1; rw [this]; simp; omega
      refine r_appB h.swap (Bytes.rd h List.mem_cons_self) (by omega) fun o' w h _ _ => ?_
      replace h := h.del 1 at1
      try simp only [N1, N2, N3, N4, N5, N6, N7] at h
      refine r_ar (e' := ((i + (unframeL (d.drop i)).2.1 : Nat) : Int)) (by rw [wrap64 (by omega) (by omega)]; omega) ?_
      refine ⟨⟨_, _, o', _, rfl, by omega, hG.err, ?_, fun b0 hb0 => ?_, h⟩, ?_⟩
      · rw [List.length_append]; omega
      · obtain ⟨_, j, h1, h2, h3⟩ := hall b0 hb0
        have hbn : b0.drop j ≠ [] := fun e => by
          rw [e, framesL_nil] at h3
          have := congrArg List.length h3
          simp at this; omega
        rw [framesL_cons hbn] at h3
        have hu := unframe_frame (b := (b0.drop j).take 1024) (framesL ((b0.drop j).drop 1024)) (by simp; omega)
        rw [← h3] at hu
        rw [hu]
        refine ⟨rfl, min (j + 1024) b0.length, ?_, by omega, ?_⟩
        · simp only
          rw [h1, ← List.take_add]
          by_cases hle : j + 1024 ≤ b0.length
          · rw [Nat.min_eq_left hle]
          · rw [Nat.min_eq_right (by omega), List.take_of_length_le (by omega), List.take_length]
        · simp only
          rw [← List.drop_drop, h3, ← frameL_len, List.drop_left]
          rw [List.drop_drop]
          by_cases hle : j + 1024 ≤ b0.length
          · rw [Nat.min_eq_left hle]
          · rw [Nat.min_eq_right (by omega), List.drop_of_length_le (by omega), List.drop_length]
      · by_cases hz : (unframeL (d.drop i)).2.2 = 0
        · have := (hG.ok hz).1
          simp only [hz, he0]
          split <;> omega
        · have := (hG.no hz).2
          have hz2 : ¬ (((unframeL (d.drop i)).2.2 : Int) = 0) := by omega
          simp only [he0, this, if_neg hz2]
          simp
    · simp only [decide_eq_false_iff_not] at hb2
      have hdi : d.drop i = [] := List.drop_of_length_le (by omega)
      refine r_ite_f (by simp only [decide_eq_false_iff_not]; omega) ?_
      have hsc := h.slCap
      refine snap_Pack_spec (xs := b) (by omega) hsc.2.1 h (fun w h => Bytes.rd h List.mem_cons_self) fun f w h => ?_
      have hpl : (packL b).length ≤ 1000000 := by
        have h2 := framesL_len _ b rfl
        have h3 := numL_len 2 b.length (by omega)
        unfold packL
        rw [List.length_append, frameL_len]
        omega
      refine slices_Equal_spec (by omega) h (fun w h => Bytes.rd h List.mem_cons_self) (fun w h => hr w h.tail.tail) fun w h => ?_
      unfold snap_Unpack.s3
      refine r_ite (fun hb3 => ?_) (fun hb3 => ?_)
      · simp only [Bool.not_eq_true', decide_eq_false_iff_not] at hb3
        refine hno (fun b0 hb0 => ?_) _ h.tail.tail
        have := hlast b0 hb0 ⟨he0, hdi⟩
        rw [this] at hb3
        exact hb3 hb0
      · simp only [Bool.not_eq_false', decide_eq_true_eq] at hb3
        exact hok b o _ hb3 h.tail
  · simp only [decide_eq_false_iff_not] at hb
    unfold snap_Unpack.s2
    refine r_ite_f rfl ?_
    refine r_ite_t (by simp only [decide_eq_true_eq]; omega) ?_
    unfold snap_Unpack.s3
    refine r_ite_t rfl ?_
    refine hno (fun b0 hb0 => ?_) _ h.tail
    have := (hall b0 hb0).1
    omega
end
end Go.Proofs.Ytgnkminakongkaa
