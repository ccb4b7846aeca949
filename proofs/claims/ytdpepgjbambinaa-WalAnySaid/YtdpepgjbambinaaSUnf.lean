/- Unframe. -/
import Derived.Test.YtdpepgjbambinaaSFrame
namespace Go.Proofs.Ytdpepgjbambinaa
open Go Go.Sep
set_option linter.unusedSimpArgs false
set_option linter.unusedVariables false
set_option maxRecDepth 100000

section
variable {B w : World} {Γ : List HProp}
def unframeL (d : List UInt8) : List UInt8 × Nat × Nat :=
  if d.length < 6 then ([], 0, 30)
  else
    let n := 256 * (d.getD 0 0).toNat + (d.getD 1 0).toNat
    if 4096 < n then ([], 0, 31)
    else if d.length - 6 < n then ([], 0, 30)
    else if frameL ((d.drop 6).take n) = d.take (6 + n) then ((d.drop 6).take n, 6 + n, 0) else ([], 0, 33)

theorem shl8 (x : Nat) (hx : x < 256) : shlOf .i64 (x : Int) 8 = ((x * 256 : Nat) : Int) := by
  unfold shlOf
  have : min ((8 : Int).toNat) (IntKind.bits .i64) = 8 := rfl
  rw [this]
  rw [wrap64 (by omega) (by omega)]
  omega
theorem or16 (x y : Nat) (hx : x < 256) (hy : y < 256) : bitsOf .or .i64 ((x * 256 : Nat) : Int) (y : Int) = ((256 * x + y : Nat) : Int) := by
  unfold bitsOf
  simp only
  have h1 : (BitVec.ofInt (IntKind.bits .i64) ((x * 256 : Nat) : Int) ||| BitVec.ofInt (IntKind.bits .i64) (y : Int)).toNat = 256 * x + y := by
    show (BitVec.ofInt 64 ((x * 256 : Nat) : Int) ||| BitVec.ofInt 64 (y : Int)).toNat = _
    rw [BitVec.toNat_or, BitVec.ofInt_natCast, BitVec.ofInt_natCast, BitVec.toNat_ofNat, BitVec.toNat_ofNat, Nat.mod_eq_of_lt (by omega), Nat.mod_eq_of_lt (by omega)]
    have h4 := Nat.two_pow_add_eq_or_of_lt (i := 8) (b := y) (by omega) x
    have h5 : 2 ^ 8 * x = x * 256 := by omega
    rw [h5] at h4
    omega
  rw [h1, wrap64 (by omega) (by omega)]

theorem code_Unframe_spec {s : Sl} {d : List UInt8} {k : Sl → Int → Int → K} (hl : d.length ≤ 100000000) (h : Holds B Γ w) (hr : ∀ w, Holds B Γ w → RdB w s d) (hcap : s.n ≤ s.c)
    (hk : ∀ f w, Holds B (Bytes ty_uint8 f (unframeL d).1 :: Γ) w → k f ((unframeL d).2.1 : Int) ((unframeL d).2.2 : Int) w) : code_Unframe.call s k w := by
  have hn : d.length = s.n := by have := (hr w h).len; simpa using this
  refine code_Unframe_ok _ _ _ ?_
  unfold code_Unframe
  unfold unframeL at hk
  refine r_ite (fun hb => ?_) (fun hb => ?_)
  · simp only [decide_eq_true_eq] at hb
    rw [if_pos (by omega)] at hk
    exact hk _ _ (h.nilSl _ _)
  simp only [decide_eq_false_iff_not] at hb
  rw [if_neg (by omega)] at hk
  have hsp := rd_spot (hr w h) (fun e => by rw [e] at hn; simp at hn; omega)
  refine r_dr h ?_
  clear h
  intro w h
  have h0 : d[0]? = some (d.getD 0 0) := by
    have : 0 < d.length := by omega
    simp [List.getD, List.getElem?_eq_getElem this]
  have h1 : d[1]? = some (d.getD 1 0) := by
    have : 1 < d.length := by omega
    simp [List.getD, List.getElem?_eq_getElem this]
  have hx := (d.getD 0 0).toNat_lt
  have hy := (d.getD 1 0).toNat_lt
  generalize d.getD 0 0 = x at h0 hx hk
  generalize d.getD 1 0 = y at h1 hy hk
  refine r_byte (j := 0) (hr w h) h0 ?_
  refine r_ar (wrap64 (by omega) (by omega)) ?_
  refine r_cd (by decide) ?_
  refine r_ar (shl8 _ (by omega)) ?_
  refine r_byte (j := 1) (hr w h) h1 ?_
  refine r_ar (wrap64 (by omega) (by omega)) ?_
  refine r_ar (or16 _ _ (by omega) (by omega)) ?_
  generalize 256 * x.toNat + y.toNat = n at hk
  simp only at hk
  refine r_ite (fun hb2 => ?_) (fun hb2 => ?_)
  · simp only [decide_eq_true_eq] at hb2
    rw [if_pos (by omega)] at hk
    exact hk _ _ (h.nilSl _ _)
  simp only [decide_eq_false_iff_not] at hb2
  rw [if_neg (by omega)] at hk
  refine r_ar (wrap64 (by omega) (by omega)) ?_
  refine r_ite (fun hb3 => ?_) (fun hb3 => ?_)
  · simp only [decide_eq_true_eq] at hb3
    rw [if_pos (by omega)] at hk
    exact hk _ _ (h.nilSl _ _)
  simp only [decide_eq_false_iff_not] at hb3
  rw [if_neg (by omega)] at hk
  have e6 : (6 : Int) + (n : Int) = ((6 + n : Nat) : Int) := by omega
  refine r_ar (e' := ((6 + n : Nat) : Int)) (by rw [wrap64 (by omega) (by omega)]; omega) ?_
  refine ⟨_, by omega, by omega, by omega, by omega, rfl, ?_⟩
  simp only [Int.toNat_natCast, show (6 : Int).toNat = 6 from rfl]
  have hd6 : ∀ w, Holds B Γ w → RdB w ⟨cutA s.a 6 s.c 1, 6 + n - 6, s.c - 6⟩ ((d.drop 6).take n) := fun w h => by
    have h1 := (hr w h).drop (l := 6) (c := s.c) (by omega) hcap hsp
    have h2 := h1.take (m := n) (c := s.c - 6) (by simp only; omega)
    have e : 6 + n - 6 = n := by omega
    rw [e]
    show RdC w _ 1 (((d.drop 6).take n).map byteV)
    rw [List.map_take, List.map_drop]
    simpa using h2
  have hdl : ((d.drop 6).take n).length = n := by simp; omega
  refine code_Frame_spec (b := (d.drop 6).take n) (by omega) h hd6 fun f w h => ?_
  refine r_ar (e' := ((6 + n : Nat) : Int)) (by rw [wrap64 (by omega) (by omega)]; omega) ?_
  refine ⟨_, by omega, by omega, by omega, by omega, rfl, ?_⟩
  simp only [Int.toNat_natCast, show (0 : Int).toNat = 0 from rfl, cut0 hsp, Nat.sub_zero]
  have hfl := frameL_len ((d.drop 6).take n)
  refine slices_Equal_spec (xs := frameL ((d.drop 6).take n)) (ys := d.take (6 + n)) (by omega) h (fun w h => Bytes.rd h List.mem_cons_self) (fun w h => by
    have h1 := (hr w h.tail).take (m := 6 + n) (c := s.c) (by omega)
    show RdC w _ 1 ((d.take (6 + n)).map byteV)
    rw [List.map_take]
    simpa using h1) fun w h => ?_
  by_cases he : frameL ((d.drop 6).take n) = d.take (6 + n)
  · rw [if_pos he] at hk
    rw [decide_eq_true he]
    refine r_ite_f rfl ?_
    have hfn := Bytes.len h
    have hfc := h.slCap
    refine ⟨_, by omega, by omega, by omega, by omega, rfl, ?_⟩
    simp only [Int.toNat_natCast, show (6 : Int).toNat = 6 from rfl]
    have h2 := h.imp (SlC.dropF (l := 6) (by omega))
    have e2 : ((frameL ((d.drop 6).take n)).map byteV).drop (6 * 1) = ((d.drop 6).take n).map byteV := by
      rw [← List.map_drop]
      congr 1
    rw [e2] at h2
    have e3 : f.n = 6 + n := by omega
    have := hk _ _ h2
    rw [e3] at this ⊢
    exact this
  · rw [if_neg he] at hk
    rw [decide_eq_false he]
    refine r_ite_t rfl ?_
    exact hk _ _ (h.tail.nilSl _ _)
end

theorem unframe_frame {b : List UInt8} (rest : List UInt8) (hb : b.length ≤ 4096) : unframeL (frameL b ++ rest) = (b, 6 + b.length, 0) := by
  have hl : (frameL b ++ rest).length = 6 + b.length + rest.length := by rw [List.length_append, frameL_len]
  have h0 : (frameL b ++ rest).getD 0 0 = u8 (b.length / 256) := rfl
  have h1 : (frameL b ++ rest).getD 1 0 = u8 b.length := rfl
  have hd : (frameL b ++ rest).drop 6 = b ++ rest := rfl
  have ht : (frameL b ++ rest).take (6 + b.length) = frameL b := by rw [List.take_append_of_le_length (by rw [frameL_len]; omega), List.take_of_length_le (by rw [frameL_len]; omega)]
  have hn : 256 * (u8 (b.length / 256)).toNat + (u8 b.length).toNat = b.length := by rw [u8N, u8N]; omega
  unfold unframeL
  rw [if_neg (by omega), h0, h1]
  simp only [hn]
  rw [if_neg (by omega), if_neg (by omega), hd, ht, List.take_append_of_le_length (Nat.le_refl _), List.take_length, if_pos rfl]

structure UnfF (d : List UInt8) : Prop where
  le : (unframeL d).2.1 ≤ d.length
  ok : (unframeL d).2.2 = 0 → 6 ≤ (unframeL d).2.1 ∧ (unframeL d).1.length + 6 = (unframeL d).2.1 ∧ d = frameL (unframeL d).1 ++ d.drop (unframeL d).2.1
  no : (unframeL d).2.2 ≠ 0 → (unframeL d).1 = [] ∧ (unframeL d).2.1 = 0
  small : (unframeL d).1.length ≤ 4096
  err : (unframeL d).2.2 ≤ 33
theorem unfF (d : List UInt8) : UnfF d := by
  by_cases h1 : d.length < 6
  · have e : unframeL d = ([], 0, 30) := by unfold unframeL; rw [if_pos h1]
    constructor <;> simp [e]
  by_cases h2 : 4096 < 256 * (d.getD 0 0).toNat + (d.getD 1 0).toNat
  · have e : unframeL d = ([], 0, 31) := by unfold unframeL; rw [if_neg h1]; simp only; rw [if_pos h2]
    constructor <;> simp [e]
  by_cases h3 : d.length - 6 < 256 * (d.getD 0 0).toNat + (d.getD 1 0).toNat
  · have e : unframeL d = ([], 0, 30) := by unfold unframeL; rw [if_neg h1]; simp only; rw [if_neg h2, if_pos h3]
    constructor <;> simp [e]
  obtain ⟨n, hn⟩ : ∃ n, n = 256 * (d.getD 0 0).toNat + (d.getD 1 0).toNat := ⟨_, rfl⟩
  by_cases h4 : frameL ((d.drop 6).take n) = d.take (6 + n)
  · have e : unframeL d = ((d.drop 6).take n, 6 + n, 0) := by unfold unframeL; rw [if_neg h1]; simp only; rw [← hn, if_neg (by omega), if_neg (by omega), if_pos h4]
    constructor
    · rw [e]; simp only; omega
    · intro _
      rw [e]
      refine ⟨by simp only; omega, by simp; omega, ?_⟩
      simp only
      rw [h4, List.take_append_drop]
    · intro h; rw [e] at h; exact absurd rfl h
    · rw [e]; simp; omega
    · rw [e]; simp
  · have e : unframeL d = ([], 0, 33) := by unfold unframeL; rw [if_neg h1]; simp only; rw [← hn, if_neg (by omega), if_neg (by omega), if_neg h4]
    constructor <;> simp [e]
theorem UnfF.all {d : List UInt8} : UnfF d := unfF d

theorem frame_inj {x y r s : List UInt8} (hx : x.length ≤ 4096) (hy : y.length ≤ 4096) (h : frameL x ++ r = frameL y ++ s) : x = y ∧ r = s := by
  have h1 := unframe_frame r hx
  rw [h, unframe_frame s hy] at h1
  have h2 : x = y := (congrArg Prod.fst h1).symm
  subst h2
  exact ⟨rfl, List.append_cancel_left h⟩
section
variable {B w : World} {Γ : List HProp}
theorem rdB_drop {w : World} {s : Sl} {d : List UInt8} {i : Nat} (h : RdB w s d) (hi : i ≤ s.n) (hcap : s.n ≤ s.c) (hsp : ∀ a, s.a = some a → a.spot = none) : RdB w ⟨cutA s.a i s.c 1, s.n - i, s.c - i⟩ (d.drop i) := by
  have h2 := h.drop (l := i) (c := s.c) hi hcap hsp
  simp only [Nat.mul_one] at h2
  show RdC w _ 1 ((d.drop i).map byteV)
  rw [List.map_drop]
  exact h2
theorem cutA_spot {a : Option Addr} {l m e : Nat} (hsp : ∀ x, a = some x → x.spot = none) : ∀ x, cutA a l m e = some x → x.spot = none := by
  intro x hx
  unfold cutA at hx
  split at hx
  · exact hsp x hx
  · cases ha : a with
    | none => rw [ha] at hx; cases hx
    | some y =>
      rw [ha] at hx
      simp only [Option.map_some, Option.some.injEq] at hx
      have := hsp y ha
      rw [← hx]
      obtain ⟨b, o, sp⟩ := y
      simp only at this
      subst this
      rw [add_mk]

end
end Go.Proofs.Ytdpepgjbambinaa
