/- The check sum, frames. -/
import Derived.Test.YtdpepgjbambinaaMore
import Derived.Test.YtdpepgjbambinaaStr
import Derived.Test.YtdpepgjbambinaaIRCode
import Derived.Test.YtdpepgjbambinaaSBy
namespace Go.Proofs.Ytdpepgjbambinaa
open Go Go.Sep
set_option linter.unusedSimpArgs false
set_option linter.unusedVariables false
set_option maxRecDepth 100000

/-! ### words of 32 bits -/
theorem ofInt32 (x : BitVec 32) : BitVec.ofInt (IntKind.bits .u32) (x.toNat : Int) = x := by
  show BitVec.ofInt 32 (x.toNat : Int) = x
  rw [BitVec.ofInt_natCast, BitVec.ofNat_toNat, BitVec.setWidth_eq]
theorem wrapN32 (x : BitVec 32) : IntKind.wrap .u32 (x.toNat : Int) = x.toNat := wrapU32 (by omega) (by have := x.isLt; omega)
theorem xor32 (x y : BitVec 32) : bitsOf .xor .u32 (x.toNat : Int) (y.toNat : Int) = ((x ^^^ y).toNat : Int) := by
  unfold bitsOf
  simp only [ofInt32]
  exact wrapN32 _
theorem and32 (x y : BitVec 32) : bitsOf .and .u32 (x.toNat : Int) (y.toNat : Int) = ((x &&& y).toNat : Int) := by
  unfold bitsOf
  simp only [ofInt32]
  exact wrapN32 _
theorem shr32 (x : BitVec 32) (n : Nat) (hn : n < 32) : shrOf .u32 (x.toNat : Int) (n : Int) = ((x >>> n).toNat : Int) := by
  unfold shrOf
  have : min ((n : Int).toNat) (IntKind.bits .u32) = n := by simp [IntKind.bits]; omega
  rw [this, BitVec.toNat_ushiftRight, Nat.shiftRight_eq_div_pow, Int.fdiv_eq_ediv_of_nonneg _ (Int.le_of_lt (Int.pow_pos (by decide))), Int.natCast_ediv, Int.natCast_pow]
  rfl
def crcB (s : BitVec 32) : BitVec 32 := if s &&& 1 = 1 then (s >>> 1) ^^^ 2197175160#32 else s >>> 1
def crcN : Nat → BitVec 32 → BitVec 32
  | 0, s => s
  | n + 1, s => crcN n (crcB s)
theorem crcN_succ : ∀ (n : Nat) (s : BitVec 32), crcN (n + 1) s = crcB (crcN n s)
  | 0, s => rfl
  | n + 1, s => by rw [crcN, crcN_succ n]; rfl
def crcByte (s : BitVec 32) (b : UInt8) : BitVec 32 := crcN 8 (s ^^^ b.toBitVec.setWidth 32)
def crcR (xs : List UInt8) : BitVec 32 := xs.foldl crcByte 4294967295#32
def crcC (xs : List UInt8) : BitVec 32 := 4294967295#32 ^^^ crcR xs

section
variable {B w : World} {Γ : List HProp}
theorem wrapB32 (x : UInt8) : IntKind.wrap .u32 (x.toNat : Int) = ((x.toBitVec.setWidth 32).toNat : Int) := by
  have := x.toNat_lt
  rw [wrapU32 (by omega) (by omega), BitVec.toNat_setWidth]
  have e : x.toBitVec.toNat = x.toNat := rfl
  rw [e, Nat.mod_eq_of_lt (by omega)]

theorem code_Sum_spec {s : Sl} {xs : List UInt8} {k : Int → K} (hl : xs.length ≤ 1000000000) (h : Holds B Γ w) (hr : ∀ w, Holds B Γ w → RdB w s xs) (hk : ∀ w, Holds B Γ w → k ((crcC xs).toNat : Int) w) : code_Sum.call s k w := by
  have hn : xs.length = s.n := by have := (hr w h).len; simpa using this
  refine code_Sum_ok _ _ _ ?_
  unfold code_Sum
  refine LoopK.of (fun t w => ∃ j : Nat, t = (((crcR (xs.take j)).toNat : Int), (j : Int)) ∧ j ≤ xs.length ∧ Holds B Γ w) (fun t _ => ((s.n : Int) - t.2).toNat) ⟨0, rfl, by omega, h⟩ ?_
  clear h
  rintro t w ⟨j, rfl, hj, h⟩
  dsimp only
  unfold code_Sum.b1
  refine r_ite (fun hb => ?_) (fun hb => ?_)
  · simp only [decide_eq_true_eq] at hb
    have hjl : j < xs.length := by omega
    have hx : xs[j]? = some xs[j] := List.getElem?_eq_getElem hjl
    generalize hX : xs[j] = x at hx
    refine r_byte (hr w h) hx ?_
    refine r_ar (wrapB32 x) ?_
    refine r_ar (xor32 _ _) ?_
    refine LoopK.of (fun t w => ∃ i : Nat, t = (((crcN i (crcR (xs.take j) ^^^ x.toBitVec.setWidth 32)).toNat : Int), (i : Int)) ∧ i ≤ 8 ∧ Holds B Γ w) (fun t _ => ((8 : Int) - t.2).toNat) ⟨0, rfl, by omega, h⟩ ?_
    clear h
    rintro t w ⟨i, rfl, hi, h⟩
    dsimp only
    unfold code_Sum.b2
    refine r_ite (fun hb2 => ?_) (fun hb2 => ?_)
    · simp only [decide_eq_true_eq] at hb2
      have hS := crcN_succ i (crcR (xs.take j) ^^^ x.toBitVec.setWidth 32)
      have key : ∀ w, Holds B Γ w → (fun (t : Int × Int) w => ∃ i : Nat, t = (((crcN i (crcR (xs.take j) ^^^ x.toBitVec.setWidth 32)).toNat : Int), (i : Int)) ∧ i ≤ 8 ∧ Holds B Γ w) (((crcB (crcN i (crcR (xs.take j) ^^^ x.toBitVec.setWidth 32))).toNat : Int), ((i : Int) + 1)) w := fun w h => by
        refine ⟨i + 1, ?_, by omega, h⟩
        rw [hS]
        simp
      clear hS
      generalize crcN i (crcR (xs.take j) ^^^ x.toBitVec.setWidth 32) = S at key
      refine r_ar (and32 S 1#32) ?_
      refine r_cd (by decide) ?_
      refine r_ar (shr32 S 1 (by decide)) ?_
      have e1 : ((S &&& 1#32).toNat : Int) = 1 ↔ S &&& 1 = 1 := by
        constructor
        · intro h1
          apply BitVec.eq_of_toNat_eq
          have : (S &&& 1#32).toNat = 1 := by omega
          exact this
        · intro h1
          have : (S &&& 1#32).toNat = 1 := by rw [show S &&& 1#32 = 1 from h1]; rfl
          omega
      refine r_ite (fun hb3 => ?_) (fun hb3 => ?_)
      · simp only [decide_eq_true_eq] at hb3
        refine r_ar (xor32 (S >>> 1) 2197175160#32) ?_
        unfold code_Sum.s3
        refine r_add64 (by omega) (by omega) ?_
        have e2 : crcB S = (S >>> 1) ^^^ 2197175160#32 := by unfold crcB; rw [if_pos (e1.1 hb3)]
        rw [← e2]
        exact ⟨key _ h, by omega⟩
      · simp only [decide_eq_false_iff_not] at hb3
        unfold code_Sum.s3
        refine r_add64 (by omega) (by omega) ?_
        have e2 : crcB S = S >>> 1 := by unfold crcB; rw [if_neg (fun h2 => hb3 (e1.2 h2))]
        rw [← e2]
        exact ⟨key _ h, by omega⟩
    · simp only [decide_eq_false_iff_not] at hb2
      have hi8 : i = 8 := by omega
      subst hi8
      refine r_add64 (by omega) (by omega) ?_
      refine ⟨⟨j + 1, ?_, by omega, h⟩, by omega⟩
      have e : crcR (xs.take (j + 1)) = crcN 8 (crcR (xs.take j) ^^^ x.toBitVec.setWidth 32) := by
        rw [List.take_succ_eq_append_getElem hjl, hX]
        unfold crcR
        rw [List.foldl_append]
        rfl
      rw [e]
      simp
  · simp only [decide_eq_false_iff_not] at hb
    have hj2 : j = xs.length := by omega
    subst hj2
    refine r_ar (xor32 4294967295#32 _) ?_
    rw [List.take_length]
    exact hk _ h
end
end Go.Proofs.Ytdpepgjbambinaa
