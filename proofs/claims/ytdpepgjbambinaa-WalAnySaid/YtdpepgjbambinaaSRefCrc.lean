/- The document's check sum: the rest of a division, coefficient by coefficient. -/
import Derived.Test.YtdpepgjbambinaaSFrame
import Derived.Test.YtdpepgjbambinaaIRRef01
namespace Go.Proofs.Ytdpepgjbambinaa
open Go Go.Sep
set_option linter.unusedSimpArgs false
set_option linter.unusedVariables false
set_option maxRecDepth 100000

/-! ### the plain law -/
def bitV (b : Bool) : BitVec 32 := if b then 1#32 else 0#32
/-- One bit more. -/
def crcBit (r : BitVec 32) (b : Bool) : BitVec 32 := crcB (r ^^^ bitV b)
theorem crcB_low (s v : BitVec 32) : crcB (s ^^^ v) = crcB (s ^^^ bitV (v.getLsbD 0)) ^^^ (v >>> 1) := by
  have hone : ∀ x : BitVec 32, (x &&& 1 = 1) ↔ x.getLsbD 0 = true := by
    intro x
    constructor
    · intro h
      have := congrArg (fun y => BitVec.getLsbD y 0) h
      simpa using this
    · intro h
      apply BitVec.eq_of_getLsbD_eq
      intro i hi
      rw [BitVec.getLsbD_and]
      by_cases h0 : i = 0
      · subst h0; rw [h]; rfl
      · have : (1#32).getLsbD i = false := by
          rw [BitVec.getLsbD_one]; simp [h0]
        show (x.getLsbD i && (1#32).getLsbD i) = (1#32).getLsbD i
        rw [this, Bool.and_false]
  have hb : (s ^^^ v).getLsbD 0 = (s ^^^ bitV (v.getLsbD 0)).getLsbD 0 := by
    rw [BitVec.getLsbD_xor, BitVec.getLsbD_xor]
    congr 1
    cases v.getLsbD 0 <;> rfl
  have hsh : (s ^^^ v) >>> 1 = ((s ^^^ bitV (v.getLsbD 0)) >>> 1) ^^^ (v >>> 1) := by
    apply BitVec.eq_of_getLsbD_eq
    intro i hi
    simp only [BitVec.getLsbD_ushiftRight, BitVec.getLsbD_xor]
    have : (bitV (v.getLsbD 0)).getLsbD (1 + i) = false := by
      unfold bitV
      split
      · rw [BitVec.getLsbD_one]; simp
      · simp
    rw [this, Bool.xor_false]
  unfold crcB
  by_cases h : (s ^^^ v) &&& 1 = 1
  · rw [if_pos h, if_pos ((hone _).2 (by rw [← hb]; exact (hone _).1 h)), hsh]
    rw [BitVec.xor_assoc, BitVec.xor_assoc]
    congr 1
    exact BitVec.xor_comm _ _
  · rw [if_neg h, if_neg (fun h2 => h ((hone _).2 (by rw [hb]; exact (hone _).1 h2))), hsh]
def crcBits (r : BitVec 32) (f : Nat → Bool) : Nat → BitVec 32
  | 0 => r
  | n + 1 => crcBit (crcBits r f n) (f n)
theorem crcBits_shift (f : Nat → Bool) : ∀ (n : Nat) (r : BitVec 32), crcBits r f (n + 1) = crcBits (crcBit r (f 0)) (fun i => f (i + 1)) n
  | 0, r => rfl
  | n + 1, r => by
    rw [crcBits, crcBits_shift f n]
    rfl
theorem crcN_bits : ∀ (n : Nat) (r v : BitVec 32), v >>> n = 0#32 → crcN n (r ^^^ v) = crcBits r (fun i => v.getLsbD i) n
  | 0, r, v, h => by
    have : v = 0#32 := by simpa using h
    rw [this]
    simp [crcN, crcBits]
  | n + 1, r, v, h => by
    rw [crcBits_shift, crcN, crcB_low, crcN_bits n _ (v >>> 1) (by rw [← h, ← BitVec.shiftRight_add, Nat.add_comm])]
    congr 1
    funext i
    rw [BitVec.getLsbD_ushiftRight, Nat.add_comm]
theorem crcByte_bits (r : BitVec 32) (b : UInt8) : crcByte r b = crcBits r (fun i => b.toNat.testBit i) 8 := by
  unfold crcByte
  rw [crcN_bits]
  · congr 1
  · apply BitVec.eq_of_toNat_eq
    rw [BitVec.toNat_ushiftRight, BitVec.toNat_setWidth]
    have := b.toNat_lt
    have e : b.toBitVec.toNat = b.toNat := rfl
    rw [e, Nat.mod_eq_of_lt (by omega), Nat.shiftRight_eq_div_pow]
    show b.toNat / 2 ^ 8 = 0
    omega

/-- The bits of bytes, one behind the other; behind them none. -/
def msg (xs : List UInt8) (j : Nat) : Bool := ((xs[j / 8]?).map fun b => b.toNat.testBit (j % 8)).getD false
theorem crcBits_add (r : BitVec 32) (f : Nat → Bool) (m : Nat) : ∀ n, crcBits r f (m + n) = crcBits (crcBits r f m) (fun i => f (m + i)) n
  | 0 => rfl
  | n + 1 => by rw [← Nat.add_assoc, crcBits, crcBits_add r f m n]; rfl
theorem crcBits_congr {r : BitVec 32} {f g : Nat → Bool} : ∀ {n : Nat}, (∀ i, i < n → f i = g i) → crcBits r f n = crcBits r g n
  | 0, _ => rfl
  | n + 1, h => by rw [crcBits, crcBits, crcBits_congr (n := n) (fun i hi => h i (by omega)), h n (by omega)]
theorem crcR_bits (xs : List UInt8) : ∀ n, n ≤ xs.length → crcR (xs.take n) = crcBits 4294967295#32 (msg xs) (8 * n)
  | 0, _ => rfl
  | n + 1, h => by
    have ih := crcR_bits xs n (by omega)
    have hn : n < xs.length := by omega
    have e : crcR (xs.take (n + 1)) = crcByte (crcR (xs.take n)) xs[n] := by
      rw [List.take_succ_eq_append_getElem hn]
      unfold crcR
      rw [List.foldl_append]
      rfl
    rw [e, ih, crcByte_bits, show 8 * (n + 1) = 8 * n + 8 by omega, crcBits_add]
    refine crcBits_congr fun i hi => ?_
    unfold msg
    have h1 : (8 * n + i) / 8 = n := by omega
    have h2 : (8 * n + i) % 8 = i := by omega
    rw [h1, h2, List.getElem?_eq_getElem hn]
    rfl

def pows : List Nat := [32, 28, 27, 26, 25, 23, 22, 20, 19, 18, 14, 13, 11, 10, 9, 8, 6, 0]
/-- What lies there ahead of step i. -/
def rest (xs : List UInt8) (i j : Nat) : Bool := msg xs j ^^ (if j - i < 32 then (crcBits 4294967295#32 (msg xs) i).getLsbD (j - i) else false)
theorem crcB_bit (s : BitVec 32) (k : Nat) (hk : k < 32) : (crcB s).getLsbD k = (s.getLsbD (k + 1) ^^ (s.getLsbD 0 && pows.any (fun p => p + k == 31))) := by
  have hpoly : ∀ k, k < 32 → (2197175160#32).getLsbD k = pows.any (fun p => p + k == 31) := by decide
  have hone : (s &&& 1 = 1) ↔ s.getLsbD 0 = true := by
    constructor
    · intro h
      have := congrArg (fun y => BitVec.getLsbD y 0) h
      simpa using this
    · intro h
      apply BitVec.eq_of_getLsbD_eq
      intro i hi
      rw [BitVec.getLsbD_and]
      by_cases h0 : i = 0
      · subst h0; rw [h]; rfl
      · have : (1#32).getLsbD i = false := by
          rw [BitVec.getLsbD_one]; simp [h0]
        show (s.getLsbD i && (1#32).getLsbD i) = (1#32).getLsbD i
        rw [this, Bool.and_false]
  unfold crcB
  split
  · rename_i h
    rw [hone.1 h, BitVec.getLsbD_xor, BitVec.getLsbD_ushiftRight, hpoly k hk, Bool.true_and, Nat.add_comm]
  · rename_i h
    have : s.getLsbD 0 = false := by
      cases hs : s.getLsbD 0 with
      | false => rfl
      | true => exact absurd (hone.2 hs) h
    rw [this, BitVec.getLsbD_ushiftRight, Bool.false_and, Bool.xor_false, Nat.add_comm]
/-- A step of the division. -/
theorem rest_step (xs : List UInt8) (i j : Nat) (hj : i + 1 ≤ j) : rest xs (i + 1) j = (rest xs i j ^^ (rest xs i i && pows.any (fun p => j + p == i + 32))) := by
  have h0 : rest xs i i = (msg xs i ^^ (crcBits 4294967295#32 (msg xs) i).getLsbD 0) := by unfold rest; simp
  have hb0 : ∀ r : BitVec 32, ∀ b : Bool, (r ^^^ bitV b).getLsbD 0 = (b ^^ r.getLsbD 0) := by
    intro r b
    rw [BitVec.getLsbD_xor]
    cases b <;> simp [bitV]
  have hbk : ∀ r : BitVec 32, ∀ b : Bool, ∀ k, (r ^^^ bitV b).getLsbD (k + 1) = r.getLsbD (k + 1) := by
    intro r b k
    rw [BitVec.getLsbD_xor]
    cases b
    · simp [bitV]
    · have : (bitV true).getLsbD (k + 1) = false := by show (1#32).getLsbD (k + 1) = false; rw [BitVec.getLsbD_one]; simp
      rw [this, Bool.xor_false]
  rw [h0]
  unfold rest
  by_cases hk : j - (i + 1) < 32
  · rw [if_pos hk, crcBits, crcBit, crcB_bit _ _ hk, hbk, hb0]
    have e1 : j - (i + 1) + 1 = j - i := by omega
    have e2 : (fun p => p + (j - (i + 1)) == 31) = fun p => j + p == i + 32 := by
      funext p
      by_cases h : p + (j - (i + 1)) = 31
      · have : j + p = i + 32 := by omega
        rw [h, this]
        simp
      · have : ¬ j + p = i + 32 := by omega
        rw [beq_eq_false_iff_ne.2 h, beq_eq_false_iff_ne.2 this]
    rw [e1, e2]
    by_cases h32 : j - i < 32
    · rw [if_pos h32, Bool.xor_assoc]
    · rw [if_neg h32]
      have : (crcBits 4294967295#32 (msg xs) i).getLsbD (j - i) = false := BitVec.getLsbD_of_ge _ _ (by omega)
      rw [this, Bool.xor_false, Bool.false_xor]
  · rw [if_neg hk, if_neg (by omega)]
    have : pows.any (fun p => j + p == i + 32) = false := by
      rw [List.any_eq_false]
      intro p hp
      simp
      omega
    rw [this, Bool.and_false, Bool.xor_false, Bool.xor_false]
end Go.Proofs.Ytdpepgjbambinaa
