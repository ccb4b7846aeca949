/- Frames: what the code's make and read. -/
import Derived.Test.YtdpepgjbambinaaSCrc
namespace Go.Proofs.Ytdpepgjbambinaa
open Go Go.Sep
set_option linter.unusedSimpArgs false
set_option linter.unusedVariables false
set_option maxRecDepth 100000

def u8 (n : Nat) : UInt8 := UInt8.ofNat n
theorem u8N (n : Nat) : (u8 n).toNat = n % 256 := by simp [u8, UInt8.toNat_ofNat']
theorem wrapB (n : Nat) : IntKind.wrap .u8 (n : Int) = ((u8 n).toNat : Int) := by
  rw [u8N]
  unfold IntKind.wrap
  simp [IntKind.bits, IntKind.signed]
theorem u8V (n : Nat) : Value.int .u8 ((u8 n).toNat : Int) = byteV (u8 n) := rfl
def hd2 (n : Nat) : List UInt8 := [u8 (n / 256), u8 n]
def sealL (b : List UInt8) : BitVec 32 := crcC (hd2 b.length ++ b)
def hd6 (b : List UInt8) : List UInt8 := hd2 b.length ++ [u8 (sealL b).toNat, u8 ((sealL b >>> 8).toNat), u8 ((sealL b >>> 16).toNat), u8 ((sealL b >>> 24).toNat)]
def frameL (b : List UInt8) : List UInt8 := hd6 b ++ b
theorem hd6_len (b : List UInt8) : (hd6 b).length = 6 := rfl
theorem frameL_len (b : List UInt8) : (frameL b).length = 6 + b.length := by simp [frameL, hd6_len]
theorem shr64 (n : Nat) (k : Nat) (hk : k < 64) : shrOf .i64 (n : Int) (k : Int) = ((n / 2 ^ k : Nat) : Int) := by
  unfold shrOf
  have : min ((k : Int).toNat) (IntKind.bits .i64) = k := by simp [IntKind.bits]; omega
  rw [this, Int.fdiv_eq_ediv_of_nonneg _ (Int.le_of_lt (Int.pow_pos (by decide))), Int.natCast_ediv, Int.natCast_pow]
  rfl

section
variable {B w : World} {Γ : List HProp}

theorem code_sealed_spec {s : Sl} {b : List UInt8} {k : Int → K} (hl : b.length ≤ 100000000) (h : Holds B Γ w) (hr : ∀ w, Holds B Γ w → RdB w s b) (hk : ∀ w, Holds B Γ w → k ((sealL b).toNat : Int) w) : code_sealed.call s k w := by
  have hn : b.length = s.n := by have := (hr w h).len; simpa using this
  refine code_sealed_ok _ _ _ ?_
  unfold code_sealed
  refine r_cd (by decide) ?_
  rw [← hn]
  refine r_ar (shr64 _ 8 (by decide)) ?_
  refine r_ar (wrapB _) ?_
  refine r_ar (wrapB _) ?_
  refine r_new h ?_
  clear h
  intro t10 w h
  try simp only [add_mk, Nat.zero_add, Nat.reduceAdd]
  replace h := bytes_new (xs := hd2 b.length) (n := 2) (by rfl) rfl h
  refine r_appB h (hr _ h.tail) (by simp [hd2]; omega) fun t12 w h _ _ => ?_
  refine code_Sum_spec (by simp [hd2]; omega) h (fun w h => Bytes.rd h List.mem_cons_self) fun w h => ?_
  exact hk _ h.tail

theorem code_Frame_spec {s : Sl} {b : List UInt8} {k : Sl → Int → K} (hl : b.length ≤ 4096) (h : Holds B Γ w) (hr : ∀ w, Holds B Γ w → RdB w s b) (hk : ∀ f w, Holds B (Bytes ty_uint8 f (frameL b) :: Γ) w → k f 0 w) : code_Frame.call s k w := by
  have hn : b.length = s.n := by have := (hr w h).len; simpa using this
  refine code_Frame_ok _ _ _ ?_
  unfold code_Frame
  refine r_ite_f (by simp only [decide_eq_false_iff_not]; omega) ?_
  refine code_sealed_spec (by omega) h hr fun w h => ?_
  refine r_cd (by decide) ?_
  rw [← hn]
  refine r_ar (shr64 _ 8 (by decide)) ?_
  refine r_ar (wrapB _) ?_
  refine r_ar (wrapB _) ?_
  refine r_ar (wrapB _) ?_
  refine r_cd (by decide) ?_
  refine r_ar (shr32 _ 8 (by decide)) ?_
  refine r_ar (wrapB _) ?_
  refine r_cd (by decide) ?_
  refine r_ar (shr32 _ 16 (by decide)) ?_
  refine r_ar (wrapB _) ?_
  refine r_cd (by decide) ?_
  refine r_ar (shr32 _ 24 (by decide)) ?_
  refine r_ar (wrapB _) ?_
  refine r_new h ?_
  clear h
  intro t29 w h
  try simp only [add_mk, Nat.zero_add, Nat.reduceAdd]
  replace h := bytes_new (xs := hd6 b) (n := 6) (by rfl) rfl h
  refine r_appB h (hr _ h.tail) (by rw [hd6_len]; omega) fun t32 w h _ _ => ?_
  exact hk _ _ h


theorem slices_Equal_spec {a b : Sl} {xs ys : List UInt8} {k : Bool → K} (hl : xs.length ≤ 1000000000) (h : Holds B Γ w) (hx : ∀ w, Holds B Γ w → RdB w a xs) (hy : ∀ w, Holds B Γ w → RdB w b ys)
    (hk : ∀ w, Holds B Γ w → k (decide (xs = ys)) w) : slices_Equal_s_byte_byte.call a b k w := by
  have hn : xs.length = a.n := by have := (hx w h).len; simpa using this
  have hm : ys.length = b.n := by have := (hy w h).len; simpa using this
  refine slices_Equal_s_byte_byte_ok _ _ _ _ ?_
  unfold slices_Equal_s_byte_byte
  refine r_ite (fun hb => ?_) (fun hb => ?_)
  · simp only [decide_eq_true_eq] at hb
    have := hk w h
    rw [decide_eq_false (fun e => hb (by rw [e] at hn; omega))] at this
    exact this
  simp only [decide_eq_false_iff_not] at hb
  refine LoopK.of (fun t w => ∃ j : Nat, t = (j : Int) ∧ j ≤ xs.length ∧ xs.take j = ys.take j ∧ Holds B Γ w) (fun t _ => ((a.n : Int) - t).toNat) ⟨0, rfl, by omega, rfl, h⟩ ?_
  clear h
  rintro t w ⟨j, rfl, hj, he, h⟩
  unfold slices_Equal_s_byte_byte.b1
  refine r_ite (fun hb2 => ?_) (fun hb2 => ?_)
  · simp only [decide_eq_true_eq] at hb2
    refine r_dr h ?_
    clear h
    intro w h
    have hxj : xs[j]? = some xs[j] := List.getElem?_eq_getElem (by omega)
    have hyj : ys[j]? = some ys[j] := List.getElem?_eq_getElem (by omega)
    generalize hX : xs[j] = x at hxj
    generalize hY : ys[j] = y at hyj
    refine r_byte (hx w h) hxj ?_
    refine r_byte (hy w h) hyj ?_
    refine r_ite (fun hne => ?_) (fun hne => ?_)
    · simp only [decide_eq_true_eq] at hne
      have h1 : xs ≠ ys := fun e => by
        subst e
        rw [hxj] at hyj
        cases hyj
        exact hne rfl
      have := hk w h
      rw [decide_eq_false h1] at this
      exact this
    · simp only [decide_eq_false_iff_not, Decidable.not_not] at hne
      have hxy : x = y := UInt8.toNat_inj.1 (by omega)
      refine r_add64 (by omega) (by omega) ?_
      refine ⟨⟨j + 1, by omega, by omega, ?_, h⟩, by omega⟩
      rw [List.take_succ_eq_append_getElem (by omega : j < xs.length), List.take_succ_eq_append_getElem (by omega : j < ys.length), he, hX, hY, hxy]
  · simp only [decide_eq_false_iff_not] at hb2
    have h1 : xs = ys := by
      rw [List.take_of_length_le (by omega), List.take_of_length_le (by omega)] at he
      exact he
    have := hk w h
    rw [decide_eq_true h1] at this
    exact this
end
end Go.Proofs.Ytdpepgjbambinaa
