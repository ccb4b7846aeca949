/- A log and its disk in a law: what stands while records come in. -/
import Derived.Test.YtdpepgjbambinaaSWal5
namespace Go.Proofs.Ytdpepgjbambinaa
open Go Go.Sep
set_option linter.unusedSimpArgs false
set_option linter.unusedVariables false
set_option maxRecDepth 100000
abbrev LOG : List UInt8 := [108, 111, 103]
theorem bits_k (n m : Int) (b : Nat) (hm : (BitVec.ofInt 64 m).toNat ≤ b) (hb : b ≤ 9223372036854775807) : 0 ≤ bitsOf .and .i64 n m ∧ bitsOf .and .i64 n m ≤ b := by
  unfold bitsOf
  simp only
  have h1 : ((BitVec.ofInt IntKind.i64.bits n &&& BitVec.ofInt IntKind.i64.bits m).toNat) ≤ b := by
    rw [BitVec.toNat_and]
    exact Nat.le_trans Nat.and_le_right hm
  rw [wrap64 (by omega) (by omega)]
  omega
/-- The log and its disk, n records being in and the first put of them lasting. -/
structure KI (sz : Int) (R : List (List UInt8)) (put : Nat) (D : DiskD) (W : WalD) (q : List (List (List UInt8))) (p : List (List UInt8)) (lk : Nat) (there : Bool) : Prop where
  ok : OkD D
  free : Free D
  log : LogI W D q p lk there
  name : W.name = LOG
  size : W.size = sz
  recs : W.recs = R
  lasts : Lasts q p lk put
  room : D.a.room = 1048576
  used : usedL D.files ≤ 1006 * R.length
  few : D.files.length ≤ cntL q there
  fresh : there = false → W.dirty = false
theorem catF_len_le (rs : List (List UInt8)) (b : Nat) (h : ∀ r ∈ rs, r.length ≤ b) : (catF rs).length ≤ (b + 6) * rs.length := by
  induction rs with
  | nil => simp [catF_nil]
  | cons r rs ih =>
    have h1 := ih fun x hx => h x (List.mem_cons_of_mem _ hx)
    have h2 := h r List.mem_cons_self
    rw [catF_cons, List.length_append, frameL_len, List.length_cons, Nat.mul_succ]
    omega
theorem cnt_le {q : List (List (List UInt8))} (h : q.length ≤ 9) (t : Bool) : cntL q t ≤ 10 := by
  unfold cntL
  split <;> omega
theorem KI.okW {sz : Int} {R : List (List UInt8)} {put : Nat} {D : DiskD} {W : WalD} {q : List (List (List UInt8))} {p : List (List UInt8)} {lk : Nat} {there : Bool} (h : KI sz R put D W q p lk there) (hR : R.length ≤ 80) : OkW W := by
  refine h.log.okW ?_ (by rw [h.recs]; omega)
  have h1 := catF_len_le p 4096 h.log.small.1
  have h2 : p.length ≤ R.length := by
    have := h.log.recs
    rw [h.recs] at this
    rw [this, List.length_append]; omega
  rw [h.log.used]
  omega
theorem KI.smallR {sz : Int} {R : List (List UInt8)} {put : Nat} {D : DiskD} {W : WalD} {q : List (List (List UInt8))} {p : List (List UInt8)} {lk : Nat} {there : Bool} (h : KI sz R put D W q p lk there) : ∀ r ∈ W.recs, r.length ≤ 1000000 := by
  intro r hr
  rw [h.log.recs] at hr
  rcases List.mem_append.1 hr with hr | hr
  · obtain ⟨x, hx, hrx⟩ := List.mem_flatten.1 hr
    have := h.log.small.2 x hx r hrx
    omega
  · have := h.log.small.1 r hr
    omega
end Go.Proofs.Ytdpepgjbambinaa
