/- Marks and records: what route.Look answers; the law's example; moves. -/
import Derived.Test.YtfjjocopmknhgaaSStore
import Derived.Test.YtfjjocopmknhgaaShapes
import Derived.Test.YtfjjocopmknhgaaIRRoute
import Derived.Test.YtfjjocopmknhgaaIRLaw10
namespace Go.Proofs.Ytfjjocopmknhgaa
open Go Go.Sep Go.Sep.Bt
set_option linter.unusedSimpArgs false
set_option linter.unusedVariables false
set_option maxRecDepth 100000

def lookS (cnt mc home mh : Int) : Int := if cnt < mc then 1 else if mc = cnt ∧ mh = home then 0 else 2
structure Mv where
  key : ByteArray
  to : Int
def mvF (m : Mv) : List Value := [.string m.key, .int .i64 m.to]
theorem mvF_len (m : Mv) : (mvF m).length = 2 := rfl
def mvGreat (L : List Mv) : Bool := decide (100 < L.length) || L.any fun m => decide (200 < m.key.size)
section
variable {B : World} {Γ Δ : List HProp}
theorem lookHg {hs : Bool} {vl : Sl} {home cnt : Int} {key : ByteArray} {mh mc : Int} {q : Int → K} (h : HG B Γ (q (lookS cnt mc home mh))) :
    HG B Γ (route_Look.call #[.bool hs, vl.val, .int .i64 home, .int .u64 cnt] #[.string key, .int .i64 mh, .int .u64 mc] q) := fun w hw => by
  refine route_Look_ok _ _ _ _ ?_
  refine hg hw ?_
  clear hw w
  unfold route_Look
  refine s_new fun r => ?_
  refine s_new fun m => ?_
  refine s_end (Δ := blk m (.cells [.string key, .int .i64 mh, .int .u64 mc].toArray ty_api_Mark (0, 0)) :: blk r (.cells [.bool hs, vl.val, .int .i64 home, .int .u64 cnt].toArray ty_api_Record (0, 0)) :: Γ) ?_
  refine s_ld (b := m) (x := mc) ?_
  refine s_ld (b := r) (x := cnt) ?_
  refine s_ite (fun hb => ?_) fun hb => ?_
  · have e : lookS cnt mc home mh = 1 := by unfold lookS; rw [if_pos (by simpa using hb)]
    rw [e] at h; exact s_end h
  have hb' : ¬ cnt < mc := by simpa using hb
  refine s_ld (b := m) (x := mc) ?_
  refine s_ld (b := r) (x := cnt) ?_
  refine s_ite (fun hc => ?_) fun hc => ?_
  · have hc' : mc = cnt := by simpa using hc
    refine s_ld (b := m) (x := mh) ?_
    refine s_ld (b := r) (x := home) ?_
    unfold route_Look.s1
    refine s_ite (fun hd => ?_) fun hd => ?_
    · have e : lookS cnt mc home mh = 0 := by unfold lookS; rw [if_neg hb', if_pos ⟨hc', by simpa using hd⟩]
      rw [e] at h; exact s_end h
    · have e : lookS cnt mc home mh = 2 := by unfold lookS; rw [if_neg hb', if_neg fun x => by simp [x.2] at hd]
      rw [e] at h; exact s_end h
  · unfold route_Look.s1
    refine s_f ?_
    have e : lookS cnt mc home mh = 2 := by unfold lookS; rw [if_neg hb', if_neg fun x => by simp [x.1] at hc]
    rw [e] at h; exact s_end h
theorem speaks10 {q : Bool → K} (h : HG B Γ (q true)) : HG B Γ (law10_speaks.call q) := fun w hw => by
  refine law10_speaks_ok _ _ ?_
  refine hg hw ?_
  clear hw w
  unfold law10_speaks
  refine s_new fun r => ?_
  refine s_stN (b := r) (l' := recL ⟨false, [], 1, 2⟩ ⟨none, 0, 0⟩) ?_
  refine s_ldN (b := r) ?_
  refine lookHg (vl := ⟨none, 0, 0⟩) ?_
  refine s_t ?_
  refine s_ldN (b := r) ?_
  refine lookHg (vl := ⟨none, 0, 0⟩) ?_
  refine s_t ?_
  refine s_ldN (b := r) ?_
  refine lookHg (vl := ⟨none, 0, 0⟩) ?_
  refine s_t ?_
  refine s_ldN (b := r) ?_
  refine lookHg (vl := ⟨none, 0, 0⟩) ?_
  exact s_end h
theorem great10 {s : Sl} {L : List Mv} {q : Bool → K} (hr : RdC B s 2 (L.flatMap mvF)) (h : HG B Γ (q (mvGreat L))) : HG B Γ (law10_great.call s q) := fun w hw => by
  refine law10_great_ok _ _ _ ?_
  refine hg hw ?_
  clear hw w
  have hn := rd_len mvF_len (by omega) hr
  unfold law10_great
  refine s_ite (fun hb => ?_) fun hb => ?_
  · have hb' : 100 < L.length := by simp only [decide_eq_true_eq] at hb; omega
    have e : mvGreat L = true := by simp [mvGreat, hb']
    rw [e] at h; exact h
  have hb' : ¬ 100 < L.length := by simp only [decide_eq_false_iff_not] at hb; omega
  refine s_loopC (fun x : Int => ∃ i : Nat, x = (i : Int) ∧ i ≤ L.length ∧ (L.take i).any (fun m => decide (200 < m.key.size)) = false) (fun x => L.length - x.toNat) ⟨0, rfl, Nat.zero_le _, rfl⟩ fun k' x hx hk => ?_
  obtain ⟨i, rfl, hi, ha⟩ := hx
  unfold law10_great.b1
  refine s_ite (fun hlt => ?_) fun hlt => ?_
  · have hil : i < L.length := by simp only [decide_eq_true_eq] at hlt; omega
    refine s_idxN mvF mvF_len (fun w hw => hr.old hw) (List.getElem?_eq_getElem hil) ?_
    refine s_new fun m4 => ?_
    refine s_stN (b := m4) (l' := mvF L[i]) ?_
    refine s_ld (b := m4) (x := L[i].key) ?_
    have ht : (L.take (i + 1)).any (fun m => decide (200 < m.key.size)) = decide (200 < L[i].key.size) := by rw [List.take_succ_eq_append_getElem hil, List.any_append, ha]; simp
    refine s_ite (fun hg => ?_) fun hg => ?_
    · have hg' : 200 < L[i].key.size := by simp only [decide_eq_true_eq] at hg; omega
      have e : mvGreat L = true := by
        have : L.any (fun m => decide (200 < m.key.size)) = true := List.any_eq_true.2 ⟨L[i], List.getElem_mem hil, by simpa using hg'⟩
        simp [mvGreat, this]
      rw [e] at h; exact s_end h
    · have hg' : ¬ 200 < L[i].key.size := by simp only [decide_eq_false_iff_not] at hg; omega
      refine s_ai ?_
      refine s_end ?_ (Δ := Γ)
      exact hk _ ⟨i + 1, by simp, hil, by rw [ht]; simpa using hg'⟩ (by omega)
  · have hil : i = L.length := by simp only [decide_eq_false_iff_not] at hlt; omega
    rw [hil, List.take_length] at ha
    have e : mvGreat L = false := by simp [mvGreat, hb', ha]
    rw [e] at h; exact h
end
end Go.Proofs.Ytfjjocopmknhgaa

namespace Go.Proofs.Ytfjjocopmknhgaa
open Go Go.Sep Go.RowKit
theorem rdy_mv {w : World} {cs : List Value} (hc : cs.length = 2) (y : Rdy w (.fld 0 1 .str (.fld 1 1 (.int .i64) .nil)) cs) : ∃ x : Mv, cs = mvF x ∧ -9223372036854775808 ≤ x.to ∧ x.to ≤ 9223372036854775807 := by
  match cs, hc with
  | [a, b], _ =>
    obtain ⟨⟨s0, e0, _⟩, ⟨x1, e1, w1⟩, _⟩ := y
    cases e0; cases e1
    simp [Lit.wf, IntKind.min, IntKind.max, IntKind.signed, IntKind.bits] at w1
    exact ⟨⟨s0, x1⟩, rfl, by simp only; omega⟩
theorem rdy_moves {W : World} {s : Sl} (y0 : Rdy W Sh_ty_s_argosylaw10_Move (Sl.val s).cells.toList) : ∃ L : List Mv, RdC W s 2 (L.flatMap mvF) ∧ ∀ x ∈ L, -9223372036854775808 ≤ x.to ∧ x.to ≤ 9223372036854775807 := by
  obtain ⟨h1, h2⟩ := rdy_sl y0
  obtain ⟨L, _, hL, hd⟩ := rd_list mvF (fun x => -9223372036854775808 ≤ x.to ∧ x.to ≤ 9223372036854775807) mvF_len h1 h2 fun cs hc hr => rdy_mv hc hr
  exact ⟨L, hL, hd⟩
end Go.Proofs.Ytfjjocopmknhgaa
