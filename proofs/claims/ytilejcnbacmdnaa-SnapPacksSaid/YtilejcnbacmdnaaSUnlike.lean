/- SnapUnlike. -/
import Derived.Test.YtilejcnbacmdnaaSUnpack
import Derived.Test.YtilejcnbacmdnaaIRLaw08
import Derived.Test.YtilejcnbacmdnaaShapes
import Derived.Test.YtilejcnbacmdnaaRow
namespace Go.Proofs.Ytilejcnbacmdnaa
open Go Go.Sep
set_option linter.unusedSimpArgs false
set_option linter.unusedVariables false
set_option maxRecDepth 100000
section
variable {B w : World} {Γ : List HProp}
theorem law08_speaks_spec {k : Bool → K} (h : Holds B Γ w) (hk : ∀ w, Holds B Γ w → k true w) : law08_speaks.call k w := by
  refine law08_speaks_ok _ _ ?_
  unfold law08_speaks
  refine snap_Pack_spec (xs := []) (by simp) (Nat.le_refl _) h (fun w h => RdC.none') fun f w h => ?_
  have hf := Bytes.len h
  have hl : (packL []).length = 7 := by
    unfold packL
    rw [List.length_append, frameL_len, framesL_nil, show ([] : List UInt8).length = 0 from rfl, numL_small (by decide)]
    rfl
  have hsc := h.slCap
  refine snap_Unpack_spec (by omega) hsc.2.1 h (fun w h => Bytes.rd h List.mem_cons_self) (fun b g w hb h => ?_) (fun hno => absurd rfl (hno []))
  have hb2 : b = [] := (pack_inj (by simp) hb.symm).symm
  subst hb2
  have hg := Bytes.len h
  refine r_ite_t (by simp only [decide_eq_true_eq]; omega) ?_
  refine r_ite_t (by simp only [decide_eq_true_eq, List.length_nil] at *; omega) ?_
  unfold law08_speaks.s1
  exact hk _ h.tail.tail

theorem law08_SnapUnlike_spec {k : Bool → K} {a b : Sl} {q : Int} {xs ys : List UInt8} (ha : RdB B a xs) (hb : RdB B b ys) (hac : a.n ≤ a.c) (hbc : b.n ≤ b.c)
    (h : Holds B Γ w) (hk : ∀ w, Holds B Γ w → k true w) : law08_SnapUnlike.call a b q k w := by
  have han : xs.length = a.n := by have := ha.len; simpa using this
  have hbn : ys.length = b.n := by have := hb.len; simpa using this
  refine law08_SnapUnlike_ok _ _ _ _ _ ?_
  unfold law08_SnapUnlike
  refine law08_speaks_spec h fun w h => ?_
  refine r_ite_f rfl ?_
  unfold law08_SnapUnlike.s1
  refine r_ite (fun _ => r_ite_t rfl (hk _ h)) (fun hn1 => ?_)
  simp only [decide_eq_false_iff_not] at hn1
  refine r_ite (fun _ => hk _ h) (fun hn2 => ?_)
  simp only [decide_eq_false_iff_not] at hn2
  refine snap_Pack_spec (by omega) hac h (fun w h => ha.old h) fun x w h => ?_
  refine snap_Pack_spec (by omega) hbc h (fun w h => hb.old h) fun y w h => ?_
  have hx := Bytes.len (h.pick 1 at1)
  have hxc := (h.pick 1 at1).slCap
  have hp7 : 6 ≤ (packL xs).length := by unfold packL; rw [List.length_append, frameL_len]; omega
  have hpl := pack_len_le (b := xs) (by omega)
  refine r_ite_f (by simp only [decide_eq_false_iff_not]; omega) ?_
  refine r_ar rfl ?_
  refine r_cd (by omega) ?_
  have hm0 : 0 ≤ bitsOf .and .i64 q 65535 := by
    unfold bitsOf
    simp only
    have h1 : ((BitVec.ofInt IntKind.i64.bits q &&& BitVec.ofInt IntKind.i64.bits 65535).toNat) ≤ 65535 := by
      rw [BitVec.toNat_and]
      exact Nat.le_trans Nat.and_le_right (by decide)
    rw [wrap64 (by omega) (by omega)]
    omega
  obtain ⟨j, hj⟩ := Int.eq_ofNat_of_zero_le (Int.tmod_nonneg (x.n : Int) hm0)
  have hjl := Int.tmod_lt_of_pos (bitsOf .and .i64 q 65535) (show (0 : Int) < x.n by omega)
  refine r_ar hj ?_
  rw [hj] at hjl
  refine ⟨_, by omega, by omega, by omega, by omega, rfl, ?_⟩
  simp only [Int.toNat_natCast, show (0 : Int).toNat = 0 from rfl, Nat.sub_zero]
  have hcut : cutA x.a 0 x.c 1 = x.a := cut0 hxc.2.2.1
  rw [hcut]
  refine snap_Unpack_spec (d := (packL xs).take j) (by simp; omega) (by simp only; omega) h (fun w h => by
      have h1 := (Bytes.rd (s := x) (xs := packL xs) h (List.mem_cons_of_mem _ List.mem_cons_self)).take (m := j) (c := x.c) (by omega)
      show RdC w _ 1 (((packL xs).take j).map byteV)
      rw [List.map_take]
      simpa using h1) (fun b g w hb => absurd hb (pack_noprefix (by omega) (by omega))) (fun _ w h => ?_)
  refine r_str (by kernel_rfl) (Bytes.rd (s := x) (xs := packL xs) h (List.mem_cons_of_mem _ List.mem_cons_self)) ?_
  refine r_str (by kernel_rfl) (Bytes.rd (s := y) (xs := packL ys) h List.mem_cons_self) ?_
  refine r_str (by kernel_rfl) (ha.old h) ?_
  refine r_str (by kernel_rfl) (hb.old h) ?_
  rw [str_toList, str_toList, str_toList, str_toList]
  have he : (packL xs == packL ys) = (xs == ys) := by
    by_cases e : xs = ys
    · subst e; simp
    · have : packL xs ≠ packL ys := fun e2 => e (pack_inj (by omega) e2)
      rw [beq_eq_false_iff_ne.2 e, beq_eq_false_iff_ne.2 this]
  rw [he]
  refine r_ite_t (by simp) ?_
  unfold law08_SnapUnlike.s2
  exact hk _ h.tail.tail
end
end Go.Proofs.Ytilejcnbacmdnaa

namespace Go.Proofs.Ytilejcnbacmdnaa
open Go Go.Sep Go.RowKit
theorem SnapUnlike_walk (W : World) (s : Sl) (y0 : Rdy W Sh_ty_s_uint8 (Sl.val s).cells.toList) (d : Sl) (y1 : Rdy W Sh_ty_s_uint8 (Sl.val d).cells.toList) (x : Int) (_ : (Lit.int .i64 x).wf = true) :
    Calls Try.prog 13 #[s.val, d.val, .int .i64 x] W (Ret fun v w' => v = .bool true ∧ Below W.heap.size W w') := by
  obtain ⟨xs, hx⟩ := rdy_bytes y0
  obtain ⟨ys, hy⟩ := rdy_bytes y1
  obtain ⟨s', e, h1, _⟩ := y0
  obtain rfl := sl_cells e
  obtain ⟨d', e2, h2, _⟩ := y1
  obtain rfl := sl_cells e2
  exact law_call (law08_SnapUnlike_spec hx hy h1 h2 (Holds.start W) fun w h => ⟨rfl, h⟩)
end Go.Proofs.Ytilejcnbacmdnaa
