/- SnapBeside. -/
import Derived.Test.YtgnkminakongkaaSSnap
import Derived.Test.YtgnkminakongkaaIRLaw08
import Derived.Test.YtgnkminakongkaaShapes
import Derived.Test.YtgnkminakongkaaRow
namespace Go.Proofs.Ytgnkminakongkaa
open Go Go.Sep
set_option linter.unusedSimpArgs false
set_option linter.unusedVariables false
set_option maxRecDepth 100000
theorem framesL_len2 : ∀ (n : Nat) (b : List UInt8), b.length = n → (framesL b).length = b.length + 6 * ((b.length + 1023) / 1024) := by
  intro n
  induction n using Nat.strongRecOn with
  | _ n ih =>
    intro b hb
    by_cases h : b = []
    · subst h; rw [framesL_nil]; rfl
    · have hp : 0 < b.length := List.length_pos_iff.2 h
      rw [framesL_cons h, List.length_append, frameL_len]
      have := ih (b.drop 1024).length (by simp; omega) _ rfl
      simp only [List.length_drop, List.length_take] at this ⊢
      omega
theorem pk {x : List UInt8} (h : x.length ≤ 5000) : (packL x).length ≤ 5040 := by
  have h2 := framesL_len2 _ x rfl
  have h3 := numL_len 2 x.length (by omega)
  unfold packL
  rw [List.length_append, frameL_len]
  omega
def sA : DkA := ⟨65536, -1, false⟩
def sF (x : List UInt8) : FileD := ⟨packL x, (packL x).length⟩
def b1 (x : List UInt8) : DiskD := ⟨sA, [([97], sF x)]⟩
def b2 (x y : List UInt8) : DiskD := ⟨sA, [([97], sF x), ([98], sF y)]⟩
theorem okN {room : Int} (h1 : 1 ≤ room) (h2 : room ≤ 1048576) : OkD (.new room) := ⟨h1, h2, by show ((0 : Nat) : Int) ≤ room; omega, by simp [DiskD.new], ⟨show (-9223372036854775808 : Int) < -1 by decide, show (-1 : Int) ≤ 9223372036854775807 by decide⟩, by simp [DiskD.new], by simp [DiskD.new]⟩
theorem sv0 {x : List UInt8} (hx : x.length ≤ 5000) : (DiskD.new 65536).save [97] x = (b1 x, 0) :=
  (save_free (okN (by decide) (by decide)) rfl rfl (by decide) (by decide) (by decide) (by have := pk hx; show ((0 : Nat) : Int) + _ ≤ 65536; omega)).trans rfl
theorem sv1 {x y : List UInt8} (hD : OkD (b1 x)) (hx : x.length ≤ 5000) (hy : y.length ≤ 5000) : (b1 x).save [98] y = (b2 x y, 0) :=
  (save_free (n := [98]) (x := y) hD rfl rfl (by decide) (by decide) (show 1 < 32 by decide) (by have := pk hx; have := pk hy; show (((packL x).length + 0 : Nat) : Int) + _ ≤ 65536; omega)).trans rfl
theorem sv2 {x y z : List UInt8} (hD : OkD (b2 x y)) (hx : x.length ≤ 5000) (hy : y.length ≤ 5000) (hz : z.length ≤ 5000) : (b2 x y).save [97] z = (b2 z y, 0) :=
  (save_free (n := [97]) (x := z) hD rfl rfl (by decide) (by decide) (show 2 < 32 by decide) (by have := pk hx; have := pk hy; have := pk hz; show (((packL x).length + ((packL y).length + 0) : Nat) : Int) + _ ≤ 65536; omega)).trans rfl
theorem rd_a (x y : List UInt8) : (b2 x y).read [97] = (packL x, 0) := rfl
theorem rd_b (x y : List UInt8) : (b2 x y).read [98] = (packL y, 0) := rfl
theorem rd_c (x y : List UInt8) : (b2 x y).read [99] = ([], 60) := rfl
section
variable {B w : World} {Γ : List HProp}
theorem law08_SnapBeside_spec {k : Bool → K} {a b : Sl} {xs ys : List UInt8} (ha : RdB B a xs) (hb : RdB B b ys) (hac : a.n ≤ a.c) (hbc : b.n ≤ b.c)
    (h : Holds B Γ w) (hk : ∀ w, Holds B Γ w → k true w) : law08_SnapBeside.call a b k w := by
  have han : xs.length = a.n := by have := ha.len; simpa using this
  have hbn : ys.length = b.n := by have := hb.len; simpa using this
  refine law08_SnapBeside_ok _ _ _ _ ?_
  unfold law08_SnapBeside
  refine law08_speaks_spec h fun w h => ?_
  refine r_ite_f rfl ?_
  unfold law08_SnapBeside.s1
  refine r_ite (fun _ => r_ite_t rfl (hk _ h)) (fun hn1 => ?_)
  simp only [decide_eq_false_iff_not] at hn1
  refine r_ite (fun _ => hk _ h) (fun hn2 => ?_)
  simp only [decide_eq_false_iff_not] at hn2
  have hx : xs.length ≤ 5000 := by omega
  have hy : ys.length ≤ 5000 := by omega
  have hpx := pk hx
  have hpy := pk hy
  refine new_spec h (fun hb => by omega) fun d w _ _ h => ?_
  refine r_ite_f rfl ?_
  refine snap_Save_spec (n := [97]) (x := xs) (okN (by decide) (by decide)) (by omega) hac h (fun w h => ha.old h) fun w hD h => ?_
  rw [sv0 hx] at hD h ⊢
  refine r_ite_f rfl ?_
  refine snap_Save_spec (n := [98]) (x := ys) hD (by omega) hbc h (fun w h => hb.old h) fun w hD2 h => ?_
  rw [sv1 hD hx hy] at hD2 h ⊢
  refine r_ite_f rfl ?_
  refine snap_Save_spec (n := [97]) (x := ys) hD2 (by omega) hbc h (fun w h => hb.old h) fun w hD3 h => ?_
  rw [sv2 hD2 hx hy hy] at hD3 h ⊢
  refine r_ite_f rfl ?_
  refine snap_Save_spec (n := [97]) (x := xs) hD3 (by omega) hac h (fun w h => ha.old h) fun w hD4 h => ?_
  rw [sv2 hD3 hy hy hx] at hD4 h ⊢
  unfold law08_SnapBeside.s2
  refine r_ite_f rfl ?_
  refine snap_Load_spec (n := [97]) hD4 (by rw [rd_a]; show (packL xs).length ≤ _; omega) h (fun he => absurd rfl he) (fun xs' f w _ he h => ?_) (fun _ hno => absurd rfl (hno xs))
  have hxx : xs' = xs := (pack_inj (by omega) he.symm).symm
  subst hxx
  refine snap_Load_spec (n := [98]) hD4 (by rw [rd_b]; show (packL ys).length ≤ _; omega) h.swap (fun he => absurd rfl he) (fun ys' g w _ he h => ?_) (fun _ hno => absurd rfl (hno ys))
  have hyy : ys' = ys := (pack_inj (by omega) he.symm).symm
  subst hyy
  refine snap_Load_spec (n := [99]) hD4 (by rw [rd_c]; exact Nat.zero_le _) h.swap (fun he w h => ?_) (fun _ _ _ he => absurd he (by rw [rd_c]; decide)) (fun he => absurd he (by rw [rd_c]; decide))
  refine r_ite_t rfl (r_ite_t rfl (r_ite_t rfl ?_))
  refine r_str (by kernel_rfl) (Bytes.rd (s := f) (xs := xs') h (List.mem_cons_of_mem _ (List.mem_cons_of_mem _ List.mem_cons_self))) ?_
  refine r_str (by kernel_rfl) (ha.old h) ?_
  refine r_ite_t (by simp) ?_
  refine r_str (by kernel_rfl) (Bytes.rd (s := g) (xs := ys') h (List.mem_cons_of_mem _ List.mem_cons_self)) ?_
  refine r_str (by kernel_rfl) (hb.old h) ?_
  refine r_ite_t (by simp) ?_
  refine names_spec hD4 h fun t w h => ?_
  have hn : (b2 xs' ys').names.length = t.n := by have := h.slCap.1; simpa using this
  rw [names_len] at hn
  unfold law08_SnapBeside.s3
  rw [decide_eq_true (show ((t.n : Int) = 2) by rw [← hn]; rfl)]
  exact hk _ h.tail.tail.tail.tail
end
end Go.Proofs.Ytgnkminakongkaa

namespace Go.Proofs.Ytgnkminakongkaa
open Go Go.Sep Go.RowKit
theorem SnapBeside_walk (W : World) (s : Sl) (y0 : Rdy W Sh_ty_s_uint8 (Sl.val s).cells.toList) (d : Sl) (y1 : Rdy W Sh_ty_s_uint8 (Sl.val d).cells.toList) :
    Calls Try.prog 11 #[s.val, d.val] W (Ret fun v w' => v = .bool true ∧ Below W.heap.size W w') := by
  obtain ⟨xs, hx⟩ := rdy_bytes y0
  obtain ⟨ys, hy⟩ := rdy_bytes y1
  obtain ⟨s', e, h1, _⟩ := y0
  obtain rfl := sl_cells e
  obtain ⟨d', e2, h2, _⟩ := y1
  obtain rfl := sl_cells e2
  exact law_call (law08_SnapBeside_spec hx hy h1 h2 (Holds.start W) fun w h => ⟨rfl, h⟩)
end Go.Proofs.Ytgnkminakongkaa
