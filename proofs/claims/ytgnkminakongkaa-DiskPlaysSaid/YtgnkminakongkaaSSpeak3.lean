/- The example of the document of the disk. -/
import Derived.Test.YtgnkminakongkaaSDisk5
import Derived.Test.YtgnkminakongkaaIRLaw032
namespace Go.Proofs.Ytgnkminakongkaa
open Go Go.Sep
set_option linter.unusedSimpArgs false
set_option linter.unusedVariables false
set_option maxRecDepth 100000

def dS1 : DiskD := ⟨⟨100, -1, false⟩, [([97], ⟨[49, 50, 51], 0⟩)]⟩
def dS2 : DiskD := ⟨⟨100, -1, false⟩, [([97], ⟨[49, 50, 51], 3⟩)]⟩
def dS3 : DiskD := ⟨⟨100, -1, false⟩, [([97], ⟨[49, 50, 51, 52, 53], 3⟩)]⟩
theorem s1 : (DiskD.new 100).append [97] [49, 50, 51] = (dS1, 0) := rfl
theorem s2 : dS1.sync [97] = (dS2, 0) := rfl
theorem s3 : dS2.append [97] [52, 53] = (dS3, 0) := rfl
def wantS : List (List UInt8) := [[49, 50, 51], [49, 50, 51, 52], [49, 50, 51, 52, 53], [49, 50, 51]]
theorem s4 (j : Nat) (hj : j < 4) : ∃ x, wantS[j]? = some x ∧ (dS3.crash [(j : Int)]).read [97] = (x, 0) := by
  have hn : dS3.names = [[97]] := by unfold DiskD.names dS3; simp
  unfold DiskD.crash
  rw [hn]
  match j, hj with
  | 0, _ => exact ⟨_, rfl, rfl⟩
  | 1, _ => exact ⟨_, rfl, rfl⟩
  | 2, _ => exact ⟨_, rfl, rfl⟩
  | 3, _ => exact ⟨_, rfl, rfl⟩
theorem new_ok {room : Int} (h1 : 1 ≤ room) (h2 : room ≤ 1048576) : OkD (.new room) := ⟨h1, h2, by show ((0 : Nat) : Int) ≤ room; omega, by simp [DiskD.new], ⟨show (-9223372036854775808 : Int) < -1 by decide, show (-1 : Int) ≤ 9223372036854775807 by decide⟩, by simp [DiskD.new], by simp [DiskD.new]⟩
theorem build100 (w : World) : (Instr.build 100 [(0, (.string ⟨#[49, 50, 51]⟩)), (1, (.string ⟨#[49, 50, 51, 52]⟩)), (2, (.string ⟨#[49, 50, 51, 52, 53]⟩)), (3, (.string ⟨#[49, 50, 51]⟩))].toArray).run Try.prog w = .ok (.agg (wantS.map strV).toArray) w := by
  rfl
section
variable {B w : World} {Γ : List HProp}
theorem law03_speaks_spec {k : Bool → K} (h : Holds B Γ w) (hk : ∀ w, Holds B Γ w → k true w) : law03_speaks.call k w := by
  refine law03_speaks_ok _ _ ?_
  unfold law03_speaks
  refine new_spec h (fun hb => by omega) fun d w _ _ h => ?_
  refine r_ite_f rfl ?_
  unfold law03_speaks.s1
  refine r_ite_f rfl ?_
  refine r_new h ?_
  clear h
  intro t19 w h
  try simp only [add_mk, Nat.zero_add, Nat.reduceAdd]
  refine r_mark (by kernel_rfl) h rfl fun w h => ?_
  refine append_spec (n := [97]) (x := [49, 50, 51]) (new_ok (by decide) (by decide)) (by simp) h.swap (fun w h => h.rdC List.mem_cons_self) fun w hD h => ?_
  rw [s1] at hD h
  refine sync_spec (n := [97]) hD h fun w hD h => ?_
  rw [s2] at hD h
  refine r_new h ?_
  clear h
  intro t25 w h
  try simp only [add_mk, Nat.zero_add, Nat.reduceAdd]
  refine r_mark (by kernel_rfl) h rfl fun w h => ?_
  refine append_spec (n := [97]) (x := [52, 53]) hD (by simp) h.swap (fun w h => h.rdC List.mem_cons_self) fun w hD h => ?_
  rw [s3] at hD h
  refine ⟨_, fun w => build100 w, ?_⟩
  refine r_new h ?_
  clear h
  intro want w h
  try simp only [add_mk, Nat.zero_add, Nat.reduceAdd]
  first | refine r_stN 0 h rfl (by with_reducible exact at0) ?_ ?_ (fun _ _ => nofz _) ?_ ?_ | refine r_stN 1 h rfl (by with_reducible exact at1) ?_ ?_ (fun _ _ => nofz _) ?_ ?_ | refine r_stN 2 h rfl (by with_reducible exact at2) ?_ ?_ (fun _ _ => nofz _) ?_ ?_ | refine r_stN 3 h rfl (by with_reducible exact at3) ?_ ?_ (fun _ _ => nofz _) ?_ ?_ | refine r_stN 4 h rfl (by with_reducible exact at4) ?_ ?_ (fun _ _ => nofz _) ?_ ?_ | refine r_stN 5 h rfl (by with_reducible exact at5) ?_ ?_ (fun _ _ => nofz _) ?_ ?_ | refine r_stN 6 h rfl (by with_reducible exact at6) ?_ ?_ (fun _ _ => nofz _) ?_ ?_ | refine r_stN 7 h rfl (by with_reducible exact at7) ?_ ?_ (fun _ _ => nofz _) ?_ ?_
  · rfl
  · rfl
  · simp [flatV]
  clear h
  intro w h
  try simp only [List.set_cons_zero, List.set_cons_succ, List.eraseIdx_zero, List.eraseIdx_cons_zero, List.eraseIdx_cons_succ, List.setIfInBounds_toArray, List.tail_cons] at h
  replace h := h.pick 1 at1
  try simp only [List.set_cons_zero, List.set_cons_succ, List.eraseIdx_zero, List.eraseIdx_cons_zero, List.eraseIdx_cons_succ, List.setIfInBounds_toArray, List.tail_cons] at h
  replace h := h.pick 1 at1
  try simp only [List.set_cons_zero, List.set_cons_succ, List.eraseIdx_zero, List.eraseIdx_cons_zero, List.eraseIdx_cons_succ, List.setIfInBounds_toArray, List.tail_cons] at h
  replace h := h.del 2 at2
  try simp only [List.set_cons_zero, List.set_cons_succ, List.eraseIdx_zero, List.eraseIdx_cons_zero, List.eraseIdx_cons_succ, List.setIfInBounds_toArray, List.tail_cons] at h
  replace h := h.del 2 at2
  try simp only [List.set_cons_zero, List.set_cons_succ, List.eraseIdx_zero, List.eraseIdx_cons_zero, List.eraseIdx_cons_succ, List.setIfInBounds_toArray, List.tail_cons] at h
  refine LoopK.of (fun t w => ∃ j : Nat, t = (j : Int) ∧ j ≤ 4 ∧ Holds B (blk want (.cells (wantS.map strV).toArray 100 (0, 0)) :: DiskR d dS3 :: Γ) w) (fun t _ => ((4 : Int) - t).toNat) ⟨0, rfl, by omega, h⟩ ?_
  clear h
  rintro t w ⟨j, rfl, hj, h⟩
  unfold law03_speaks.b2
  refine r_ite (fun hb => ?_) (fun hb => hk _ h.tail.tail)
  simp only [decide_eq_true_eq] at hb
  obtain ⟨x, hx, hrd⟩ := s4 j (by omega)
  refine r_new h ?_
  clear h
  intro t34 w h
  try simp only [add_mk, Nat.zero_add, Nat.reduceAdd]
  replace h := h.pick 1 at1
  try simp only [List.set_cons_zero, List.set_cons_succ, List.eraseIdx_zero, List.eraseIdx_cons_zero, List.eraseIdx_cons_succ, List.setIfInBounds_toArray, List.tail_cons] at h
  replace h := h.pick 1 at1
  try simp only [List.set_cons_zero, List.set_cons_succ, List.eraseIdx_zero, List.eraseIdx_cons_zero, List.eraseIdx_cons_succ, List.setIfInBounds_toArray, List.tail_cons] at h
  replace h := h.pick 2 at2
  try simp only [List.set_cons_zero, List.set_cons_succ, List.eraseIdx_zero, List.eraseIdx_cons_zero, List.eraseIdx_cons_succ, List.setIfInBounds_toArray, List.tail_cons] at h
  refine crash_spec (ks := [(j : Int)]) hD h (fun w h => RdC.of_blk (E := 3) (b := t34) (n := 1) (vs := [.int .i64 (j : Int)]) (cs := #[.int .i64 (j : Int)]) h List.mem_cons_self rfl rfl 1) fun o w h => ?_
  refine r_ite_f rfl ?_
  refine read_spec (n := [97]) (hD.crash _) h fun s w h => ?_
  rw [hrd] at h
  refine r_dr h ?_
  clear h
  intro w h
  refine r_str (by kernel_rfl) (Bytes.rd h List.mem_cons_self) ?_
  refine ⟨_, by omega, by omega, rfl, ?_⟩
  simp only [Int.toNat_natCast, add_mk]
  refine r_ld (x := bs x) h rfl (by first | (with_reducible exact List.mem_cons_self) | (with_reducible exact List.mem_cons_of_mem _ (List.mem_cons_self)) | (with_reducible exact List.mem_cons_of_mem _ (List.mem_cons_of_mem _ (List.mem_cons_self))) | (with_reducible exact List.mem_cons_of_mem _ (List.mem_cons_of_mem _ (List.mem_cons_of_mem _ (List.mem_cons_self)))) | (with_reducible exact List.mem_cons_of_mem _ (List.mem_cons_of_mem _ (List.mem_cons_of_mem _ (List.mem_cons_of_mem _ (List.mem_cons_self))))) | (with_reducible exact List.mem_cons_of_mem _ (List.mem_cons_of_mem _ (List.mem_cons_of_mem _ (List.mem_cons_of_mem _ (List.mem_cons_of_mem _ (List.mem_cons_self)))))) | (with_reducible exact List.mem_cons_of_mem _ (List.mem_cons_of_mem _ (List.mem_cons_of_mem _ (List.mem_cons_of_mem _ (List.mem_cons_of_mem _ (List.mem_cons_of_mem _ (List.mem_cons_self))))))) | (with_reducible exact List.mem_cons_of_mem _ (List.mem_cons_of_mem _ (List.mem_cons_of_mem _ (List.mem_cons_of_mem _ (List.mem_cons_of_mem _ (List.mem_cons_of_mem _ (List.mem_cons_of_mem _ (List.mem_cons_self)))))))) | (with_reducible exact List.mem_cons_of_mem _ (List.mem_cons_of_mem _ (List.mem_cons_of_mem _ (List.mem_cons_of_mem _ (List.mem_cons_of_mem _ (List.mem_cons_of_mem _ (List.mem_cons_of_mem _ (List.mem_cons_of_mem _ (List.mem_cons_self))))))))) | (with_reducible exact List.mem_cons_of_mem _ (List.mem_cons_of_mem _ (List.mem_cons_of_mem _ (List.mem_cons_of_mem _ (List.mem_cons_of_mem _ (List.mem_cons_of_mem _ (List.mem_cons_of_mem _ (List.mem_cons_of_mem _ (List.mem_cons_of_mem _ (List.mem_cons_self)))))))))) | (with_reducible exact List.mem_cons_of_mem _ (List.mem_cons_of_mem _ (List.mem_cons_of_mem _ (List.mem_cons_of_mem _ (List.mem_cons_of_mem _ (List.mem_cons_of_mem _ (List.mem_cons_of_mem _ (List.mem_cons_of_mem _ (List.mem_cons_of_mem _ (List.mem_cons_of_mem _ (List.mem_cons_self))))))))))) | (with_reducible exact List.mem_cons_of_mem _ (List.mem_cons_of_mem _ (List.mem_cons_of_mem _ (List.mem_cons_of_mem _ (List.mem_cons_of_mem _ (List.mem_cons_of_mem _ (List.mem_cons_of_mem _ (List.mem_cons_of_mem _ (List.mem_cons_of_mem _ (List.mem_cons_of_mem _ (List.mem_cons_of_mem _ (List.mem_cons_self)))))))))))) | (with_reducible exact List.mem_cons_of_mem _ (List.mem_cons_of_mem _ (List.mem_cons_of_mem _ (List.mem_cons_of_mem _ (List.mem_cons_of_mem _ (List.mem_cons_of_mem _ (List.mem_cons_of_mem _ (List.mem_cons_of_mem _ (List.mem_cons_of_mem _ (List.mem_cons_of_mem _ (List.mem_cons_of_mem _ (List.mem_cons_of_mem _ (List.mem_cons_self)))))))))))))) ?_ ?_
  · rw [Nat.zero_add, Nat.mul_one, List.getElem?_toArray, List.getElem?_map, hx]; rfl
  simp only [str_toList]
  refine r_ite_f (by simp) ?_
  refine r_add64 (by omega) (by omega) ?_
  exact ⟨⟨j + 1, by omega, by omega, by
    replace h := h.pick 2 at2
    try simp only [List.set_cons_zero, List.set_cons_succ, List.eraseIdx_zero, List.eraseIdx_cons_zero, List.eraseIdx_cons_succ, List.setIfInBounds_toArray, List.tail_cons] at h
    replace h := h.pick 4 at4
    try simp only [List.set_cons_zero, List.set_cons_succ, List.eraseIdx_zero, List.eraseIdx_cons_zero, List.eraseIdx_cons_succ, List.setIfInBounds_toArray, List.tail_cons] at h
    replace h := h.del 2 at2
    try simp only [List.set_cons_zero, List.set_cons_succ, List.eraseIdx_zero, List.eraseIdx_cons_zero, List.eraseIdx_cons_succ, List.setIfInBounds_toArray, List.tail_cons] at h
    replace h := h.del 2 at2
    try simp only [List.set_cons_zero, List.set_cons_succ, List.eraseIdx_zero, List.eraseIdx_cons_zero, List.eraseIdx_cons_succ, List.setIfInBounds_toArray, List.tail_cons] at h
    replace h := h.del 2 at2
    try simp only [List.set_cons_zero, List.set_cons_succ, List.eraseIdx_zero, List.eraseIdx_cons_zero, List.eraseIdx_cons_succ, List.setIfInBounds_toArray, List.tail_cons] at h
    exact h⟩, by omega⟩
end
end Go.Proofs.Ytgnkminakongkaa
