/- The net: the example of the document, and what comes first. -/
import Derived.Test.YtilejcnbacmdnaaSNet2
import Derived.Test.YtilejcnbacmdnaaMore
import Derived.Test.YtilejcnbacmdnaaIRLaw20
import Derived.Test.YtilejcnbacmdnaaIRLaw201
import Derived.Test.YtilejcnbacmdnaaShapes
namespace Go.Proofs.Ytilejcnbacmdnaa
open Go Go.Sep
set_option linter.unusedSimpArgs false
set_option linter.unusedVariables false
set_option maxRecDepth 100000
section
variable {B w : World} {Γ : List HProp}

theorem law20_speaks_spec {k : Bool → K} (h : Holds B Γ w) (hk : ∀ w, Holds B Γ w → k true w) : law20_speaks.call k w := by
  refine law20_speaks_ok _ _ ?_
  unfold law20_speaks law20_speaks.s1
  refine net_New_spec h fun b w h => ?_
  refine r_ite_f rfl ?_
  refine net_Send_spec (p := ⟨1, 0, 0, 0, 0, 0, []⟩) (d := ⟨none, 0, 0⟩) h (fun w _ => RdC.none') (by decide) (fun hb => by simp at hb) fun _ d1 w h => ?_
  refine net_Send_spec (p := ⟨2, 0, 0, 0, 0, 0, []⟩) (d := ⟨none, 0, 0⟩) h (fun w _ => RdC.none') (by decide) (fun hb => by simp at hb) fun _ d2 w h => ?_
  refine net_Copy_spec (i := 0) (by intro x hx; simp at hx; rcases hx with rfl | rfl <;> simp) h (fun hb => absurd hb (by simp)) fun j x hj hx _ d3 w h => ?_
  obtain rfl : j = 0 := by omega
  cases hx
  refine net_Take_spec (i := 0) (by simp) (by intro x hx; simp at hx; rcases hx with rfl | rfl | rfl <;> simp) h (fun hb => absurd hb (by simp)) fun j x hj hx d w h => ?_
  obtain rfl : j = 0 := by omega
  cases hx
  refine r_new h ?_
  clear h
  intro a3 w h
  try simp only [add_mk, Nat.zero_add, Nat.reduceAdd]
  first | refine r_stN 0 h rfl (by with_reducible exact at0) ?_ ?_ (fun _ _ => nofz _) ?_ ?_ | refine r_stN 1 h rfl (by with_reducible exact at1) ?_ ?_ (fun _ _ => nofz _) ?_ ?_ | refine r_stN 2 h rfl (by with_reducible exact at2) ?_ ?_ (fun _ _ => nofz _) ?_ ?_ | refine r_stN 3 h rfl (by with_reducible exact at3) ?_ ?_ (fun _ _ => nofz _) ?_ ?_ | refine r_stN 4 h rfl (by with_reducible exact at4) ?_ ?_ (fun _ _ => nofz _) ?_ ?_ | refine r_stN 5 h rfl (by with_reducible exact at5) ?_ ?_ (fun _ _ => nofz _) ?_ ?_ | refine r_stN 6 h rfl (by with_reducible exact at6) ?_ ?_ (fun _ _ => nofz _) ?_ ?_ | refine r_stN 7 h rfl (by with_reducible exact at7) ?_ ?_ (fun _ _ => nofz _) ?_ ?_
  · rfl
  · rfl
  · simp [flatV]
  clear h
  intro w h
  try simp only [List.set_cons_zero, List.set_cons_succ, List.eraseIdx_zero, List.eraseIdx_cons_zero, List.eraseIdx_cons_succ, List.setIfInBounds_toArray, List.tail_cons] at h
  replace h := h.pick 2 at2
  try simp only [List.set_cons_zero, List.set_cons_succ, List.eraseIdx_zero, List.eraseIdx_cons_zero, List.eraseIdx_cons_succ, List.setIfInBounds_toArray, List.tail_cons] at h
  replace h := h.del 2 at2
  try simp only [List.set_cons_zero, List.set_cons_succ, List.eraseIdx_zero, List.eraseIdx_cons_zero, List.eraseIdx_cons_succ, List.setIfInBounds_toArray, List.tail_cons] at h
  refine net_Take_spec (i := 0) (by simp) (by intro x hx; simp at hx; rcases hx with rfl | rfl <;> simp) h (fun hb => absurd hb (by simp)) fun j x hj hx d w h => ?_
  obtain rfl : j = 0 := by omega
  cases hx
  refine r_new h ?_
  clear h
  intro b5 w h
  try simp only [add_mk, Nat.zero_add, Nat.reduceAdd]
  first | refine r_stN 0 h rfl (by with_reducible exact at0) ?_ ?_ (fun _ _ => nofz _) ?_ ?_ | refine r_stN 1 h rfl (by with_reducible exact at1) ?_ ?_ (fun _ _ => nofz _) ?_ ?_ | refine r_stN 2 h rfl (by with_reducible exact at2) ?_ ?_ (fun _ _ => nofz _) ?_ ?_ | refine r_stN 3 h rfl (by with_reducible exact at3) ?_ ?_ (fun _ _ => nofz _) ?_ ?_ | refine r_stN 4 h rfl (by with_reducible exact at4) ?_ ?_ (fun _ _ => nofz _) ?_ ?_ | refine r_stN 5 h rfl (by with_reducible exact at5) ?_ ?_ (fun _ _ => nofz _) ?_ ?_ | refine r_stN 6 h rfl (by with_reducible exact at6) ?_ ?_ (fun _ _ => nofz _) ?_ ?_ | refine r_stN 7 h rfl (by with_reducible exact at7) ?_ ?_ (fun _ _ => nofz _) ?_ ?_
  · rfl
  · rfl
  · simp [flatV]
  clear h
  intro w h
  try simp only [List.set_cons_zero, List.set_cons_succ, List.eraseIdx_zero, List.eraseIdx_cons_zero, List.eraseIdx_cons_succ, List.setIfInBounds_toArray, List.tail_cons] at h
  replace h := h.pick 3 at3
  try simp only [List.set_cons_zero, List.set_cons_succ, List.eraseIdx_zero, List.eraseIdx_cons_zero, List.eraseIdx_cons_succ, List.setIfInBounds_toArray, List.tail_cons] at h
  replace h := h.pick 1 at1
  try simp only [List.set_cons_zero, List.set_cons_succ, List.eraseIdx_zero, List.eraseIdx_cons_zero, List.eraseIdx_cons_succ, List.setIfInBounds_toArray, List.tail_cons] at h
  replace h := h.pick 3 at3
  try simp only [List.set_cons_zero, List.set_cons_succ, List.eraseIdx_zero, List.eraseIdx_cons_zero, List.eraseIdx_cons_succ, List.setIfInBounds_toArray, List.tail_cons] at h
  replace h := h.del 3 at3
  try simp only [List.set_cons_zero, List.set_cons_succ, List.eraseIdx_zero, List.eraseIdx_cons_zero, List.eraseIdx_cons_succ, List.setIfInBounds_toArray, List.tail_cons] at h
  refine net_Take_spec (i := 0) (by simp) (by intro x hx; simp at hx; rcases hx with rfl <;> simp) h (fun hb => absurd hb (by simp)) fun j x hj hx d w h => ?_
  obtain rfl : j = 0 := by omega
  cases hx
  refine r_new h ?_
  clear h
  intro c7 w h
  try simp only [add_mk, Nat.zero_add, Nat.reduceAdd]
  first | refine r_stN 0 h rfl (by with_reducible exact at0) ?_ ?_ (fun _ _ => nofz _) ?_ ?_ | refine r_stN 1 h rfl (by with_reducible exact at1) ?_ ?_ (fun _ _ => nofz _) ?_ ?_ | refine r_stN 2 h rfl (by with_reducible exact at2) ?_ ?_ (fun _ _ => nofz _) ?_ ?_ | refine r_stN 3 h rfl (by with_reducible exact at3) ?_ ?_ (fun _ _ => nofz _) ?_ ?_ | refine r_stN 4 h rfl (by with_reducible exact at4) ?_ ?_ (fun _ _ => nofz _) ?_ ?_ | refine r_stN 5 h rfl (by with_reducible exact at5) ?_ ?_ (fun _ _ => nofz _) ?_ ?_ | refine r_stN 6 h rfl (by with_reducible exact at6) ?_ ?_ (fun _ _ => nofz _) ?_ ?_ | refine r_stN 7 h rfl (by with_reducible exact at7) ?_ ?_ (fun _ _ => nofz _) ?_ ?_
  · rfl
  · rfl
  · simp [flatV]
  clear h
  intro w h
  try simp only [List.set_cons_zero, List.set_cons_succ, List.eraseIdx_zero, List.eraseIdx_cons_zero, List.eraseIdx_cons_succ, List.setIfInBounds_toArray, List.tail_cons] at h
  refine r_ite_t rfl ?_
  refine r_ld (x := (1 : Int)) h rfl (by first | (with_reducible exact List.mem_cons_self) | (with_reducible exact List.mem_cons_of_mem _ (List.mem_cons_self)) | (with_reducible exact List.mem_cons_of_mem _ (List.mem_cons_of_mem _ (List.mem_cons_self))) | (with_reducible exact List.mem_cons_of_mem _ (List.mem_cons_of_mem _ (List.mem_cons_of_mem _ (List.mem_cons_self)))) | (with_reducible exact List.mem_cons_of_mem _ (List.mem_cons_of_mem _ (List.mem_cons_of_mem _ (List.mem_cons_of_mem _ (List.mem_cons_self))))) | (with_reducible exact List.mem_cons_of_mem _ (List.mem_cons_of_mem _ (List.mem_cons_of_mem _ (List.mem_cons_of_mem _ (List.mem_cons_of_mem _ (List.mem_cons_self)))))) | (with_reducible exact List.mem_cons_of_mem _ (List.mem_cons_of_mem _ (List.mem_cons_of_mem _ (List.mem_cons_of_mem _ (List.mem_cons_of_mem _ (List.mem_cons_of_mem _ (List.mem_cons_self))))))) | (with_reducible exact List.mem_cons_of_mem _ (List.mem_cons_of_mem _ (List.mem_cons_of_mem _ (List.mem_cons_of_mem _ (List.mem_cons_of_mem _ (List.mem_cons_of_mem _ (List.mem_cons_of_mem _ (List.mem_cons_self)))))))) | (with_reducible exact List.mem_cons_of_mem _ (List.mem_cons_of_mem _ (List.mem_cons_of_mem _ (List.mem_cons_of_mem _ (List.mem_cons_of_mem _ (List.mem_cons_of_mem _ (List.mem_cons_of_mem _ (List.mem_cons_of_mem _ (List.mem_cons_self)))))))))) ?_ ?_
  · exact rfl
  refine r_ite_t rfl ?_
  refine r_ld (x := (2 : Int)) h rfl (by first | (with_reducible exact List.mem_cons_self) | (with_reducible exact List.mem_cons_of_mem _ (List.mem_cons_self)) | (with_reducible exact List.mem_cons_of_mem _ (List.mem_cons_of_mem _ (List.mem_cons_self))) | (with_reducible exact List.mem_cons_of_mem _ (List.mem_cons_of_mem _ (List.mem_cons_of_mem _ (List.mem_cons_self)))) | (with_reducible exact List.mem_cons_of_mem _ (List.mem_cons_of_mem _ (List.mem_cons_of_mem _ (List.mem_cons_of_mem _ (List.mem_cons_self))))) | (with_reducible exact List.mem_cons_of_mem _ (List.mem_cons_of_mem _ (List.mem_cons_of_mem _ (List.mem_cons_of_mem _ (List.mem_cons_of_mem _ (List.mem_cons_self)))))) | (with_reducible exact List.mem_cons_of_mem _ (List.mem_cons_of_mem _ (List.mem_cons_of_mem _ (List.mem_cons_of_mem _ (List.mem_cons_of_mem _ (List.mem_cons_of_mem _ (List.mem_cons_self))))))) | (with_reducible exact List.mem_cons_of_mem _ (List.mem_cons_of_mem _ (List.mem_cons_of_mem _ (List.mem_cons_of_mem _ (List.mem_cons_of_mem _ (List.mem_cons_of_mem _ (List.mem_cons_of_mem _ (List.mem_cons_self)))))))) | (with_reducible exact List.mem_cons_of_mem _ (List.mem_cons_of_mem _ (List.mem_cons_of_mem _ (List.mem_cons_of_mem _ (List.mem_cons_of_mem _ (List.mem_cons_of_mem _ (List.mem_cons_of_mem _ (List.mem_cons_of_mem _ (List.mem_cons_self)))))))))) ?_ ?_
  · exact rfl
  refine r_ite_t rfl ?_
  refine r_ld (x := (1 : Int)) h rfl (by first | (with_reducible exact List.mem_cons_self) | (with_reducible exact List.mem_cons_of_mem _ (List.mem_cons_self)) | (with_reducible exact List.mem_cons_of_mem _ (List.mem_cons_of_mem _ (List.mem_cons_self))) | (with_reducible exact List.mem_cons_of_mem _ (List.mem_cons_of_mem _ (List.mem_cons_of_mem _ (List.mem_cons_self)))) | (with_reducible exact List.mem_cons_of_mem _ (List.mem_cons_of_mem _ (List.mem_cons_of_mem _ (List.mem_cons_of_mem _ (List.mem_cons_self))))) | (with_reducible exact List.mem_cons_of_mem _ (List.mem_cons_of_mem _ (List.mem_cons_of_mem _ (List.mem_cons_of_mem _ (List.mem_cons_of_mem _ (List.mem_cons_self)))))) | (with_reducible exact List.mem_cons_of_mem _ (List.mem_cons_of_mem _ (List.mem_cons_of_mem _ (List.mem_cons_of_mem _ (List.mem_cons_of_mem _ (List.mem_cons_of_mem _ (List.mem_cons_self))))))) | (with_reducible exact List.mem_cons_of_mem _ (List.mem_cons_of_mem _ (List.mem_cons_of_mem _ (List.mem_cons_of_mem _ (List.mem_cons_of_mem _ (List.mem_cons_of_mem _ (List.mem_cons_of_mem _ (List.mem_cons_self)))))))) | (with_reducible exact List.mem_cons_of_mem _ (List.mem_cons_of_mem _ (List.mem_cons_of_mem _ (List.mem_cons_of_mem _ (List.mem_cons_of_mem _ (List.mem_cons_of_mem _ (List.mem_cons_of_mem _ (List.mem_cons_of_mem _ (List.mem_cons_self)))))))))) ?_ ?_
  · exact rfl
  refine r_ite_t rfl ?_
  replace h := h.pick 2 at2
  try simp only [List.set_cons_zero, List.set_cons_succ, List.eraseIdx_zero, List.eraseIdx_cons_zero, List.eraseIdx_cons_succ, List.setIfInBounds_toArray, List.tail_cons] at h
  replace h := h.del 1 at1
  try simp only [List.set_cons_zero, List.set_cons_succ, List.eraseIdx_zero, List.eraseIdx_cons_zero, List.eraseIdx_cons_succ, List.setIfInBounds_toArray, List.tail_cons] at h
  replace h := h.del 1 at1
  try simp only [List.set_cons_zero, List.set_cons_succ, List.eraseIdx_zero, List.eraseIdx_cons_zero, List.eraseIdx_cons_succ, List.setIfInBounds_toArray, List.tail_cons] at h
  replace h := h.del 1 at1
  try simp only [List.set_cons_zero, List.set_cons_succ, List.eraseIdx_zero, List.eraseIdx_cons_zero, List.eraseIdx_cons_succ, List.setIfInBounds_toArray, List.tail_cons] at h
  replace h := h.del 1 at1
  try simp only [List.set_cons_zero, List.set_cons_succ, List.eraseIdx_zero, List.eraseIdx_cons_zero, List.eraseIdx_cons_succ, List.setIfInBounds_toArray, List.tail_cons] at h
  refine net_Len_spec h fun w h => ?_
  exact hk _ h.tail

/-! ### NetFirst -/
def mkP (x : Int) : ParcelD := ⟨x, 0, 0, 0, 0, 0, []⟩
theorem map_erase {α β : Type} (f : α → β) : ∀ (l : List α) (i : Nat), (l.eraseIdx i).map f = (l.map f).eraseIdx i
  | [], i => by simp
  | x :: l, 0 => by simp
  | x :: l, i + 1 => by simp [map_erase f l i]
theorem mkP_data {l : List (ParcelD × Sl)} {M : List Int} (hl : l.map Prod.fst = M.map mkP) : ∀ x ∈ l, x.1.da.length ≤ 1000000000 := by
  intro x hx
  have : x.1 ∈ M.map mkP := by rw [← hl]; exact List.mem_map_of_mem hx
  obtain ⟨m, _, hm⟩ := List.mem_map.1 this
  rw [← hm]; simp [mkP]
theorem mkP_len {l : List (ParcelD × Sl)} {M : List Int} (hl : l.map Prod.fst = M.map mkP) : l.length = M.length := by
  have := congrArg List.length hl; simpa using this

def firstI (B : World) (Γ : List HProp) (b : Nat) (left : Sl) (w : World) : Prop :=
  ∃ M : List Int, M.length ≤ 100 ∧ ∃ l, l.map Prod.fst = M.map mkP ∧ Holds B (NetR ty_net_Net b l :: SlC ty_int 1 left (M.map (Value.int .i64)) :: Γ) w

theorem first_s5 {k : Bool → K} {X2 : Int → K} {X3 : Sl → Int → K} {b : Nat} {left t43 : Sl} {x t44 : Int} {M : List Int} {l : List (ParcelD × Sl)} {j : Nat} (hj : j < 1000000000)
    (hM : M.length ≤ 100) (hl : l.map Prod.fst = M.map mkP) (h : Holds B (NetR ty_net_Net b l :: SlC ty_int 1 left (M.map (Value.int .i64)) :: Γ) w)
    (hX : ∀ left w, firstI B Γ b left w → X3 left ((j : Int) + 1) w) : law20_NetFirst.s5 k X2 X3 (some ⟨b, 0, none⟩) left x (decide (0 ≤ x ∧ x < (M.length : Int))) t43 t44 j w := by
  have hll := mkP_len hl
  have hn : left.n = M.length := by have := h.tail.slCap.1; simp at this; omega
  unfold law20_NetFirst.s5 law20_NetFirst.s4
  refine net_Drop_spec (by omega) (mkP_data hl) h (fun hno w h => ?_) (fun i hi hil w h => ?_)
  · have e : decide (0 ≤ x ∧ x < (M.length : Int)) = false := by simp only [decide_eq_false_iff_not]; rw [hll] at hno; exact hno
    rw [e]
    refine r_ite_f rfl ?_
    refine r_ite_f rfl ?_
    refine r_add64 (by omega) (by omega) ?_
    exact hX _ _ ⟨M, hM, l, hl, h⟩
  · subst hi
    have e : decide (0 ≤ (i : Int) ∧ (i : Int) < (M.length : Int)) = true := by simp only [decide_eq_true_eq]; omega
    rw [e]
    refine r_ite_f rfl ?_
    refine r_ite_t rfl ?_
    refine r_dr h ?_
    clear h
    intro w h
    have hc := h.tail.slCap
    refine ⟨_, by omega, by omega, by omega, by omega, rfl, ?_⟩
    refine r_add64 (by omega) (by omega) ?_
    refine ⟨_, by omega, by omega, by omega, by omega, rfl, ?_⟩
    have ht1 : (0 : Int).toNat = 0 := rfl
    have ht2 : ((i : Int)).toNat = i := Int.toNat_natCast i
    have ht3 : ((left.c : Int)).toNat = left.c := Int.toNat_natCast _
    have ht4 : ((left.n : Int)).toNat = left.n := Int.toNat_natCast _
    have ht5 : ((i : Int) + 1).toNat = i + 1 := by omega
    simp only [ht1, ht2, ht3, ht4, ht5, Nat.sub_zero, cut0 hc.2.2.1]
    have hx := (h.rdC (List.mem_cons_of_mem _ List.mem_cons_self)).drop (l := i + 1) (c := left.c) (by omega) (by omega) hc.2.2.1
    have h1 := h.swap.imp (SlC.cut (m := i) (by omega))
    refine r_append h1 (by kernel_rfl) (by kernel_rfl) (by' := 8) (by kernel_rfl) zero_ty_int rfl hx (by rw [← List.map_drop]; exact ints_flat _) (by simp only; omega) (by decide) fun left' w h hln _ => ?_
    refine r_add64 (by omega) (by omega) ?_
    refine hX _ _ ⟨M.eraseIdx i, ?_, l.eraseIdx i, ?_, ?_⟩
    · rw [List.length_eraseIdx]; split <;> omega
    · rw [map_erase, hl, map_erase]
    · have e : (M.map (Value.int .i64)).take (i * 1) ++ (M.map (Value.int .i64)).drop ((i + 1) * 1) = (M.eraseIdx i).map (Value.int .i64) := by
        rw [List.eraseIdx_eq_take_drop_succ]; simp
      rw [e] at h
      exact h.swap

theorem law20_NetFirst_spec {k : Bool → K} {s d : Sl} {L D : List Int} (hs : RdC B s 1 (L.map (Value.int .i64))) (hd : RdC B d 1 (D.map (Value.int .i64)))
    (h : Holds B Γ w) (hk : ∀ w, Holds B Γ w → k true w) : law20_NetFirst.call s d k w := by
  have hsn : L.length = s.n := by have := hs.len; simpa using this
  have hdn : D.length = d.n := by have := hd.len; simpa using this
  refine law20_NetFirst_ok _ _ _ _ ?_
  unfold law20_NetFirst
  refine law20_speaks_spec h fun w h => ?_
  refine r_ite_f rfl ?_
  suffices hh : s.n ≤ 100 → law20_NetFirst.s1 k s d (decide ((100 : Int) < (d.n : Int))) w by
    refine r_ite (fun hb => ?_) (fun hb => ?_)
    · unfold law20_NetFirst.s1
      exact r_ite_t rfl (hk _ h)
    · simp only [decide_eq_false_iff_not] at hb
      exact hh (by omega)
  intro hb
  unfold law20_NetFirst.s1
  refine r_ite (fun hb2 => hk _ h) (fun hb2 => ?_)
  simp only [decide_eq_false_iff_not] at hb2
  refine net_New_spec h fun b w h => ?_
  refine r_new h ?_
  clear h
  intro t27 w h
  try simp only [add_mk, Nat.zero_add, Nat.reduceAdd]
  refine r_append (vs := []) (h.imp (blk_SlC rfl rfl)) (by kernel_rfl) (by kernel_rfl) (by' := 8) (by kernel_rfl) zero_ty_int rfl (hs.old h) (ints_flat _) (by simp only; omega) (by decide) fun left w h hln _ => ?_
  simp only [List.nil_append] at h
  refine r_ite_f rfl ?_
  refine LoopK.of (fun t w => ∃ j : Nat, t = (j : Int) ∧ j ≤ L.length ∧ ∃ l, l.map Prod.fst = (L.take j).map mkP ∧ Holds B (NetR ty_net_Net b l :: SlC ty_int 1 left (L.map (Value.int .i64)) :: Γ) w)
    (fun t _ => ((s.n : Int) - t).toNat) ⟨0, rfl, by omega, [], rfl, h.swap⟩ ?_
  rintro t w ⟨j, rfl, hj, l, hl, h⟩
  unfold law20_NetFirst.b2
  refine r_ite (fun hb => ?_) (fun hb => ?_)
  · simp only [decide_eq_true_eq] at hb
    have hjl : j < L.length := by omega
    refine r_idx1 (x := L[j]) (hs.old h) (List.getElem?_eq_getElem hjl) ?_
    have hll := mkP_len hl
    refine net_Send_spec (p := mkP L[j]) (d := ⟨none, 0, 0⟩) h (fun w _ => RdC.none') (by simp [mkP]) (fun hb => by simp at hll; omega) fun _ d1 w h => ?_
    refine r_add64 (by omega) (by omega) ?_
    refine ⟨⟨j + 1, by omega, by omega, _, ?_, h⟩, by omega⟩
    rw [List.map_append, hl, List.take_succ_eq_append_getElem hjl, List.map_append]
    rfl
  · simp only [decide_eq_false_iff_not] at hb
    have hjl : j = L.length := by omega
    subst hjl
    rw [List.take_length] at hl
    refine LoopK.of (α := Sl × Int) (fun t w => ∃ j : Nat, t.2 = (j : Int) ∧ j ≤ D.length ∧ firstI B Γ b t.1 w)
      (fun t _ => ((d.n : Int) - t.2).toNat) ⟨0, rfl, by omega, L, by omega, l, hl, h⟩ ?_
    clear h hl l hln
    rintro ⟨left, t⟩ w ⟨j, ht, hj, M, hM, l, hl, h⟩
    simp only at ht h
    subst ht
    have hll := mkP_len hl
    have hn : left.n = M.length := by have := h.tail.slCap.1; simp at this; omega
    unfold law20_NetFirst.b3
    refine r_ite (fun hb => ?_) (fun hb => ?_)
    · simp only [decide_eq_true_eq] at hb
      have hjl : j < D.length := by omega
      refine r_idx1 (x := D[j]) (hd.old h) (List.getElem?_eq_getElem hjl) ?_
      generalize D[j] = x
      refine r_ite (fun hx => ?_) (fun hx => ?_)
      · simp only [decide_eq_true_eq] at hx
        have e : decide (x < (left.n : Int)) = decide (0 ≤ x ∧ x < (M.length : Int)) := by rw [hn]; simp [hx]
        rw [e]
        exact first_s5 (by omega) hM hl h fun left w hI => ⟨⟨j + 1, by simp, by omega, hI⟩, by simp only; omega⟩
      · simp only [decide_eq_false_iff_not] at hx
        have e : decide (0 ≤ x ∧ x < (M.length : Int)) = false := by simp; omega
        rw [← e]
        exact first_s5 (by omega) hM hl h fun left w hI => ⟨⟨j + 1, by simp, by omega, hI⟩, by simp only; omega⟩
    · clear hb
      refine LoopK.of (fun t w => ∃ j : Nat, t = (j : Int) ∧ j ≤ M.length ∧ ∃ l, l.map Prod.fst = (M.drop j).map mkP ∧ Holds B (NetR ty_net_Net b l :: SlC ty_int 1 left (M.map (Value.int .i64)) :: Γ) w)
        (fun t _ => ((left.n : Int) - t).toNat) ⟨0, rfl, by omega, l, hl, h⟩ ?_
      clear h hl hll l
      rintro t w ⟨j, rfl, hj, l, hl, h⟩
      have hll := mkP_len hl
      rw [List.length_drop] at hll
      unfold law20_NetFirst.b6 law20_NetFirst.s7
      refine r_ite (fun hb => ?_) (fun hb => ?_)
      · simp only [decide_eq_true_eq] at hb
        have hjl : j < M.length := by omega
        refine r_idx1 (x := M[j]) (h.rdC (List.mem_cons_of_mem _ List.mem_cons_self)) (List.getElem?_eq_getElem hjl) ?_
        refine net_Take_spec (by omega) (mkP_data hl) h (fun hno => absurd hno (by omega)) fun i x hi hx d' w h => ?_
        obtain rfl : i = 0 := by omega
        have hx1 : x.1 = mkP M[j] := by
          have := congrArg (·[0]?) hl
          simp only [List.getElem?_map, hx, List.getElem?_drop, Nat.add_zero, List.getElem?_eq_getElem hjl, Option.map_some, Option.some.injEq] at this
          exact this
        refine r_new h ?_
        clear h
        intro p14 w h
        try simp only [add_mk, Nat.zero_add, Nat.reduceAdd]
        first | refine r_stN 0 h rfl (by with_reducible exact at0) ?_ ?_ (fun _ _ => nofz _) ?_ ?_ | refine r_stN 1 h rfl (by with_reducible exact at1) ?_ ?_ (fun _ _ => nofz _) ?_ ?_ | refine r_stN 2 h rfl (by with_reducible exact at2) ?_ ?_ (fun _ _ => nofz _) ?_ ?_ | refine r_stN 3 h rfl (by with_reducible exact at3) ?_ ?_ (fun _ _ => nofz _) ?_ ?_ | refine r_stN 4 h rfl (by with_reducible exact at4) ?_ ?_ (fun _ _ => nofz _) ?_ ?_ | refine r_stN 5 h rfl (by with_reducible exact at5) ?_ ?_ (fun _ _ => nofz _) ?_ ?_ | refine r_stN 6 h rfl (by with_reducible exact at6) ?_ ?_ (fun _ _ => nofz _) ?_ ?_ | refine r_stN 7 h rfl (by with_reducible exact at7) ?_ ?_ (fun _ _ => nofz _) ?_ ?_
        · rfl
        · rfl
        · simp [flatV]
        clear h
        intro w h
        try simp only [List.set_cons_zero, List.set_cons_succ, List.eraseIdx_zero, List.eraseIdx_cons_zero, List.eraseIdx_cons_succ, List.setIfInBounds_toArray, List.tail_cons] at h
        refine r_ite_f rfl ?_
        refine r_ld (x := x.1.fr) h rfl (by first | (with_reducible exact List.mem_cons_self) | (with_reducible exact List.mem_cons_of_mem _ (List.mem_cons_self)) | (with_reducible exact List.mem_cons_of_mem _ (List.mem_cons_of_mem _ (List.mem_cons_self))) | (with_reducible exact List.mem_cons_of_mem _ (List.mem_cons_of_mem _ (List.mem_cons_of_mem _ (List.mem_cons_self)))) | (with_reducible exact List.mem_cons_of_mem _ (List.mem_cons_of_mem _ (List.mem_cons_of_mem _ (List.mem_cons_of_mem _ (List.mem_cons_self))))) | (with_reducible exact List.mem_cons_of_mem _ (List.mem_cons_of_mem _ (List.mem_cons_of_mem _ (List.mem_cons_of_mem _ (List.mem_cons_of_mem _ (List.mem_cons_self)))))) | (with_reducible exact List.mem_cons_of_mem _ (List.mem_cons_of_mem _ (List.mem_cons_of_mem _ (List.mem_cons_of_mem _ (List.mem_cons_of_mem _ (List.mem_cons_of_mem _ (List.mem_cons_self))))))) | (with_reducible exact List.mem_cons_of_mem _ (List.mem_cons_of_mem _ (List.mem_cons_of_mem _ (List.mem_cons_of_mem _ (List.mem_cons_of_mem _ (List.mem_cons_of_mem _ (List.mem_cons_of_mem _ (List.mem_cons_self)))))))) | (with_reducible exact List.mem_cons_of_mem _ (List.mem_cons_of_mem _ (List.mem_cons_of_mem _ (List.mem_cons_of_mem _ (List.mem_cons_of_mem _ (List.mem_cons_of_mem _ (List.mem_cons_of_mem _ (List.mem_cons_of_mem _ (List.mem_cons_self)))))))))) ?_ ?_
        · exact rfl
        rw [hx1]
        refine r_ite_f (by simp [mkP]) ?_
        refine r_add64 (by omega) (by omega) ?_
        refine ⟨⟨j + 1, by simp, by omega, _, ?_, h.tail.tail⟩, by omega⟩
        rw [List.map_tail, hl, ← List.map_tail, List.tail_drop]
      · simp only [decide_eq_false_iff_not] at hb
        refine net_Len_spec h fun w h => ?_
        have : l.length = 0 := by omega
        rw [this]
        exact hk _ h.tail.tail
end
end Go.Proofs.Ytilejcnbacmdnaa

namespace Go.Proofs.Ytilejcnbacmdnaa
open Go Go.Sep Go.RowKit
theorem NetFirst_walk (W : World) (s : Sl) (y0 : Rdy W Sh_ty_s_int (Sl.val s).cells.toList) (d : Sl) (y1 : Rdy W Sh_ty_s_int (Sl.val d).cells.toList) :
    Calls Try.prog 6 #[s.val, d.val] W (Ret fun v w' => v = .bool true ∧ Below W.heap.size W w') := by
  obtain ⟨L, hL, _⟩ := rdy_ints y0
  obtain ⟨D, hD, _⟩ := rdy_ints y1
  exact law_call (law20_NetFirst_spec hL hD (Holds.start W) fun w h => ⟨rfl, h⟩)
end Go.Proofs.Ytilejcnbacmdnaa
