/- The document's side of a link. -/
import Derived.Test.YtilejcnbacmdnaaSLink6
namespace Go.Proofs.Ytilejcnbacmdnaa
open Go Go.Sep
set_option linter.unusedSimpArgs false
set_option linter.unusedVariables false
set_option maxRecDepth 100000
section
variable {B w : World} {Γ : List HProp}

abbrev rlA (d : LinkD) (so sx : Sl) : Array Value := #[.int .u64 d.ep, .int .u64 d.pe, .int .u64 d.ba, .int .u64 d.ex, so.val, sx.val]
def earF (p : Int × BS) : List Value := [.int .u64 p.1, p.2.2.val]
theorem earF_len (p : Int × BS) : (earF p).length = 2 := rfl
theorem ears_flat (l : List (Int × BS)) : ∀ v ∈ l.flatMap earF, flatV v = true := fun v hv => by
  obtain ⟨x, _, hx⟩ := List.mem_flatMap.1 hv
  simp only [earF, List.mem_cons, List.not_mem_nil, or_false] at hx
  rcases hx with rfl | rfl <;> rfl
def earB (p : Int × BS) : HProp := bsB p.2

def RefR (b : Nat) (d : LinkD) : HProp := ex fun so : Sl => ex fun sx : Sl => ex fun outs : List BS => ex fun es : List (Int × BS) =>
  stars (pur (outs.map Prod.fst = d.out ∧ (es.map fun p => (p.1, p.2.1)) = d.early) ::
    [blk b (.cells (rlA d so sx) ty_argosyref19_Link (0, 0)), SlC ty_s_uint8 1 so (outs.map bsV), stars (outs.map bsB), SlC ty_argosyref19_Early 2 sx (es.flatMap earF), stars (es.map earB)])
theorem RefR.opens {b : Nat} {d : LinkD} (h : Holds B (RefR b d :: Γ) w) : ∃ (so sx : Sl) (outs : List BS) (es : List (Int × BS)), outs.map Prod.fst = d.out ∧ (es.map fun p => (p.1, p.2.1)) = d.early ∧
    Holds B (blk b (.cells (rlA d so sx) ty_argosyref19_Link (0, 0)) :: SlC ty_s_uint8 1 so (outs.map bsV) :: stars (outs.map bsB) :: SlC ty_argosyref19_Early 2 sx (es.flatMap earF) :: stars (es.map earB) :: Γ) w := by
  obtain ⟨so, h⟩ := Holds.ex.1 h
  obtain ⟨sx, h⟩ := Holds.ex.1 h
  obtain ⟨outs, h⟩ := Holds.ex.1 h
  obtain ⟨es, h⟩ := Holds.ex.1 h
  obtain ⟨⟨h1, h2⟩, h⟩ := Holds.pur.1 (Holds.flat.1 h)
  exact ⟨so, sx, outs, es, h1, h2, h⟩
theorem RefR.shuts {b : Nat} {d : LinkD} {so sx : Sl} {outs : List BS} {es : List (Int × BS)} (h1 : outs.map Prod.fst = d.out) (h2 : (es.map fun p => (p.1, p.2.1)) = d.early)
    (h : Holds B (blk b (.cells (rlA d so sx) ty_argosyref19_Link (0, 0)) :: SlC ty_s_uint8 1 so (outs.map bsV) :: stars (outs.map bsB) :: SlC ty_argosyref19_Early 2 sx (es.flatMap earF) :: stars (es.map earB) :: Γ) w) : Holds B (RefR b d :: Γ) w :=
  Holds.ex.2 ⟨so, Holds.ex.2 ⟨sx, Holds.ex.2 ⟨outs, Holds.ex.2 ⟨es, Holds.flat.2 (Holds.pur.2 ⟨⟨h1, h2⟩, h⟩)⟩⟩⟩⟩

theorem rlink_New_spec {ep : Int} {k : Option Addr → K} (h : Holds B Γ w) (hk : ∀ b w, Holds B (RefR b ⟨ep, 0, 1, 1, [], []⟩ :: Γ) w → k (some ⟨b, 0, none⟩) w) : ref19_New.call ep k w := by
  refine ref19_New_ok _ _ _ ?_
  unfold ref19_New
  have h1 := ((h.starsNil.nilSl ty_argosyref19_Early 2).starsNil).nilSl ty_s_uint8 1
  clear h
  have h := h1
  clear h1
  refine r_new h ?_
  clear h
  intro b w h
  try simp only [add_mk, Nat.zero_add, Nat.reduceAdd]
  exact hk b _ (RefR.shuts (so := ⟨none, 0, 0⟩) (sx := ⟨none, 0, 0⟩) (outs := []) (es := []) rfl rfl h)

theorem mfirst {k : Int} {x : BS} : ∀ (m : List (Int × BS)) (j : Nat), m[j]? = some (k, x) → (∀ i, i < j → ∀ p, m[i]? = some p → p.1 ≠ k) → mget k m = some x ∧ mdel k m = m.eraseIdx j
  | [], j, h, _ => by simp at h
  | p :: m, 0, h, _ => by
    simp only [List.getElem?_cons_zero, Option.some.injEq] at h
    subst h
    simp [mget, mdel]
  | p :: m, j + 1, h, hb => by
    have hne : ¬ k = p.1 := fun e => hb 0 (by omega) p rfl e.symm
    obtain ⟨h1, h2⟩ := mfirst m j (by simpa using h) (fun i hi q hq => hb (i + 1) (by omega) q (by simpa using hq))
    simp [mget, mdel, hne, h1, h2]
theorem mget_all {k : Int} : ∀ (m : List (Int × BS)), (∀ p ∈ m, p.1 ≠ k) → mget k m = none
  | [], _ => rfl
  | p :: m, h => by
    have hne : ¬ k = p.1 := fun e => h p List.mem_cons_self e.symm
    unfold mget
    rw [if_neg hne]
    exact mget_all m fun q hq => h q (List.mem_cons_of_mem _ hq)

theorem rlink_at_spec {b T : Nat} {d : LinkD} {so sx : Sl} {es : List (Int × BS)} {q : Int} {k : Int → K} (h : Holds B Γ w) (hm : blk b (.cells (rlA d so sx) T (0, 0)) ∈ Γ) (hs : SlC ty_argosyref19_Early 2 sx (es.flatMap earF) ∈ Γ) (hbig : es.length ≤ 1000000)
    (hno : mget q es = none → ∀ w, Holds B Γ w → k (-1) w) (hyes : ∀ (j : Nat) (x : BS), es[j]? = some (q, x) → mget q es = some x → mdel q es = es.eraseIdx j → ∀ w, Holds B Γ w → k (j : Int) w) :
    ref19_Link_at.call (some ⟨b, 0, none⟩) q k w := by
  refine ref19_Link_at_ok _ _ _ _ ?_
  unfold ref19_Link_at
  refine LoopK.of (fun t w => ∃ j : Nat, t = (j : Int) ∧ j ≤ es.length ∧ (∀ i, i < j → ∀ p, es[i]? = some p → p.1 ≠ q) ∧ Holds B Γ w) (fun t _ => ((es.length : Int) - t).toNat) ⟨0, rfl, by omega, by omega, h⟩ ?_
  clear h
  rintro t w ⟨j, rfl, hj, hb, h⟩
  have hrd := h.rdC hs
  have hn : es.length = sx.n := by have := hrd.len; rw [flatMap_len earF 2 earF_len] at this; omega
  unfold ref19_Link_at.b1
  refine r_nn rfl ?_
  simp only [add_mk, Nat.zero_add]
  refine r_ld (x := sx) h rfl hm ?_ ?_
  · exact rfl
  refine r_ite (fun hlt => ?_) (fun hlt => ?_)
  · simp only [decide_eq_true_eq] at hlt
    have hjl : j < es.length := by omega
    have hx : es[j]? = some es[j] := List.getElem?_eq_getElem hjl
    generalize es[j] = x at hx
    refine r_ld (x := sx) h rfl hm ?_ ?_
    · exact rfl
    refine r_idxA earF earF_len (by decide) hrd hx fun t20 ht => ?_
    rw [← add_zero' t20]
    refine r_ldF (x := x.1) 0 (ht w hrd) (show 0 < 2 by decide) rfl ?_
    refine r_ite (fun he => ?_) (fun he => ?_)
    · simp only [decide_eq_true_eq] at he
      obtain ⟨x1, x2⟩ := x
      simp only at he
      subst he
      obtain ⟨g1, g2⟩ := mfirst es j hx hb
      exact hyes j x2 hx g1 g2 w h
    · simp only [decide_eq_false_iff_not] at he
      refine r_add64 (by omega) (by omega) ?_
      refine ⟨⟨j + 1, by omega, by omega, fun i hi p hp => ?_, h⟩, by omega⟩
      by_cases hij : i = j
      · subst hij
        rw [hx] at hp
        obtain rfl := Option.some.inj hp
        exact he
      · exact hb i (by omega) p hp
  · simp only [decide_eq_false_iff_not] at hlt
    refine hno (mget_all es fun p hp => ?_) w h
    obtain ⟨i, hi⟩ := List.mem_iff_getElem?.1 hp
    have := (List.getElem?_eq_some_iff.1 hi).1
    exact hb i (by omega) p hi

theorem rlink_Send_spec {b : Nat} {d : LinkD} {data : Sl} {xs : List UInt8} {k : Int → K} (hof : d.out.length ≤ 100000) (h : Holds B (RefR b d :: Γ) w) (hr : ∀ w, Holds B Γ w → RdB w data xs) (hl : xs.length ≤ 1000000000)
    (hfull : 16 ≤ d.out.length → ∀ w, Holds B (RefR b d :: Γ) w → k 2 w) (hk : d.out.length < 16 → ∀ w, Holds B (RefR b { d with out := d.out ++ [xs] } :: Γ) w → k 0 w) :
    ref19_Link_Send.call (some ⟨b, 0, none⟩) data k w := by
  refine ref19_Link_Send_ok _ _ _ _ ?_
  unfold ref19_Link_Send
  obtain ⟨so, sx, outs, es, h1, h2, h⟩ := RefR.opens h
  refine r_nn rfl ?_
  simp only [add_mk, Nat.zero_add]
  have hn := h.tail.slCap.1
  have hd := congrArg List.length h1
  simp only [List.length_map, Nat.mul_one] at hn hd
  refine r_ld (x := so) h rfl (by first | (with_reducible exact List.mem_cons_self) | (with_reducible exact List.mem_cons_of_mem _ (List.mem_cons_self)) | (with_reducible exact List.mem_cons_of_mem _ (List.mem_cons_of_mem _ (List.mem_cons_self))) | (with_reducible exact List.mem_cons_of_mem _ (List.mem_cons_of_mem _ (List.mem_cons_of_mem _ (List.mem_cons_self)))) | (with_reducible exact List.mem_cons_of_mem _ (List.mem_cons_of_mem _ (List.mem_cons_of_mem _ (List.mem_cons_of_mem _ (List.mem_cons_self))))) | (with_reducible exact List.mem_cons_of_mem _ (List.mem_cons_of_mem _ (List.mem_cons_of_mem _ (List.mem_cons_of_mem _ (List.mem_cons_of_mem _ (List.mem_cons_self)))))) | (with_reducible exact List.mem_cons_of_mem _ (List.mem_cons_of_mem _ (List.mem_cons_of_mem _ (List.mem_cons_of_mem _ (List.mem_cons_of_mem _ (List.mem_cons_of_mem _ (List.mem_cons_self))))))) | (with_reducible exact List.mem_cons_of_mem _ (List.mem_cons_of_mem _ (List.mem_cons_of_mem _ (List.mem_cons_of_mem _ (List.mem_cons_of_mem _ (List.mem_cons_of_mem _ (List.mem_cons_of_mem _ (List.mem_cons_self)))))))) | (with_reducible exact List.mem_cons_of_mem _ (List.mem_cons_of_mem _ (List.mem_cons_of_mem _ (List.mem_cons_of_mem _ (List.mem_cons_of_mem _ (List.mem_cons_of_mem _ (List.mem_cons_of_mem _ (List.mem_cons_of_mem _ (List.mem_cons_self)))))))))) ?_ ?_
  · exact rfl
  refine r_ite (fun hb => ?_) (fun hb => ?_)
  · simp only [decide_eq_true_eq] at hb
    exact hfull (by omega) _ (RefR.shuts h1 h2 h)
  · simp only [decide_eq_false_iff_not] at hb
    refine r_new h ?_
    clear h
    intro t12 w h
    try simp only [add_mk, Nat.zero_add, Nat.reduceAdd]
    refine r_ld (x := so) h rfl (by first | (with_reducible exact List.mem_cons_self) | (with_reducible exact List.mem_cons_of_mem _ (List.mem_cons_self)) | (with_reducible exact List.mem_cons_of_mem _ (List.mem_cons_of_mem _ (List.mem_cons_self))) | (with_reducible exact List.mem_cons_of_mem _ (List.mem_cons_of_mem _ (List.mem_cons_of_mem _ (List.mem_cons_self)))) | (with_reducible exact List.mem_cons_of_mem _ (List.mem_cons_of_mem _ (List.mem_cons_of_mem _ (List.mem_cons_of_mem _ (List.mem_cons_self))))) | (with_reducible exact List.mem_cons_of_mem _ (List.mem_cons_of_mem _ (List.mem_cons_of_mem _ (List.mem_cons_of_mem _ (List.mem_cons_of_mem _ (List.mem_cons_self)))))) | (with_reducible exact List.mem_cons_of_mem _ (List.mem_cons_of_mem _ (List.mem_cons_of_mem _ (List.mem_cons_of_mem _ (List.mem_cons_of_mem _ (List.mem_cons_of_mem _ (List.mem_cons_self))))))) | (with_reducible exact List.mem_cons_of_mem _ (List.mem_cons_of_mem _ (List.mem_cons_of_mem _ (List.mem_cons_of_mem _ (List.mem_cons_of_mem _ (List.mem_cons_of_mem _ (List.mem_cons_of_mem _ (List.mem_cons_self)))))))) | (with_reducible exact List.mem_cons_of_mem _ (List.mem_cons_of_mem _ (List.mem_cons_of_mem _ (List.mem_cons_of_mem _ (List.mem_cons_of_mem _ (List.mem_cons_of_mem _ (List.mem_cons_of_mem _ (List.mem_cons_of_mem _ (List.mem_cons_self)))))))))) ?_ ?_
    · exact rfl
    refine r_append (vs := []) (h.imp (blk_SlC rfl rfl)) (by kernel_rfl) (by kernel_rfl) (by' := 24) (by kernel_rfl) zero_ty_s_uint8 rfl (h.rdC (List.mem_cons_of_mem _ (List.mem_cons_of_mem _ List.mem_cons_self))) (bsV_flat _) (by simp only; omega) (by decide) fun t17 w h hs17 _ => ?_
    simp only [List.nil_append] at h
    refine r_new h ?_
    clear h
    intro t18 w h
    try simp only [add_mk, Nat.zero_add, Nat.reduceAdd]
    have hxl : xs.length = data.n := by have := (hr w h.tail.tail.tail.tail.tail.tail.tail).len; simpa using this
    refine r_append (vs := []) (h.imp (blk_SlC rfl rfl)) (by kernel_rfl) (by kernel_rfl) (by' := 1) (by kernel_rfl) zero_ty_uint8 rfl (hr w h.tail.tail.tail.tail.tail.tail.tail) (byteV_flat _) (by simp only; omega) (by decide) fun t20 w h _ _ => ?_
    simp only [List.nil_append] at h
    refine r_new h ?_
    clear h
    intro t21 w h
    try simp only [add_mk, Nat.zero_add, Nat.reduceAdd]
    have hx := RdC.of_blk (n := 1) (esz := 1) h List.mem_cons_self (vs := [t20.val]) rfl rfl 1
    have hs17' : t17.n = so.n := by simpa using hs17
    refine r_append (h.pick 2 at2) (by kernel_rfl) (by kernel_rfl) (by' := 24) (by kernel_rfl) zero_ty_s_uint8 rfl hx (flat_all rfl) (by simp only; omega) (by decide) fun s' w h _ _ => ?_
    try simp only [List.set_cons_zero, List.set_cons_succ, List.eraseIdx_zero, List.eraseIdx_cons_zero, List.eraseIdx_cons_succ, List.setIfInBounds_toArray, List.tail_cons] at h
    first | refine r_st 0 h rfl (by with_reducible exact at0) ?_ (nofz _) rfl ?_ | refine r_st 1 h rfl (by with_reducible exact at1) ?_ (nofz _) rfl ?_ | refine r_st 2 h rfl (by with_reducible exact at2) ?_ (nofz _) rfl ?_ | refine r_st 3 h rfl (by with_reducible exact at3) ?_ (nofz _) rfl ?_ | refine r_st 4 h rfl (by with_reducible exact at4) ?_ (nofz _) rfl ?_ | refine r_st 5 h rfl (by with_reducible exact at5) ?_ (nofz _) rfl ?_ | refine r_st 6 h rfl (by with_reducible exact at6) ?_ (nofz _) rfl ?_ | refine r_st 7 h rfl (by with_reducible exact at7) ?_ (nofz _) rfl ?_
    · first | exact Nat.lt_of_ble_eq_true rfl | (simp; done) | (simp; omega)
    clear h
    intro w h
    try simp only [List.set_cons_zero, List.set_cons_succ, List.eraseIdx_zero, List.eraseIdx_cons_zero, List.eraseIdx_cons_succ, List.setIfInBounds_toArray, List.tail_cons] at h
    have e : outs.map bsV ++ [t20.val] = (outs ++ [(xs, t20)]).map bsV := by simp [bsV]
    rw [e] at h
    replace h := h.pick 7 at7
    try simp only [List.set_cons_zero, List.set_cons_succ, List.eraseIdx_zero, List.eraseIdx_cons_zero, List.eraseIdx_cons_succ, List.setIfInBounds_toArray, List.tail_cons] at h
    replace h := h.pick 7 at7
    try simp only [List.set_cons_zero, List.set_cons_succ, List.eraseIdx_zero, List.eraseIdx_cons_zero, List.eraseIdx_cons_succ, List.setIfInBounds_toArray, List.tail_cons] at h
    replace h := h.pick 5 at5
    try simp only [List.set_cons_zero, List.set_cons_succ, List.eraseIdx_zero, List.eraseIdx_cons_zero, List.eraseIdx_cons_succ, List.setIfInBounds_toArray, List.tail_cons] at h
    replace h := h.pick 3 at3
    try simp only [List.set_cons_zero, List.set_cons_succ, List.eraseIdx_zero, List.eraseIdx_cons_zero, List.eraseIdx_cons_succ, List.setIfInBounds_toArray, List.tail_cons] at h
    replace h := h.pick 5 at5
    try simp only [List.set_cons_zero, List.set_cons_succ, List.eraseIdx_zero, List.eraseIdx_cons_zero, List.eraseIdx_cons_succ, List.setIfInBounds_toArray, List.tail_cons] at h
    replace h := h.pick 7 at7
    try simp only [List.set_cons_zero, List.set_cons_succ, List.eraseIdx_zero, List.eraseIdx_cons_zero, List.eraseIdx_cons_succ, List.setIfInBounds_toArray, List.tail_cons] at h
    replace h := h.del 6 at6
    try simp only [List.set_cons_zero, List.set_cons_succ, List.eraseIdx_zero, List.eraseIdx_cons_zero, List.eraseIdx_cons_succ, List.setIfInBounds_toArray, List.tail_cons] at h
    replace h := h.del 6 at6
    try simp only [List.set_cons_zero, List.set_cons_succ, List.eraseIdx_zero, List.eraseIdx_cons_zero, List.eraseIdx_cons_succ, List.setIfInBounds_toArray, List.tail_cons] at h
    have h3 := stars_put (x := (xs, t20)) h
    clear h
    have h := h3
    clear h3
    replace h := h.pick 4 at4
    try simp only [List.set_cons_zero, List.set_cons_succ, List.eraseIdx_zero, List.eraseIdx_cons_zero, List.eraseIdx_cons_succ, List.setIfInBounds_toArray, List.tail_cons] at h
    replace h := h.pick 4 at4
    try simp only [List.set_cons_zero, List.set_cons_succ, List.eraseIdx_zero, List.eraseIdx_cons_zero, List.eraseIdx_cons_succ, List.setIfInBounds_toArray, List.tail_cons] at h
    replace h := h.pick 2 at2
    try simp only [List.set_cons_zero, List.set_cons_succ, List.eraseIdx_zero, List.eraseIdx_cons_zero, List.eraseIdx_cons_succ, List.setIfInBounds_toArray, List.tail_cons] at h
    replace h := h.pick 3 at3
    try simp only [List.set_cons_zero, List.set_cons_succ, List.eraseIdx_zero, List.eraseIdx_cons_zero, List.eraseIdx_cons_succ, List.setIfInBounds_toArray, List.tail_cons] at h
    replace h := h.pick 4 at4
    try simp only [List.set_cons_zero, List.set_cons_succ, List.eraseIdx_zero, List.eraseIdx_cons_zero, List.eraseIdx_cons_succ, List.setIfInBounds_toArray, List.tail_cons] at h
    exact hk (by omega) _ (RefR.shuts (outs := outs ++ [(xs, t20)]) (by simp [h1]) h2 h)
end
end Go.Proofs.Ytilejcnbacmdnaa
