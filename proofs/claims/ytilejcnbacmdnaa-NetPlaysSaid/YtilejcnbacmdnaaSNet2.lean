/- The document's net: what its functions do. -/
import Derived.Test.YtilejcnbacmdnaaSNet
import Derived.Test.YtilejcnbacmdnaaIRRef20
import Derived.Test.YtilejcnbacmdnaaStr
namespace Go.Proofs.Ytilejcnbacmdnaa
open Go Go.Sep
set_option linter.unusedSimpArgs false
set_option linter.unusedVariables false
set_option maxRecDepth 100000
section
variable {B w : World} {Γ : List HProp} {T b : Nat} {l : List (ParcelD × Sl)}

/-! ### the document's net -/
def MR (T b : Nat) (l : List (ParcelD × Sl)) : HProp :=
  ex fun s : Sl => stars [blk b (.cells #[s.val] T (0, 0)), SlC ty_api_Parcel 7 s (l.flatMap pcF)]
theorem MR.opens {T b : Nat} {l : List (ParcelD × Sl)} (h : Holds B (MR T b l :: Γ) w) :
    ∃ s : Sl, Holds B (blk b (.cells #[s.val] T (0, 0)) :: SlC ty_api_Parcel 7 s (l.flatMap pcF) :: Γ) w := by
  obtain ⟨s, h⟩ := Holds.ex.1 h
  exact ⟨s, Holds.flat.1 h⟩
theorem MR.shuts {T b : Nat} {l : List (ParcelD × Sl)} {s : Sl} (h : Holds B (blk b (.cells #[s.val] T (0, 0)) :: SlC ty_api_Parcel 7 s (l.flatMap pcF) :: Γ) w) :
    Holds B (MR T b l :: Γ) w := Holds.ex.2 ⟨s, Holds.flat.2 h⟩
theorem pcs_flat (l : List (ParcelD × Sl)) : ∀ v ∈ l.flatMap pcF, flatV v = true := fun v hv => by
  obtain ⟨x, _, hx⟩ := List.mem_flatMap.1 hv
  exact pcF_flat x v hx
theorem pcs_cut (i : Nat) : ∀ (l : List (ParcelD × Sl)), (l.flatMap pcF).take (i * 7) = (l.take i).flatMap pcF ∧ (l.flatMap pcF).drop (i * 7) = (l.drop i).flatMap pcF := by
  intro l
  induction l generalizing i with
  | nil => simp
  | cons x l ih =>
    cases i with
    | zero => simp
    | succ i =>
      have e1 : (i + 1) * 7 = (pcF x).length + i * 7 := by rw [pcF_len]; omega
      simp only [List.flatMap_cons, List.take_succ_cons, List.drop_succ_cons]
      rw [e1, List.take_length_add_append, List.drop_length_add_append, (ih i).1, (ih i).2]
      exact ⟨rfl, rfl⟩

theorem ref_Has_spec {i : Int} {k : Bool → K} (h : Holds B (MR T b l :: Γ) w) (hk : ∀ w, Holds B (MR T b l :: Γ) w → k (decide (0 ≤ i ∧ i < l.length)) w) : ref20_Net_Has.call (some ⟨b, 0, none⟩) i k w := by
  refine ref20_Net_Has_ok _ _ _ _ ?_
  unfold ref20_Net_Has ref20_Net_Has.s1
  refine r_ite (fun hb => ?_) (fun hb => ?_)
  · simp only [decide_eq_true_eq] at hb
    refine r_nn rfl ?_
    obtain ⟨s, h⟩ := MR.opens h
    have hn := sl_len (T := 0) (b := 0) h.tail.slCap.1
    refine r_ld (x := s) h rfl (by first | (with_reducible exact List.mem_cons_self) | (with_reducible exact List.mem_cons_of_mem _ (List.mem_cons_self)) | (with_reducible exact List.mem_cons_of_mem _ (List.mem_cons_of_mem _ (List.mem_cons_self))) | (with_reducible exact List.mem_cons_of_mem _ (List.mem_cons_of_mem _ (List.mem_cons_of_mem _ (List.mem_cons_self)))) | (with_reducible exact List.mem_cons_of_mem _ (List.mem_cons_of_mem _ (List.mem_cons_of_mem _ (List.mem_cons_of_mem _ (List.mem_cons_self))))) | (with_reducible exact List.mem_cons_of_mem _ (List.mem_cons_of_mem _ (List.mem_cons_of_mem _ (List.mem_cons_of_mem _ (List.mem_cons_of_mem _ (List.mem_cons_self)))))) | (with_reducible exact List.mem_cons_of_mem _ (List.mem_cons_of_mem _ (List.mem_cons_of_mem _ (List.mem_cons_of_mem _ (List.mem_cons_of_mem _ (List.mem_cons_of_mem _ (List.mem_cons_self))))))) | (with_reducible exact List.mem_cons_of_mem _ (List.mem_cons_of_mem _ (List.mem_cons_of_mem _ (List.mem_cons_of_mem _ (List.mem_cons_of_mem _ (List.mem_cons_of_mem _ (List.mem_cons_of_mem _ (List.mem_cons_self)))))))) | (with_reducible exact List.mem_cons_of_mem _ (List.mem_cons_of_mem _ (List.mem_cons_of_mem _ (List.mem_cons_of_mem _ (List.mem_cons_of_mem _ (List.mem_cons_of_mem _ (List.mem_cons_of_mem _ (List.mem_cons_of_mem _ (List.mem_cons_self)))))))))) ?_ ?_
    · exact rfl
    have := hk _ (MR.shuts h)
    rw [hn]
    have e : decide (i < (l.length : Int)) = decide (0 ≤ i ∧ i < l.length) := by simp [hb]
    rw [e]; exact this
  · simp only [decide_eq_false_iff_not] at hb
    have e : decide (0 ≤ i ∧ i < (l.length : Int)) = false := by simp; omega
    rw [← e]; exact hk _ h

theorem ref_Send_spec {p : ParcelD} {d : Sl} {k : Bool → K} (hbig : l.length ≤ 5000) (h : Holds B (MR T b l :: Γ) w)
    (hfull : 4000 ≤ l.length → ∀ w, Holds B (MR T b l :: Γ) w → k false w) (hk : l.length < 4000 → ∀ w, Holds B (MR T b (l ++ [(p, d)]) :: Γ) w → k true w) :
    ref20_Net_Send.call (some ⟨b, 0, none⟩) (pcA p d) k w := by
  refine ref20_Net_Send_ok _ _ _ _ ?_
  unfold ref20_Net_Send ref20_Net_Send.s1
  refine r_new h ?_
  clear h
  intro p3 w h
  try simp only [add_mk, Nat.zero_add, Nat.reduceAdd]
  refine r_nn rfl ?_
  obtain ⟨s, h⟩ := MR.opens h.swap
  have hn := sl_len (T := 0) (b := 0) h.tail.slCap.1
  refine r_ld (x := s) h rfl (by first | (with_reducible exact List.mem_cons_self) | (with_reducible exact List.mem_cons_of_mem _ (List.mem_cons_self)) | (with_reducible exact List.mem_cons_of_mem _ (List.mem_cons_of_mem _ (List.mem_cons_self))) | (with_reducible exact List.mem_cons_of_mem _ (List.mem_cons_of_mem _ (List.mem_cons_of_mem _ (List.mem_cons_self)))) | (with_reducible exact List.mem_cons_of_mem _ (List.mem_cons_of_mem _ (List.mem_cons_of_mem _ (List.mem_cons_of_mem _ (List.mem_cons_self))))) | (with_reducible exact List.mem_cons_of_mem _ (List.mem_cons_of_mem _ (List.mem_cons_of_mem _ (List.mem_cons_of_mem _ (List.mem_cons_of_mem _ (List.mem_cons_self)))))) | (with_reducible exact List.mem_cons_of_mem _ (List.mem_cons_of_mem _ (List.mem_cons_of_mem _ (List.mem_cons_of_mem _ (List.mem_cons_of_mem _ (List.mem_cons_of_mem _ (List.mem_cons_self))))))) | (with_reducible exact List.mem_cons_of_mem _ (List.mem_cons_of_mem _ (List.mem_cons_of_mem _ (List.mem_cons_of_mem _ (List.mem_cons_of_mem _ (List.mem_cons_of_mem _ (List.mem_cons_of_mem _ (List.mem_cons_self)))))))) | (with_reducible exact List.mem_cons_of_mem _ (List.mem_cons_of_mem _ (List.mem_cons_of_mem _ (List.mem_cons_of_mem _ (List.mem_cons_of_mem _ (List.mem_cons_of_mem _ (List.mem_cons_of_mem _ (List.mem_cons_of_mem _ (List.mem_cons_self)))))))))) ?_ ?_
  · exact rfl
  rw [hn]
  refine r_ite (fun hb => ?_) (fun hb => ?_)
  · simp only [decide_eq_true_eq] at hb
    exact hfull (by omega) _ (MR.shuts (h.del 2 at2))
  · simp only [decide_eq_false_iff_not] at hb
    refine r_dr h ?_
    clear h
    intro w h
    refine r_withS h ?_
    refine r_ldS (x := s) rfl (by first | (with_reducible exact List.mem_cons_self) | (with_reducible exact List.mem_cons_of_mem _ (List.mem_cons_self)) | (with_reducible exact List.mem_cons_of_mem _ (List.mem_cons_of_mem _ (List.mem_cons_self))) | (with_reducible exact List.mem_cons_of_mem _ (List.mem_cons_of_mem _ (List.mem_cons_of_mem _ (List.mem_cons_self)))) | (with_reducible exact List.mem_cons_of_mem _ (List.mem_cons_of_mem _ (List.mem_cons_of_mem _ (List.mem_cons_of_mem _ (List.mem_cons_self))))) | (with_reducible exact List.mem_cons_of_mem _ (List.mem_cons_of_mem _ (List.mem_cons_of_mem _ (List.mem_cons_of_mem _ (List.mem_cons_of_mem _ (List.mem_cons_self)))))) | (with_reducible exact List.mem_cons_of_mem _ (List.mem_cons_of_mem _ (List.mem_cons_of_mem _ (List.mem_cons_of_mem _ (List.mem_cons_of_mem _ (List.mem_cons_of_mem _ (List.mem_cons_self))))))) | (with_reducible exact List.mem_cons_of_mem _ (List.mem_cons_of_mem _ (List.mem_cons_of_mem _ (List.mem_cons_of_mem _ (List.mem_cons_of_mem _ (List.mem_cons_of_mem _ (List.mem_cons_of_mem _ (List.mem_cons_self)))))))) | (with_reducible exact List.mem_cons_of_mem _ (List.mem_cons_of_mem _ (List.mem_cons_of_mem _ (List.mem_cons_of_mem _ (List.mem_cons_of_mem _ (List.mem_cons_of_mem _ (List.mem_cons_of_mem _ (List.mem_cons_of_mem _ (List.mem_cons_self)))))))))) ?_ ?_
    · exact rfl
    refine r_ldNS rfl (by first | (with_reducible exact List.mem_cons_self) | (with_reducible exact List.mem_cons_of_mem _ (List.mem_cons_self)) | (with_reducible exact List.mem_cons_of_mem _ (List.mem_cons_of_mem _ (List.mem_cons_self))) | (with_reducible exact List.mem_cons_of_mem _ (List.mem_cons_of_mem _ (List.mem_cons_of_mem _ (List.mem_cons_self)))) | (with_reducible exact List.mem_cons_of_mem _ (List.mem_cons_of_mem _ (List.mem_cons_of_mem _ (List.mem_cons_of_mem _ (List.mem_cons_self))))) | (with_reducible exact List.mem_cons_of_mem _ (List.mem_cons_of_mem _ (List.mem_cons_of_mem _ (List.mem_cons_of_mem _ (List.mem_cons_of_mem _ (List.mem_cons_self)))))) | (with_reducible exact List.mem_cons_of_mem _ (List.mem_cons_of_mem _ (List.mem_cons_of_mem _ (List.mem_cons_of_mem _ (List.mem_cons_of_mem _ (List.mem_cons_of_mem _ (List.mem_cons_self))))))) | (with_reducible exact List.mem_cons_of_mem _ (List.mem_cons_of_mem _ (List.mem_cons_of_mem _ (List.mem_cons_of_mem _ (List.mem_cons_of_mem _ (List.mem_cons_of_mem _ (List.mem_cons_of_mem _ (List.mem_cons_self)))))))) | (with_reducible exact List.mem_cons_of_mem _ (List.mem_cons_of_mem _ (List.mem_cons_of_mem _ (List.mem_cons_of_mem _ (List.mem_cons_of_mem _ (List.mem_cons_of_mem _ (List.mem_cons_of_mem _ (List.mem_cons_of_mem _ (List.mem_cons_self)))))))))) ?_ ?_
    · rfl
    have e : l.flatMap pcF ++ pcL p d = (l ++ [(p, d)]).flatMap pcF := by simp [pcF]
    refine all_cons ?_ (all_cons ?_ all_nil)
    · refine r_new h ?_
      clear h
      intro t12 w h
      try simp only [add_mk, Nat.zero_add, Nat.reduceAdd]
      refine r_sv h.tail ?_
      refine all_cons ?_ (all_cons ?_ all_nil)
      · have hx := h.rdC (List.mem_cons_of_mem _ (List.mem_cons_of_mem _ List.mem_cons_self))
        refine r_append (vs := []) (h.imp (blk_SlC rfl rfl)) (by kernel_rfl) (by kernel_rfl) (by' := 72) (by kernel_rfl) zero_ty_api_Parcel rfl hx (pcs_flat _) (by simp only; omega) (by decide) fun s2 w h hs _ => ?_
        refine r_sv h.tail ?_
        refine r_bld1 rfl rfl ?_
        refine r_new h ?_
        clear h
        intro t19 w h
        try simp only [add_mk, Nat.zero_add, Nat.reduceAdd]
        refine r_sv h.tail.tail ?_
        have hx := RdC.of_blk (n := 1) (esz := 7) h List.mem_cons_self (vs := pcL p d) rfl rfl 1
        refine r_append (h.pick 1 at1) (by kernel_rfl) (by kernel_rfl) (by' := 72) (by kernel_rfl) zero_ty_api_Parcel rfl hx (pcF_flat (p, d)) (by simp only at hs ⊢; omega) (by decide) fun s' w h _ _ => ?_
        simp only [List.nil_append] at h
        try simp only [List.set_cons_zero, List.set_cons_succ, List.eraseIdx_zero, List.eraseIdx_cons_zero, List.eraseIdx_cons_succ, List.setIfInBounds_toArray, List.tail_cons] at h
        rw [e] at h
        first | refine r_st 0 h rfl (by with_reducible exact at0) ?_ (nofz _) rfl ?_ | refine r_st 1 h rfl (by with_reducible exact at1) ?_ (nofz _) rfl ?_ | refine r_st 2 h rfl (by with_reducible exact at2) ?_ (nofz _) rfl ?_ | refine r_st 3 h rfl (by with_reducible exact at3) ?_ (nofz _) rfl ?_ | refine r_st 4 h rfl (by with_reducible exact at4) ?_ (nofz _) rfl ?_ | refine r_st 5 h rfl (by with_reducible exact at5) ?_ (nofz _) rfl ?_ | refine r_st 6 h rfl (by with_reducible exact at6) ?_ (nofz _) rfl ?_ | refine r_st 7 h rfl (by with_reducible exact at7) ?_ (nofz _) rfl ?_
        · first | exact Nat.lt_of_ble_eq_true rfl | (simp; done) | (simp; omega)
        clear h
        intro w h
        try simp only [List.set_cons_zero, List.set_cons_succ, List.eraseIdx_zero, List.eraseIdx_cons_zero, List.eraseIdx_cons_succ, List.setIfInBounds_toArray, List.tail_cons] at h
        exact hk (by omega) _ (MR.shuts ((((h.pick 2 at2).del 2 at2).del 2 at2).del 2 at2))
      · refine r_bld1 rfl rfl ?_
        refine r_new h ?_
        clear h
        intro t19 w h
        try simp only [add_mk, Nat.zero_add, Nat.reduceAdd]
        refine r_sv h.tail.tail ?_
        have hx := h.rdC (List.mem_cons_of_mem _ (List.mem_cons_of_mem _ (List.mem_cons_of_mem _ List.mem_cons_self)))
        refine r_append (vs := []) (h.swap.imp (blk_SlC rfl rfl)) (by kernel_rfl) (by kernel_rfl) (by' := 72) (by kernel_rfl) zero_ty_api_Parcel rfl hx (pcs_flat _) (by simp only; omega) (by decide) fun s2 w h hs _ => ?_
        refine r_sv h.tail.tail ?_
        have hx := RdC.of_blk (n := 1) (esz := 7) h (List.mem_cons_of_mem _ List.mem_cons_self) (vs := pcL p d) rfl rfl 1
        refine r_append h (by kernel_rfl) (by kernel_rfl) (by' := 72) (by kernel_rfl) zero_ty_api_Parcel rfl hx (pcF_flat (p, d)) (by simp only at hs ⊢; omega) (by decide) fun s' w h _ _ => ?_
        simp only [List.nil_append] at h
        try simp only [List.set_cons_zero, List.set_cons_succ, List.eraseIdx_zero, List.eraseIdx_cons_zero, List.eraseIdx_cons_succ, List.setIfInBounds_toArray, List.tail_cons] at h
        rw [e] at h
        first | refine r_st 0 h rfl (by with_reducible exact at0) ?_ (nofz _) rfl ?_ | refine r_st 1 h rfl (by with_reducible exact at1) ?_ (nofz _) rfl ?_ | refine r_st 2 h rfl (by with_reducible exact at2) ?_ (nofz _) rfl ?_ | refine r_st 3 h rfl (by with_reducible exact at3) ?_ (nofz _) rfl ?_ | refine r_st 4 h rfl (by with_reducible exact at4) ?_ (nofz _) rfl ?_ | refine r_st 5 h rfl (by with_reducible exact at5) ?_ (nofz _) rfl ?_ | refine r_st 6 h rfl (by with_reducible exact at6) ?_ (nofz _) rfl ?_ | refine r_st 7 h rfl (by with_reducible exact at7) ?_ (nofz _) rfl ?_
        · first | exact Nat.lt_of_ble_eq_true rfl | (simp; done) | (simp; omega)
        clear h
        intro w h
        try simp only [List.set_cons_zero, List.set_cons_succ, List.eraseIdx_zero, List.eraseIdx_cons_zero, List.eraseIdx_cons_succ, List.setIfInBounds_toArray, List.tail_cons] at h
        exact hk (by omega) _ (MR.shuts ((((h.pick 2 at2).del 2 at2).del 2 at2).del 2 at2))
    · refine r_bld1 rfl rfl ?_
      refine r_new h ?_
      clear h
      intro t19 w h
      try simp only [add_mk, Nat.zero_add, Nat.reduceAdd]
      refine r_sv h.tail ?_
      refine r_new h ?_
      clear h
      intro t12 w h
      try simp only [add_mk, Nat.zero_add, Nat.reduceAdd]
      refine r_sv h.tail.tail ?_
      have hx := h.rdC (List.mem_cons_of_mem _ (List.mem_cons_of_mem _ (List.mem_cons_of_mem _ List.mem_cons_self)))
      refine r_append (vs := []) (h.imp (blk_SlC rfl rfl)) (by kernel_rfl) (by kernel_rfl) (by' := 72) (by kernel_rfl) zero_ty_api_Parcel rfl hx (pcs_flat _) (by simp only; omega) (by decide) fun s2 w h hs _ => ?_
      refine r_sv h.tail.tail ?_
      have hx := RdC.of_blk (n := 1) (esz := 7) h (List.mem_cons_of_mem _ List.mem_cons_self) (vs := pcL p d) rfl rfl 1
      refine r_append h (by kernel_rfl) (by kernel_rfl) (by' := 72) (by kernel_rfl) zero_ty_api_Parcel rfl hx (pcF_flat (p, d)) (by simp only at hs ⊢; omega) (by decide) fun s' w h _ _ => ?_
      simp only [List.nil_append] at h
      try simp only [List.set_cons_zero, List.set_cons_succ, List.eraseIdx_zero, List.eraseIdx_cons_zero, List.eraseIdx_cons_succ, List.setIfInBounds_toArray, List.tail_cons] at h
      rw [e] at h
      first | refine r_st 0 h rfl (by with_reducible exact at0) ?_ (nofz _) rfl ?_ | refine r_st 1 h rfl (by with_reducible exact at1) ?_ (nofz _) rfl ?_ | refine r_st 2 h rfl (by with_reducible exact at2) ?_ (nofz _) rfl ?_ | refine r_st 3 h rfl (by with_reducible exact at3) ?_ (nofz _) rfl ?_ | refine r_st 4 h rfl (by with_reducible exact at4) ?_ (nofz _) rfl ?_ | refine r_st 5 h rfl (by with_reducible exact at5) ?_ (nofz _) rfl ?_ | refine r_st 6 h rfl (by with_reducible exact at6) ?_ (nofz _) rfl ?_ | refine r_st 7 h rfl (by with_reducible exact at7) ?_ (nofz _) rfl ?_
      · first | exact Nat.lt_of_ble_eq_true rfl | (simp; done) | (simp; omega)
      clear h
      intro w h
      try simp only [List.set_cons_zero, List.set_cons_succ, List.eraseIdx_zero, List.eraseIdx_cons_zero, List.eraseIdx_cons_succ, List.setIfInBounds_toArray, List.tail_cons] at h
      exact hk (by omega) _ (MR.shuts ((((h.pick 2 at2).del 2 at2).del 2 at2).del 2 at2))

theorem ref_Take_spec {i : Int} {k : Array Value → Bool → K} (hbig : l.length ≤ 5000) (h : Holds B (MR T b l :: Γ) w)
    (hno : ¬ (0 ≤ i ∧ i < l.length) → ∀ w, Holds B (MR T b l :: Γ) w → k (pcA zeroP ⟨none, 0, 0⟩) false w)
    (hk : ∀ (j : Nat) (x : ParcelD × Sl), i = j → l[j]? = some x → ∀ w, Holds B (MR T b (l.eraseIdx j) :: Γ) w → k (pcA x.1 x.2) true w) :
    ref20_Net_Take.call (some ⟨b, 0, none⟩) i k w := by
  refine ref20_Net_Take_ok _ _ _ _ ?_
  unfold ref20_Net_Take
  refine r_new h ?_
  clear h
  intro t4 w h
  try simp only [add_mk, Nat.zero_add, Nat.reduceAdd]
  refine ref_Has_spec h.swap fun w h => ?_
  refine r_ite (fun hb => ?_) (fun hb => ?_)
  · have hb' : ¬ (0 ≤ i ∧ i < (l.length : Int)) := by
      simp at hb
      omega
    replace h := h.swap
    first | refine r_stN 0 h rfl (by with_reducible exact at0) ?_ ?_ (fun _ _ => nofz _) ?_ ?_ | refine r_stN 1 h rfl (by with_reducible exact at1) ?_ ?_ (fun _ _ => nofz _) ?_ ?_ | refine r_stN 2 h rfl (by with_reducible exact at2) ?_ ?_ (fun _ _ => nofz _) ?_ ?_ | refine r_stN 3 h rfl (by with_reducible exact at3) ?_ ?_ (fun _ _ => nofz _) ?_ ?_ | refine r_stN 4 h rfl (by with_reducible exact at4) ?_ ?_ (fun _ _ => nofz _) ?_ ?_ | refine r_stN 5 h rfl (by with_reducible exact at5) ?_ ?_ (fun _ _ => nofz _) ?_ ?_ | refine r_stN 6 h rfl (by with_reducible exact at6) ?_ ?_ (fun _ _ => nofz _) ?_ ?_ | refine r_stN 7 h rfl (by with_reducible exact at7) ?_ ?_ (fun _ _ => nofz _) ?_ ?_
    · rfl
    · rfl
    · simp [flatV]
    clear h
    intro w h
    try simp only [List.set_cons_zero, List.set_cons_succ, List.eraseIdx_zero, List.eraseIdx_cons_zero, List.eraseIdx_cons_succ, List.setIfInBounds_toArray, List.tail_cons] at h
    refine r_ldN h rfl (by first | (with_reducible exact List.mem_cons_self) | (with_reducible exact List.mem_cons_of_mem _ (List.mem_cons_self)) | (with_reducible exact List.mem_cons_of_mem _ (List.mem_cons_of_mem _ (List.mem_cons_self))) | (with_reducible exact List.mem_cons_of_mem _ (List.mem_cons_of_mem _ (List.mem_cons_of_mem _ (List.mem_cons_self)))) | (with_reducible exact List.mem_cons_of_mem _ (List.mem_cons_of_mem _ (List.mem_cons_of_mem _ (List.mem_cons_of_mem _ (List.mem_cons_self))))) | (with_reducible exact List.mem_cons_of_mem _ (List.mem_cons_of_mem _ (List.mem_cons_of_mem _ (List.mem_cons_of_mem _ (List.mem_cons_of_mem _ (List.mem_cons_self)))))) | (with_reducible exact List.mem_cons_of_mem _ (List.mem_cons_of_mem _ (List.mem_cons_of_mem _ (List.mem_cons_of_mem _ (List.mem_cons_of_mem _ (List.mem_cons_of_mem _ (List.mem_cons_self))))))) | (with_reducible exact List.mem_cons_of_mem _ (List.mem_cons_of_mem _ (List.mem_cons_of_mem _ (List.mem_cons_of_mem _ (List.mem_cons_of_mem _ (List.mem_cons_of_mem _ (List.mem_cons_of_mem _ (List.mem_cons_self)))))))) | (with_reducible exact List.mem_cons_of_mem _ (List.mem_cons_of_mem _ (List.mem_cons_of_mem _ (List.mem_cons_of_mem _ (List.mem_cons_of_mem _ (List.mem_cons_of_mem _ (List.mem_cons_of_mem _ (List.mem_cons_of_mem _ (List.mem_cons_self)))))))))) ?_ ?_
    · rfl
    exact hno hb' _ h.tail
  · have hb' : 0 ≤ i ∧ i < (l.length : Int) := by simpa using hb
    obtain ⟨j, rfl⟩ := Int.eq_ofNat_of_zero_le hb'.1
    have hj : j < l.length := by omega
    have hx : l[j]? = some l[j] := List.getElem?_eq_getElem hj
    generalize l[j] = x at hx
    refine r_nn rfl ?_
    obtain ⟨s, h⟩ := MR.opens h
    have hn := sl_len (T := 0) (b := 0) h.tail.slCap.1
    refine r_ld (x := s) h rfl (by first | (with_reducible exact List.mem_cons_self) | (with_reducible exact List.mem_cons_of_mem _ (List.mem_cons_self)) | (with_reducible exact List.mem_cons_of_mem _ (List.mem_cons_of_mem _ (List.mem_cons_self))) | (with_reducible exact List.mem_cons_of_mem _ (List.mem_cons_of_mem _ (List.mem_cons_of_mem _ (List.mem_cons_self)))) | (with_reducible exact List.mem_cons_of_mem _ (List.mem_cons_of_mem _ (List.mem_cons_of_mem _ (List.mem_cons_of_mem _ (List.mem_cons_self))))) | (with_reducible exact List.mem_cons_of_mem _ (List.mem_cons_of_mem _ (List.mem_cons_of_mem _ (List.mem_cons_of_mem _ (List.mem_cons_of_mem _ (List.mem_cons_self)))))) | (with_reducible exact List.mem_cons_of_mem _ (List.mem_cons_of_mem _ (List.mem_cons_of_mem _ (List.mem_cons_of_mem _ (List.mem_cons_of_mem _ (List.mem_cons_of_mem _ (List.mem_cons_self))))))) | (with_reducible exact List.mem_cons_of_mem _ (List.mem_cons_of_mem _ (List.mem_cons_of_mem _ (List.mem_cons_of_mem _ (List.mem_cons_of_mem _ (List.mem_cons_of_mem _ (List.mem_cons_of_mem _ (List.mem_cons_self)))))))) | (with_reducible exact List.mem_cons_of_mem _ (List.mem_cons_of_mem _ (List.mem_cons_of_mem _ (List.mem_cons_of_mem _ (List.mem_cons_of_mem _ (List.mem_cons_of_mem _ (List.mem_cons_of_mem _ (List.mem_cons_of_mem _ (List.mem_cons_self)))))))))) ?_ ?_
    · exact rfl
    have hrd := h.rdC (List.mem_cons_of_mem _ List.mem_cons_self)
    have hsp := h.tail.slCap.2.2.1
    have hsa : ∃ a, s.a = some a := by
      cases ha : s.a with
      | none => have := hrd.nil ha; omega
      | some a => exact ⟨a, rfl⟩
    obtain ⟨a, ha⟩ := hsa
    refine ⟨a, _, ha, by omega, by omega, rfl, ?_⟩
    simp only [Int.toNat_natCast]
    refine r_ldN_of rfl (pc_elem j hx ha hrd (hsp a ha)) ?_
    refine r_new h ?_
    clear h
    intro p6 w h
    try simp only [add_mk, Nat.zero_add, Nat.reduceAdd]
    first | refine r_stN 0 h rfl (by with_reducible exact at0) ?_ ?_ (fun _ _ => nofz _) ?_ ?_ | refine r_stN 1 h rfl (by with_reducible exact at1) ?_ ?_ (fun _ _ => nofz _) ?_ ?_ | refine r_stN 2 h rfl (by with_reducible exact at2) ?_ ?_ (fun _ _ => nofz _) ?_ ?_ | refine r_stN 3 h rfl (by with_reducible exact at3) ?_ ?_ (fun _ _ => nofz _) ?_ ?_ | refine r_stN 4 h rfl (by with_reducible exact at4) ?_ ?_ (fun _ _ => nofz _) ?_ ?_ | refine r_stN 5 h rfl (by with_reducible exact at5) ?_ ?_ (fun _ _ => nofz _) ?_ ?_ | refine r_stN 6 h rfl (by with_reducible exact at6) ?_ ?_ (fun _ _ => nofz _) ?_ ?_ | refine r_stN 7 h rfl (by with_reducible exact at7) ?_ ?_ (fun _ _ => nofz _) ?_ ?_
    · rfl
    · rfl
    · simp [flatV]
    clear h
    intro w h
    try simp only [List.set_cons_zero, List.set_cons_succ, List.eraseIdx_zero, List.eraseIdx_cons_zero, List.eraseIdx_cons_succ, List.setIfInBounds_toArray, List.tail_cons] at h
    refine r_dr h ?_
    clear h
    intro w h
    refine r_withS h ?_
    refine r_add64 (by omega) (by omega) ?_
    have hc := h.tail.tail.slCap.2.1
    refine r_ldS (x := s) rfl (by first | (with_reducible exact List.mem_cons_self) | (with_reducible exact List.mem_cons_of_mem _ (List.mem_cons_self)) | (with_reducible exact List.mem_cons_of_mem _ (List.mem_cons_of_mem _ (List.mem_cons_self))) | (with_reducible exact List.mem_cons_of_mem _ (List.mem_cons_of_mem _ (List.mem_cons_of_mem _ (List.mem_cons_self)))) | (with_reducible exact List.mem_cons_of_mem _ (List.mem_cons_of_mem _ (List.mem_cons_of_mem _ (List.mem_cons_of_mem _ (List.mem_cons_self))))) | (with_reducible exact List.mem_cons_of_mem _ (List.mem_cons_of_mem _ (List.mem_cons_of_mem _ (List.mem_cons_of_mem _ (List.mem_cons_of_mem _ (List.mem_cons_self)))))) | (with_reducible exact List.mem_cons_of_mem _ (List.mem_cons_of_mem _ (List.mem_cons_of_mem _ (List.mem_cons_of_mem _ (List.mem_cons_of_mem _ (List.mem_cons_of_mem _ (List.mem_cons_self))))))) | (with_reducible exact List.mem_cons_of_mem _ (List.mem_cons_of_mem _ (List.mem_cons_of_mem _ (List.mem_cons_of_mem _ (List.mem_cons_of_mem _ (List.mem_cons_of_mem _ (List.mem_cons_of_mem _ (List.mem_cons_self)))))))) | (with_reducible exact List.mem_cons_of_mem _ (List.mem_cons_of_mem _ (List.mem_cons_of_mem _ (List.mem_cons_of_mem _ (List.mem_cons_of_mem _ (List.mem_cons_of_mem _ (List.mem_cons_of_mem _ (List.mem_cons_of_mem _ (List.mem_cons_self)))))))))) ?_ ?_
    · exact rfl
    refine ⟨_, by omega, by omega, by omega, by omega, rfl, ?_⟩
    refine r_ldS (x := s) rfl (by first | (with_reducible exact List.mem_cons_self) | (with_reducible exact List.mem_cons_of_mem _ (List.mem_cons_self)) | (with_reducible exact List.mem_cons_of_mem _ (List.mem_cons_of_mem _ (List.mem_cons_self))) | (with_reducible exact List.mem_cons_of_mem _ (List.mem_cons_of_mem _ (List.mem_cons_of_mem _ (List.mem_cons_self)))) | (with_reducible exact List.mem_cons_of_mem _ (List.mem_cons_of_mem _ (List.mem_cons_of_mem _ (List.mem_cons_of_mem _ (List.mem_cons_self))))) | (with_reducible exact List.mem_cons_of_mem _ (List.mem_cons_of_mem _ (List.mem_cons_of_mem _ (List.mem_cons_of_mem _ (List.mem_cons_of_mem _ (List.mem_cons_self)))))) | (with_reducible exact List.mem_cons_of_mem _ (List.mem_cons_of_mem _ (List.mem_cons_of_mem _ (List.mem_cons_of_mem _ (List.mem_cons_of_mem _ (List.mem_cons_of_mem _ (List.mem_cons_self))))))) | (with_reducible exact List.mem_cons_of_mem _ (List.mem_cons_of_mem _ (List.mem_cons_of_mem _ (List.mem_cons_of_mem _ (List.mem_cons_of_mem _ (List.mem_cons_of_mem _ (List.mem_cons_of_mem _ (List.mem_cons_self)))))))) | (with_reducible exact List.mem_cons_of_mem _ (List.mem_cons_of_mem _ (List.mem_cons_of_mem _ (List.mem_cons_of_mem _ (List.mem_cons_of_mem _ (List.mem_cons_of_mem _ (List.mem_cons_of_mem _ (List.mem_cons_of_mem _ (List.mem_cons_self)))))))))) ?_ ?_
    · exact rfl
    refine ⟨_, by omega, by omega, by omega, by omega, rfl, ?_⟩
    have ht1 : (0 : Int).toNat = 0 := rfl
    have ht2 : ((j : Int)).toNat = j := Int.toNat_natCast j
    have ht3 : ((s.c : Int)).toNat = s.c := Int.toNat_natCast _
    have ht4 : ((s.n : Int)).toNat = s.n := Int.toNat_natCast _
    have ht5 : ((j : Int) + 1).toNat = j + 1 := by omega
    simp only [ht1, ht2, ht3, ht4, ht5, Nat.sub_zero]
    refine r_new h ?_
    clear h
    intro t20 w h
    try simp only [add_mk, Nat.zero_add, Nat.reduceAdd]
    refine r_sv h.tail ?_
    have hx1 := (h.rdC (List.mem_cons_of_mem _ (List.mem_cons_of_mem _ (List.mem_cons_of_mem _ List.mem_cons_self)))).take (m := j) (c := s.c) (by omega)
    rw [(pcs_cut j l).1] at hx1
    have hcut : cutA s.a 0 s.c 7 = s.a := by
      unfold cutA
      split
      · rfl
      · rw [ha]
        obtain ⟨b, o, sp⟩ := a
        have := hsp _ ha
        simp only at this; subst this
        simp [add_mk]
    rw [hcut]
    refine r_append (vs := []) (h.imp (blk_SlC rfl rfl)) (by kernel_rfl) (by kernel_rfl) (by' := 72) (by kernel_rfl) zero_ty_api_Parcel rfl hx1 (pcs_flat _) (by simp only; omega) (by decide) fun s2 w h hs _ => ?_
    refine r_sv h.tail ?_
    have hx2 := (h.rdC (List.mem_cons_of_mem _ (List.mem_cons_of_mem _ (List.mem_cons_of_mem _ List.mem_cons_self)))).drop (l := j + 1) (c := s.c) (by omega) (by omega) hsp
    rw [(pcs_cut (j + 1) l).2] at hx2
    refine r_append h (by kernel_rfl) (by kernel_rfl) (by' := 72) (by kernel_rfl) zero_ty_api_Parcel rfl hx2 (pcs_flat _) (by simp only at hs ⊢; omega) (by decide) fun s' w h _ _ => ?_
    have e : [] ++ (l.take j).flatMap pcF ++ (l.drop (j + 1)).flatMap pcF = (l.eraseIdx j).flatMap pcF := by
      rw [List.nil_append, ← List.flatMap_append, List.eraseIdx_eq_take_drop_succ]
    rw [e] at h
    try simp only [List.set_cons_zero, List.set_cons_succ, List.eraseIdx_zero, List.eraseIdx_cons_zero, List.eraseIdx_cons_succ, List.setIfInBounds_toArray, List.tail_cons] at h
    first | refine r_st 0 h rfl (by with_reducible exact at0) ?_ (nofz _) rfl ?_ | refine r_st 1 h rfl (by with_reducible exact at1) ?_ (nofz _) rfl ?_ | refine r_st 2 h rfl (by with_reducible exact at2) ?_ (nofz _) rfl ?_ | refine r_st 3 h rfl (by with_reducible exact at3) ?_ (nofz _) rfl ?_ | refine r_st 4 h rfl (by with_reducible exact at4) ?_ (nofz _) rfl ?_ | refine r_st 5 h rfl (by with_reducible exact at5) ?_ (nofz _) rfl ?_ | refine r_st 6 h rfl (by with_reducible exact at6) ?_ (nofz _) rfl ?_ | refine r_st 7 h rfl (by with_reducible exact at7) ?_ (nofz _) rfl ?_
    · first | exact Nat.lt_of_ble_eq_true rfl | (simp; done) | (simp; omega)
    clear h
    intro w h
    try simp only [List.set_cons_zero, List.set_cons_succ, List.eraseIdx_zero, List.eraseIdx_cons_zero, List.eraseIdx_cons_succ, List.setIfInBounds_toArray, List.tail_cons] at h
    refine r_ldN h rfl (by first | (with_reducible exact List.mem_cons_self) | (with_reducible exact List.mem_cons_of_mem _ (List.mem_cons_self)) | (with_reducible exact List.mem_cons_of_mem _ (List.mem_cons_of_mem _ (List.mem_cons_self))) | (with_reducible exact List.mem_cons_of_mem _ (List.mem_cons_of_mem _ (List.mem_cons_of_mem _ (List.mem_cons_self)))) | (with_reducible exact List.mem_cons_of_mem _ (List.mem_cons_of_mem _ (List.mem_cons_of_mem _ (List.mem_cons_of_mem _ (List.mem_cons_self))))) | (with_reducible exact List.mem_cons_of_mem _ (List.mem_cons_of_mem _ (List.mem_cons_of_mem _ (List.mem_cons_of_mem _ (List.mem_cons_of_mem _ (List.mem_cons_self)))))) | (with_reducible exact List.mem_cons_of_mem _ (List.mem_cons_of_mem _ (List.mem_cons_of_mem _ (List.mem_cons_of_mem _ (List.mem_cons_of_mem _ (List.mem_cons_of_mem _ (List.mem_cons_self))))))) | (with_reducible exact List.mem_cons_of_mem _ (List.mem_cons_of_mem _ (List.mem_cons_of_mem _ (List.mem_cons_of_mem _ (List.mem_cons_of_mem _ (List.mem_cons_of_mem _ (List.mem_cons_of_mem _ (List.mem_cons_self)))))))) | (with_reducible exact List.mem_cons_of_mem _ (List.mem_cons_of_mem _ (List.mem_cons_of_mem _ (List.mem_cons_of_mem _ (List.mem_cons_of_mem _ (List.mem_cons_of_mem _ (List.mem_cons_of_mem _ (List.mem_cons_of_mem _ (List.mem_cons_self)))))))))) ?_ ?_
    · rfl
    replace h := h.pick 2 at2
    try simp only [List.set_cons_zero, List.set_cons_succ, List.eraseIdx_zero, List.eraseIdx_cons_zero, List.eraseIdx_cons_succ, List.setIfInBounds_toArray, List.tail_cons] at h
    replace h := h.pick 4 at4
    try simp only [List.set_cons_zero, List.set_cons_succ, List.eraseIdx_zero, List.eraseIdx_cons_zero, List.eraseIdx_cons_succ, List.setIfInBounds_toArray, List.tail_cons] at h
    replace h := h.del 3 at3
    try simp only [List.set_cons_zero, List.set_cons_succ, List.eraseIdx_zero, List.eraseIdx_cons_zero, List.eraseIdx_cons_succ, List.setIfInBounds_toArray, List.tail_cons] at h
    replace h := h.del 3 at3
    try simp only [List.set_cons_zero, List.set_cons_succ, List.eraseIdx_zero, List.eraseIdx_cons_zero, List.eraseIdx_cons_succ, List.setIfInBounds_toArray, List.tail_cons] at h
    first | refine r_stN 0 h rfl (by with_reducible exact at0) ?_ ?_ (fun _ _ => nofz _) ?_ ?_ | refine r_stN 1 h rfl (by with_reducible exact at1) ?_ ?_ (fun _ _ => nofz _) ?_ ?_ | refine r_stN 2 h rfl (by with_reducible exact at2) ?_ ?_ (fun _ _ => nofz _) ?_ ?_ | refine r_stN 3 h rfl (by with_reducible exact at3) ?_ ?_ (fun _ _ => nofz _) ?_ ?_ | refine r_stN 4 h rfl (by with_reducible exact at4) ?_ ?_ (fun _ _ => nofz _) ?_ ?_ | refine r_stN 5 h rfl (by with_reducible exact at5) ?_ ?_ (fun _ _ => nofz _) ?_ ?_ | refine r_stN 6 h rfl (by with_reducible exact at6) ?_ ?_ (fun _ _ => nofz _) ?_ ?_ | refine r_stN 7 h rfl (by with_reducible exact at7) ?_ ?_ (fun _ _ => nofz _) ?_ ?_
    · rfl
    · rfl
    · simp [flatV]
    clear h
    intro w h
    try simp only [List.set_cons_zero, List.set_cons_succ, List.eraseIdx_zero, List.eraseIdx_cons_zero, List.eraseIdx_cons_succ, List.setIfInBounds_toArray, List.tail_cons] at h
    refine r_ldN h rfl (by first | (with_reducible exact List.mem_cons_self) | (with_reducible exact List.mem_cons_of_mem _ (List.mem_cons_self)) | (with_reducible exact List.mem_cons_of_mem _ (List.mem_cons_of_mem _ (List.mem_cons_self))) | (with_reducible exact List.mem_cons_of_mem _ (List.mem_cons_of_mem _ (List.mem_cons_of_mem _ (List.mem_cons_self)))) | (with_reducible exact List.mem_cons_of_mem _ (List.mem_cons_of_mem _ (List.mem_cons_of_mem _ (List.mem_cons_of_mem _ (List.mem_cons_self))))) | (with_reducible exact List.mem_cons_of_mem _ (List.mem_cons_of_mem _ (List.mem_cons_of_mem _ (List.mem_cons_of_mem _ (List.mem_cons_of_mem _ (List.mem_cons_self)))))) | (with_reducible exact List.mem_cons_of_mem _ (List.mem_cons_of_mem _ (List.mem_cons_of_mem _ (List.mem_cons_of_mem _ (List.mem_cons_of_mem _ (List.mem_cons_of_mem _ (List.mem_cons_self))))))) | (with_reducible exact List.mem_cons_of_mem _ (List.mem_cons_of_mem _ (List.mem_cons_of_mem _ (List.mem_cons_of_mem _ (List.mem_cons_of_mem _ (List.mem_cons_of_mem _ (List.mem_cons_of_mem _ (List.mem_cons_self)))))))) | (with_reducible exact List.mem_cons_of_mem _ (List.mem_cons_of_mem _ (List.mem_cons_of_mem _ (List.mem_cons_of_mem _ (List.mem_cons_of_mem _ (List.mem_cons_of_mem _ (List.mem_cons_of_mem _ (List.mem_cons_of_mem _ (List.mem_cons_self)))))))))) ?_ ?_
    · rfl
    exact hk j x rfl hx _ (MR.shuts h.tail)

/-! ### are two parcels the same? -/
abbrev pkA (p : ParcelD) (d : Sl) : Array Value := #[.int .u64 p.ep, .int .u64 p.pe, .int .u64 p.sq, .int .u64 p.ak, d.val]
theorem same_s1 {p q : ParcelD} {d e : Sl} {a b x y T1 T2 T3 T4 : Nat} {k : Bool → K}
    (h : Holds B (blk a (.cells (pcA p d) T1 (0, 0)) :: blk b (.cells (pcA q e) T2 (0, 0)) :: blk x (.cells (pkA p d) T3 (0, 0)) :: blk y (.cells (pkA q e) T4 (0, 0)) :: Γ) w)
    (h1 : RdB w d p.da) (h2 : RdB w e q.da) (hk : k (decide (p = q)) w) : ref20_Same.s1 k ⟨a, 0, none⟩ ⟨b, 0, none⟩ ⟨x, 0, none⟩ ⟨y, 0, none⟩ w := by
  have hf : p ≠ q → k false w := fun hne => by rwa [decide_eq_false hne] at hk
  unfold ref20_Same.s1 ref20_Same.s2
  simp only [add_mk, Nat.zero_add]
  refine r_ld (x := p.fr) h rfl (by first | (with_reducible exact List.mem_cons_self) | (with_reducible exact List.mem_cons_of_mem _ (List.mem_cons_self)) | (with_reducible exact List.mem_cons_of_mem _ (List.mem_cons_of_mem _ (List.mem_cons_self))) | (with_reducible exact List.mem_cons_of_mem _ (List.mem_cons_of_mem _ (List.mem_cons_of_mem _ (List.mem_cons_self)))) | (with_reducible exact List.mem_cons_of_mem _ (List.mem_cons_of_mem _ (List.mem_cons_of_mem _ (List.mem_cons_of_mem _ (List.mem_cons_self))))) | (with_reducible exact List.mem_cons_of_mem _ (List.mem_cons_of_mem _ (List.mem_cons_of_mem _ (List.mem_cons_of_mem _ (List.mem_cons_of_mem _ (List.mem_cons_self)))))) | (with_reducible exact List.mem_cons_of_mem _ (List.mem_cons_of_mem _ (List.mem_cons_of_mem _ (List.mem_cons_of_mem _ (List.mem_cons_of_mem _ (List.mem_cons_of_mem _ (List.mem_cons_self))))))) | (with_reducible exact List.mem_cons_of_mem _ (List.mem_cons_of_mem _ (List.mem_cons_of_mem _ (List.mem_cons_of_mem _ (List.mem_cons_of_mem _ (List.mem_cons_of_mem _ (List.mem_cons_of_mem _ (List.mem_cons_self)))))))) | (with_reducible exact List.mem_cons_of_mem _ (List.mem_cons_of_mem _ (List.mem_cons_of_mem _ (List.mem_cons_of_mem _ (List.mem_cons_of_mem _ (List.mem_cons_of_mem _ (List.mem_cons_of_mem _ (List.mem_cons_of_mem _ (List.mem_cons_self)))))))))) ?_ ?_
  · exact rfl
  refine r_ld (x := q.fr) h rfl (by first | (with_reducible exact List.mem_cons_self) | (with_reducible exact List.mem_cons_of_mem _ (List.mem_cons_self)) | (with_reducible exact List.mem_cons_of_mem _ (List.mem_cons_of_mem _ (List.mem_cons_self))) | (with_reducible exact List.mem_cons_of_mem _ (List.mem_cons_of_mem _ (List.mem_cons_of_mem _ (List.mem_cons_self)))) | (with_reducible exact List.mem_cons_of_mem _ (List.mem_cons_of_mem _ (List.mem_cons_of_mem _ (List.mem_cons_of_mem _ (List.mem_cons_self))))) | (with_reducible exact List.mem_cons_of_mem _ (List.mem_cons_of_mem _ (List.mem_cons_of_mem _ (List.mem_cons_of_mem _ (List.mem_cons_of_mem _ (List.mem_cons_self)))))) | (with_reducible exact List.mem_cons_of_mem _ (List.mem_cons_of_mem _ (List.mem_cons_of_mem _ (List.mem_cons_of_mem _ (List.mem_cons_of_mem _ (List.mem_cons_of_mem _ (List.mem_cons_self))))))) | (with_reducible exact List.mem_cons_of_mem _ (List.mem_cons_of_mem _ (List.mem_cons_of_mem _ (List.mem_cons_of_mem _ (List.mem_cons_of_mem _ (List.mem_cons_of_mem _ (List.mem_cons_of_mem _ (List.mem_cons_self)))))))) | (with_reducible exact List.mem_cons_of_mem _ (List.mem_cons_of_mem _ (List.mem_cons_of_mem _ (List.mem_cons_of_mem _ (List.mem_cons_of_mem _ (List.mem_cons_of_mem _ (List.mem_cons_of_mem _ (List.mem_cons_of_mem _ (List.mem_cons_self)))))))))) ?_ ?_
  · exact rfl
  refine r_ite (fun hb1 => ?_) (fun hb => hf (fun e => by subst e; simp at hb))
  refine r_ld (x := p.to) h rfl (by first | (with_reducible exact List.mem_cons_self) | (with_reducible exact List.mem_cons_of_mem _ (List.mem_cons_self)) | (with_reducible exact List.mem_cons_of_mem _ (List.mem_cons_of_mem _ (List.mem_cons_self))) | (with_reducible exact List.mem_cons_of_mem _ (List.mem_cons_of_mem _ (List.mem_cons_of_mem _ (List.mem_cons_self)))) | (with_reducible exact List.mem_cons_of_mem _ (List.mem_cons_of_mem _ (List.mem_cons_of_mem _ (List.mem_cons_of_mem _ (List.mem_cons_self))))) | (with_reducible exact List.mem_cons_of_mem _ (List.mem_cons_of_mem _ (List.mem_cons_of_mem _ (List.mem_cons_of_mem _ (List.mem_cons_of_mem _ (List.mem_cons_self)))))) | (with_reducible exact List.mem_cons_of_mem _ (List.mem_cons_of_mem _ (List.mem_cons_of_mem _ (List.mem_cons_of_mem _ (List.mem_cons_of_mem _ (List.mem_cons_of_mem _ (List.mem_cons_self))))))) | (with_reducible exact List.mem_cons_of_mem _ (List.mem_cons_of_mem _ (List.mem_cons_of_mem _ (List.mem_cons_of_mem _ (List.mem_cons_of_mem _ (List.mem_cons_of_mem _ (List.mem_cons_of_mem _ (List.mem_cons_self)))))))) | (with_reducible exact List.mem_cons_of_mem _ (List.mem_cons_of_mem _ (List.mem_cons_of_mem _ (List.mem_cons_of_mem _ (List.mem_cons_of_mem _ (List.mem_cons_of_mem _ (List.mem_cons_of_mem _ (List.mem_cons_of_mem _ (List.mem_cons_self)))))))))) ?_ ?_
  · exact rfl
  refine r_ld (x := q.to) h rfl (by first | (with_reducible exact List.mem_cons_self) | (with_reducible exact List.mem_cons_of_mem _ (List.mem_cons_self)) | (with_reducible exact List.mem_cons_of_mem _ (List.mem_cons_of_mem _ (List.mem_cons_self))) | (with_reducible exact List.mem_cons_of_mem _ (List.mem_cons_of_mem _ (List.mem_cons_of_mem _ (List.mem_cons_self)))) | (with_reducible exact List.mem_cons_of_mem _ (List.mem_cons_of_mem _ (List.mem_cons_of_mem _ (List.mem_cons_of_mem _ (List.mem_cons_self))))) | (with_reducible exact List.mem_cons_of_mem _ (List.mem_cons_of_mem _ (List.mem_cons_of_mem _ (List.mem_cons_of_mem _ (List.mem_cons_of_mem _ (List.mem_cons_self)))))) | (with_reducible exact List.mem_cons_of_mem _ (List.mem_cons_of_mem _ (List.mem_cons_of_mem _ (List.mem_cons_of_mem _ (List.mem_cons_of_mem _ (List.mem_cons_of_mem _ (List.mem_cons_self))))))) | (with_reducible exact List.mem_cons_of_mem _ (List.mem_cons_of_mem _ (List.mem_cons_of_mem _ (List.mem_cons_of_mem _ (List.mem_cons_of_mem _ (List.mem_cons_of_mem _ (List.mem_cons_of_mem _ (List.mem_cons_self)))))))) | (with_reducible exact List.mem_cons_of_mem _ (List.mem_cons_of_mem _ (List.mem_cons_of_mem _ (List.mem_cons_of_mem _ (List.mem_cons_of_mem _ (List.mem_cons_of_mem _ (List.mem_cons_of_mem _ (List.mem_cons_of_mem _ (List.mem_cons_self)))))))))) ?_ ?_
  · exact rfl
  refine r_ite (fun hb2 => ?_) (fun hb => hf (fun e => by subst e; simp at hb))
  refine r_ld (x := p.ep) h rfl (by first | (with_reducible exact List.mem_cons_self) | (with_reducible exact List.mem_cons_of_mem _ (List.mem_cons_self)) | (with_reducible exact List.mem_cons_of_mem _ (List.mem_cons_of_mem _ (List.mem_cons_self))) | (with_reducible exact List.mem_cons_of_mem _ (List.mem_cons_of_mem _ (List.mem_cons_of_mem _ (List.mem_cons_self)))) | (with_reducible exact List.mem_cons_of_mem _ (List.mem_cons_of_mem _ (List.mem_cons_of_mem _ (List.mem_cons_of_mem _ (List.mem_cons_self))))) | (with_reducible exact List.mem_cons_of_mem _ (List.mem_cons_of_mem _ (List.mem_cons_of_mem _ (List.mem_cons_of_mem _ (List.mem_cons_of_mem _ (List.mem_cons_self)))))) | (with_reducible exact List.mem_cons_of_mem _ (List.mem_cons_of_mem _ (List.mem_cons_of_mem _ (List.mem_cons_of_mem _ (List.mem_cons_of_mem _ (List.mem_cons_of_mem _ (List.mem_cons_self))))))) | (with_reducible exact List.mem_cons_of_mem _ (List.mem_cons_of_mem _ (List.mem_cons_of_mem _ (List.mem_cons_of_mem _ (List.mem_cons_of_mem _ (List.mem_cons_of_mem _ (List.mem_cons_of_mem _ (List.mem_cons_self)))))))) | (with_reducible exact List.mem_cons_of_mem _ (List.mem_cons_of_mem _ (List.mem_cons_of_mem _ (List.mem_cons_of_mem _ (List.mem_cons_of_mem _ (List.mem_cons_of_mem _ (List.mem_cons_of_mem _ (List.mem_cons_of_mem _ (List.mem_cons_self)))))))))) ?_ ?_
  · exact rfl
  refine r_ld (x := q.ep) h rfl (by first | (with_reducible exact List.mem_cons_self) | (with_reducible exact List.mem_cons_of_mem _ (List.mem_cons_self)) | (with_reducible exact List.mem_cons_of_mem _ (List.mem_cons_of_mem _ (List.mem_cons_self))) | (with_reducible exact List.mem_cons_of_mem _ (List.mem_cons_of_mem _ (List.mem_cons_of_mem _ (List.mem_cons_self)))) | (with_reducible exact List.mem_cons_of_mem _ (List.mem_cons_of_mem _ (List.mem_cons_of_mem _ (List.mem_cons_of_mem _ (List.mem_cons_self))))) | (with_reducible exact List.mem_cons_of_mem _ (List.mem_cons_of_mem _ (List.mem_cons_of_mem _ (List.mem_cons_of_mem _ (List.mem_cons_of_mem _ (List.mem_cons_self)))))) | (with_reducible exact List.mem_cons_of_mem _ (List.mem_cons_of_mem _ (List.mem_cons_of_mem _ (List.mem_cons_of_mem _ (List.mem_cons_of_mem _ (List.mem_cons_of_mem _ (List.mem_cons_self))))))) | (with_reducible exact List.mem_cons_of_mem _ (List.mem_cons_of_mem _ (List.mem_cons_of_mem _ (List.mem_cons_of_mem _ (List.mem_cons_of_mem _ (List.mem_cons_of_mem _ (List.mem_cons_of_mem _ (List.mem_cons_self)))))))) | (with_reducible exact List.mem_cons_of_mem _ (List.mem_cons_of_mem _ (List.mem_cons_of_mem _ (List.mem_cons_of_mem _ (List.mem_cons_of_mem _ (List.mem_cons_of_mem _ (List.mem_cons_of_mem _ (List.mem_cons_of_mem _ (List.mem_cons_self)))))))))) ?_ ?_
  · exact rfl
  refine r_ite (fun hb3 => ?_) (fun hb => hf (fun e => by subst e; simp at hb))
  refine r_ld (x := p.pe) h rfl (by first | (with_reducible exact List.mem_cons_self) | (with_reducible exact List.mem_cons_of_mem _ (List.mem_cons_self)) | (with_reducible exact List.mem_cons_of_mem _ (List.mem_cons_of_mem _ (List.mem_cons_self))) | (with_reducible exact List.mem_cons_of_mem _ (List.mem_cons_of_mem _ (List.mem_cons_of_mem _ (List.mem_cons_self)))) | (with_reducible exact List.mem_cons_of_mem _ (List.mem_cons_of_mem _ (List.mem_cons_of_mem _ (List.mem_cons_of_mem _ (List.mem_cons_self))))) | (with_reducible exact List.mem_cons_of_mem _ (List.mem_cons_of_mem _ (List.mem_cons_of_mem _ (List.mem_cons_of_mem _ (List.mem_cons_of_mem _ (List.mem_cons_self)))))) | (with_reducible exact List.mem_cons_of_mem _ (List.mem_cons_of_mem _ (List.mem_cons_of_mem _ (List.mem_cons_of_mem _ (List.mem_cons_of_mem _ (List.mem_cons_of_mem _ (List.mem_cons_self))))))) | (with_reducible exact List.mem_cons_of_mem _ (List.mem_cons_of_mem _ (List.mem_cons_of_mem _ (List.mem_cons_of_mem _ (List.mem_cons_of_mem _ (List.mem_cons_of_mem _ (List.mem_cons_of_mem _ (List.mem_cons_self)))))))) | (with_reducible exact List.mem_cons_of_mem _ (List.mem_cons_of_mem _ (List.mem_cons_of_mem _ (List.mem_cons_of_mem _ (List.mem_cons_of_mem _ (List.mem_cons_of_mem _ (List.mem_cons_of_mem _ (List.mem_cons_of_mem _ (List.mem_cons_self)))))))))) ?_ ?_
  · exact rfl
  refine r_ld (x := q.pe) h rfl (by first | (with_reducible exact List.mem_cons_self) | (with_reducible exact List.mem_cons_of_mem _ (List.mem_cons_self)) | (with_reducible exact List.mem_cons_of_mem _ (List.mem_cons_of_mem _ (List.mem_cons_self))) | (with_reducible exact List.mem_cons_of_mem _ (List.mem_cons_of_mem _ (List.mem_cons_of_mem _ (List.mem_cons_self)))) | (with_reducible exact List.mem_cons_of_mem _ (List.mem_cons_of_mem _ (List.mem_cons_of_mem _ (List.mem_cons_of_mem _ (List.mem_cons_self))))) | (with_reducible exact List.mem_cons_of_mem _ (List.mem_cons_of_mem _ (List.mem_cons_of_mem _ (List.mem_cons_of_mem _ (List.mem_cons_of_mem _ (List.mem_cons_self)))))) | (with_reducible exact List.mem_cons_of_mem _ (List.mem_cons_of_mem _ (List.mem_cons_of_mem _ (List.mem_cons_of_mem _ (List.mem_cons_of_mem _ (List.mem_cons_of_mem _ (List.mem_cons_self))))))) | (with_reducible exact List.mem_cons_of_mem _ (List.mem_cons_of_mem _ (List.mem_cons_of_mem _ (List.mem_cons_of_mem _ (List.mem_cons_of_mem _ (List.mem_cons_of_mem _ (List.mem_cons_of_mem _ (List.mem_cons_self)))))))) | (with_reducible exact List.mem_cons_of_mem _ (List.mem_cons_of_mem _ (List.mem_cons_of_mem _ (List.mem_cons_of_mem _ (List.mem_cons_of_mem _ (List.mem_cons_of_mem _ (List.mem_cons_of_mem _ (List.mem_cons_of_mem _ (List.mem_cons_self)))))))))) ?_ ?_
  · exact rfl
  refine r_ite (fun hb4 => ?_) (fun hb => hf (fun e => by subst e; simp at hb))
  refine r_ld (x := p.sq) h rfl (by first | (with_reducible exact List.mem_cons_self) | (with_reducible exact List.mem_cons_of_mem _ (List.mem_cons_self)) | (with_reducible exact List.mem_cons_of_mem _ (List.mem_cons_of_mem _ (List.mem_cons_self))) | (with_reducible exact List.mem_cons_of_mem _ (List.mem_cons_of_mem _ (List.mem_cons_of_mem _ (List.mem_cons_self)))) | (with_reducible exact List.mem_cons_of_mem _ (List.mem_cons_of_mem _ (List.mem_cons_of_mem _ (List.mem_cons_of_mem _ (List.mem_cons_self))))) | (with_reducible exact List.mem_cons_of_mem _ (List.mem_cons_of_mem _ (List.mem_cons_of_mem _ (List.mem_cons_of_mem _ (List.mem_cons_of_mem _ (List.mem_cons_self)))))) | (with_reducible exact List.mem_cons_of_mem _ (List.mem_cons_of_mem _ (List.mem_cons_of_mem _ (List.mem_cons_of_mem _ (List.mem_cons_of_mem _ (List.mem_cons_of_mem _ (List.mem_cons_self))))))) | (with_reducible exact List.mem_cons_of_mem _ (List.mem_cons_of_mem _ (List.mem_cons_of_mem _ (List.mem_cons_of_mem _ (List.mem_cons_of_mem _ (List.mem_cons_of_mem _ (List.mem_cons_of_mem _ (List.mem_cons_self)))))))) | (with_reducible exact List.mem_cons_of_mem _ (List.mem_cons_of_mem _ (List.mem_cons_of_mem _ (List.mem_cons_of_mem _ (List.mem_cons_of_mem _ (List.mem_cons_of_mem _ (List.mem_cons_of_mem _ (List.mem_cons_of_mem _ (List.mem_cons_self)))))))))) ?_ ?_
  · exact rfl
  refine r_ld (x := q.sq) h rfl (by first | (with_reducible exact List.mem_cons_self) | (with_reducible exact List.mem_cons_of_mem _ (List.mem_cons_self)) | (with_reducible exact List.mem_cons_of_mem _ (List.mem_cons_of_mem _ (List.mem_cons_self))) | (with_reducible exact List.mem_cons_of_mem _ (List.mem_cons_of_mem _ (List.mem_cons_of_mem _ (List.mem_cons_self)))) | (with_reducible exact List.mem_cons_of_mem _ (List.mem_cons_of_mem _ (List.mem_cons_of_mem _ (List.mem_cons_of_mem _ (List.mem_cons_self))))) | (with_reducible exact List.mem_cons_of_mem _ (List.mem_cons_of_mem _ (List.mem_cons_of_mem _ (List.mem_cons_of_mem _ (List.mem_cons_of_mem _ (List.mem_cons_self)))))) | (with_reducible exact List.mem_cons_of_mem _ (List.mem_cons_of_mem _ (List.mem_cons_of_mem _ (List.mem_cons_of_mem _ (List.mem_cons_of_mem _ (List.mem_cons_of_mem _ (List.mem_cons_self))))))) | (with_reducible exact List.mem_cons_of_mem _ (List.mem_cons_of_mem _ (List.mem_cons_of_mem _ (List.mem_cons_of_mem _ (List.mem_cons_of_mem _ (List.mem_cons_of_mem _ (List.mem_cons_of_mem _ (List.mem_cons_self)))))))) | (with_reducible exact List.mem_cons_of_mem _ (List.mem_cons_of_mem _ (List.mem_cons_of_mem _ (List.mem_cons_of_mem _ (List.mem_cons_of_mem _ (List.mem_cons_of_mem _ (List.mem_cons_of_mem _ (List.mem_cons_of_mem _ (List.mem_cons_self)))))))))) ?_ ?_
  · exact rfl
  refine r_ite (fun hb5 => ?_) (fun hb => hf (fun e => by subst e; simp at hb))
  refine r_ld (x := p.ak) h rfl (by first | (with_reducible exact List.mem_cons_self) | (with_reducible exact List.mem_cons_of_mem _ (List.mem_cons_self)) | (with_reducible exact List.mem_cons_of_mem _ (List.mem_cons_of_mem _ (List.mem_cons_self))) | (with_reducible exact List.mem_cons_of_mem _ (List.mem_cons_of_mem _ (List.mem_cons_of_mem _ (List.mem_cons_self)))) | (with_reducible exact List.mem_cons_of_mem _ (List.mem_cons_of_mem _ (List.mem_cons_of_mem _ (List.mem_cons_of_mem _ (List.mem_cons_self))))) | (with_reducible exact List.mem_cons_of_mem _ (List.mem_cons_of_mem _ (List.mem_cons_of_mem _ (List.mem_cons_of_mem _ (List.mem_cons_of_mem _ (List.mem_cons_self)))))) | (with_reducible exact List.mem_cons_of_mem _ (List.mem_cons_of_mem _ (List.mem_cons_of_mem _ (List.mem_cons_of_mem _ (List.mem_cons_of_mem _ (List.mem_cons_of_mem _ (List.mem_cons_self))))))) | (with_reducible exact List.mem_cons_of_mem _ (List.mem_cons_of_mem _ (List.mem_cons_of_mem _ (List.mem_cons_of_mem _ (List.mem_cons_of_mem _ (List.mem_cons_of_mem _ (List.mem_cons_of_mem _ (List.mem_cons_self)))))))) | (with_reducible exact List.mem_cons_of_mem _ (List.mem_cons_of_mem _ (List.mem_cons_of_mem _ (List.mem_cons_of_mem _ (List.mem_cons_of_mem _ (List.mem_cons_of_mem _ (List.mem_cons_of_mem _ (List.mem_cons_of_mem _ (List.mem_cons_self)))))))))) ?_ ?_
  · exact rfl
  refine r_ld (x := q.ak) h rfl (by first | (with_reducible exact List.mem_cons_self) | (with_reducible exact List.mem_cons_of_mem _ (List.mem_cons_self)) | (with_reducible exact List.mem_cons_of_mem _ (List.mem_cons_of_mem _ (List.mem_cons_self))) | (with_reducible exact List.mem_cons_of_mem _ (List.mem_cons_of_mem _ (List.mem_cons_of_mem _ (List.mem_cons_self)))) | (with_reducible exact List.mem_cons_of_mem _ (List.mem_cons_of_mem _ (List.mem_cons_of_mem _ (List.mem_cons_of_mem _ (List.mem_cons_self))))) | (with_reducible exact List.mem_cons_of_mem _ (List.mem_cons_of_mem _ (List.mem_cons_of_mem _ (List.mem_cons_of_mem _ (List.mem_cons_of_mem _ (List.mem_cons_self)))))) | (with_reducible exact List.mem_cons_of_mem _ (List.mem_cons_of_mem _ (List.mem_cons_of_mem _ (List.mem_cons_of_mem _ (List.mem_cons_of_mem _ (List.mem_cons_of_mem _ (List.mem_cons_self))))))) | (with_reducible exact List.mem_cons_of_mem _ (List.mem_cons_of_mem _ (List.mem_cons_of_mem _ (List.mem_cons_of_mem _ (List.mem_cons_of_mem _ (List.mem_cons_of_mem _ (List.mem_cons_of_mem _ (List.mem_cons_self)))))))) | (with_reducible exact List.mem_cons_of_mem _ (List.mem_cons_of_mem _ (List.mem_cons_of_mem _ (List.mem_cons_of_mem _ (List.mem_cons_of_mem _ (List.mem_cons_of_mem _ (List.mem_cons_of_mem _ (List.mem_cons_of_mem _ (List.mem_cons_self)))))))))) ?_ ?_
  · exact rfl
  refine r_ite (fun hb6 => ?_) (fun hb => hf (fun e => by subst e; simp at hb))
  refine r_ld (x := d) h rfl (by first | (with_reducible exact List.mem_cons_self) | (with_reducible exact List.mem_cons_of_mem _ (List.mem_cons_self)) | (with_reducible exact List.mem_cons_of_mem _ (List.mem_cons_of_mem _ (List.mem_cons_self))) | (with_reducible exact List.mem_cons_of_mem _ (List.mem_cons_of_mem _ (List.mem_cons_of_mem _ (List.mem_cons_self)))) | (with_reducible exact List.mem_cons_of_mem _ (List.mem_cons_of_mem _ (List.mem_cons_of_mem _ (List.mem_cons_of_mem _ (List.mem_cons_self))))) | (with_reducible exact List.mem_cons_of_mem _ (List.mem_cons_of_mem _ (List.mem_cons_of_mem _ (List.mem_cons_of_mem _ (List.mem_cons_of_mem _ (List.mem_cons_self)))))) | (with_reducible exact List.mem_cons_of_mem _ (List.mem_cons_of_mem _ (List.mem_cons_of_mem _ (List.mem_cons_of_mem _ (List.mem_cons_of_mem _ (List.mem_cons_of_mem _ (List.mem_cons_self))))))) | (with_reducible exact List.mem_cons_of_mem _ (List.mem_cons_of_mem _ (List.mem_cons_of_mem _ (List.mem_cons_of_mem _ (List.mem_cons_of_mem _ (List.mem_cons_of_mem _ (List.mem_cons_of_mem _ (List.mem_cons_self)))))))) | (with_reducible exact List.mem_cons_of_mem _ (List.mem_cons_of_mem _ (List.mem_cons_of_mem _ (List.mem_cons_of_mem _ (List.mem_cons_of_mem _ (List.mem_cons_of_mem _ (List.mem_cons_of_mem _ (List.mem_cons_of_mem _ (List.mem_cons_self)))))))))) ?_ ?_
  · exact rfl
  refine r_str (by kernel_rfl) h1 ?_
  refine r_ld (x := e) h rfl (by first | (with_reducible exact List.mem_cons_self) | (with_reducible exact List.mem_cons_of_mem _ (List.mem_cons_self)) | (with_reducible exact List.mem_cons_of_mem _ (List.mem_cons_of_mem _ (List.mem_cons_self))) | (with_reducible exact List.mem_cons_of_mem _ (List.mem_cons_of_mem _ (List.mem_cons_of_mem _ (List.mem_cons_self)))) | (with_reducible exact List.mem_cons_of_mem _ (List.mem_cons_of_mem _ (List.mem_cons_of_mem _ (List.mem_cons_of_mem _ (List.mem_cons_self))))) | (with_reducible exact List.mem_cons_of_mem _ (List.mem_cons_of_mem _ (List.mem_cons_of_mem _ (List.mem_cons_of_mem _ (List.mem_cons_of_mem _ (List.mem_cons_self)))))) | (with_reducible exact List.mem_cons_of_mem _ (List.mem_cons_of_mem _ (List.mem_cons_of_mem _ (List.mem_cons_of_mem _ (List.mem_cons_of_mem _ (List.mem_cons_of_mem _ (List.mem_cons_self))))))) | (with_reducible exact List.mem_cons_of_mem _ (List.mem_cons_of_mem _ (List.mem_cons_of_mem _ (List.mem_cons_of_mem _ (List.mem_cons_of_mem _ (List.mem_cons_of_mem _ (List.mem_cons_of_mem _ (List.mem_cons_self)))))))) | (with_reducible exact List.mem_cons_of_mem _ (List.mem_cons_of_mem _ (List.mem_cons_of_mem _ (List.mem_cons_of_mem _ (List.mem_cons_of_mem _ (List.mem_cons_of_mem _ (List.mem_cons_of_mem _ (List.mem_cons_of_mem _ (List.mem_cons_self)))))))))) ?_ ?_
  · exact rfl
  refine r_str (by kernel_rfl) h2 ?_
  rw [str_toList, str_toList]
  have e : (p.da == q.da) = decide (p = q) := by
    obtain ⟨a1, a2, a3, a4, a5, a6, a7⟩ := p
    obtain ⟨c1, c2, c3, c4, c5, c6, c7⟩ := q
    simp only [decide_eq_true_eq] at hb1 hb2 hb3 hb4 hb5 hb6
    subst hb1; subst hb2; subst hb3; subst hb4; subst hb5; subst hb6
    by_cases hq : a7 = c7 <;> simp [hq]
  rw [e]; exact hk

theorem ref_Same_spec {p q : ParcelD} {d e : Sl} {k : Bool → K} (h : Holds B Γ w) (h1 : ∀ w, Holds B Γ w → RdB w d p.da) (h2 : ∀ w, Holds B Γ w → RdB w e q.da)
    (hk : ∀ w, Holds B Γ w → k (decide (p = q)) w) : ref20_Same.call (pcA p d) (pcA q e) k w := by
  refine ref20_Same_ok _ _ _ _ ?_
  unfold ref20_Same
  refine r_new h ?_
  clear h
  intro a2 w h
  try simp only [add_mk, Nat.zero_add, Nat.reduceAdd]
  refine r_new h ?_
  clear h
  intro b3 w h
  try simp only [add_mk, Nat.zero_add, Nat.reduceAdd]
  refine r_dr h ?_
  clear h
  intro w h
  refine r_withS h ?_
  refine r_ldNS_of (cs := pkA p d) rfl (fun w h => rdN_block (h.blockOf (by first | (with_reducible exact List.mem_cons_self) | (with_reducible exact List.mem_cons_of_mem _ (List.mem_cons_self)) | (with_reducible exact List.mem_cons_of_mem _ (List.mem_cons_of_mem _ (List.mem_cons_self))) | (with_reducible exact List.mem_cons_of_mem _ (List.mem_cons_of_mem _ (List.mem_cons_of_mem _ (List.mem_cons_self)))) | (with_reducible exact List.mem_cons_of_mem _ (List.mem_cons_of_mem _ (List.mem_cons_of_mem _ (List.mem_cons_of_mem _ (List.mem_cons_self))))) | (with_reducible exact List.mem_cons_of_mem _ (List.mem_cons_of_mem _ (List.mem_cons_of_mem _ (List.mem_cons_of_mem _ (List.mem_cons_of_mem _ (List.mem_cons_self)))))) | (with_reducible exact List.mem_cons_of_mem _ (List.mem_cons_of_mem _ (List.mem_cons_of_mem _ (List.mem_cons_of_mem _ (List.mem_cons_of_mem _ (List.mem_cons_of_mem _ (List.mem_cons_self))))))) | (with_reducible exact List.mem_cons_of_mem _ (List.mem_cons_of_mem _ (List.mem_cons_of_mem _ (List.mem_cons_of_mem _ (List.mem_cons_of_mem _ (List.mem_cons_of_mem _ (List.mem_cons_of_mem _ (List.mem_cons_self)))))))) | (with_reducible exact List.mem_cons_of_mem _ (List.mem_cons_of_mem _ (List.mem_cons_of_mem _ (List.mem_cons_of_mem _ (List.mem_cons_of_mem _ (List.mem_cons_of_mem _ (List.mem_cons_of_mem _ (List.mem_cons_of_mem _ (List.mem_cons_self))))))))))) (by
    intro i hi
    match i, hi with
    | 0, _ => rfl
    | 1, _ => rfl
    | 2, _ => rfl
    | 3, _ => rfl
    | 4, _ => rfl)) ?_
  refine r_ldNS_of (cs := pkA q e) rfl (fun w h => rdN_block (h.blockOf (by first | (with_reducible exact List.mem_cons_self) | (with_reducible exact List.mem_cons_of_mem _ (List.mem_cons_self)) | (with_reducible exact List.mem_cons_of_mem _ (List.mem_cons_of_mem _ (List.mem_cons_self))) | (with_reducible exact List.mem_cons_of_mem _ (List.mem_cons_of_mem _ (List.mem_cons_of_mem _ (List.mem_cons_self)))) | (with_reducible exact List.mem_cons_of_mem _ (List.mem_cons_of_mem _ (List.mem_cons_of_mem _ (List.mem_cons_of_mem _ (List.mem_cons_self))))) | (with_reducible exact List.mem_cons_of_mem _ (List.mem_cons_of_mem _ (List.mem_cons_of_mem _ (List.mem_cons_of_mem _ (List.mem_cons_of_mem _ (List.mem_cons_self)))))) | (with_reducible exact List.mem_cons_of_mem _ (List.mem_cons_of_mem _ (List.mem_cons_of_mem _ (List.mem_cons_of_mem _ (List.mem_cons_of_mem _ (List.mem_cons_of_mem _ (List.mem_cons_self))))))) | (with_reducible exact List.mem_cons_of_mem _ (List.mem_cons_of_mem _ (List.mem_cons_of_mem _ (List.mem_cons_of_mem _ (List.mem_cons_of_mem _ (List.mem_cons_of_mem _ (List.mem_cons_of_mem _ (List.mem_cons_self)))))))) | (with_reducible exact List.mem_cons_of_mem _ (List.mem_cons_of_mem _ (List.mem_cons_of_mem _ (List.mem_cons_of_mem _ (List.mem_cons_of_mem _ (List.mem_cons_of_mem _ (List.mem_cons_of_mem _ (List.mem_cons_of_mem _ (List.mem_cons_self))))))))))) (by
    intro i hi
    match i, hi with
    | 0, _ => rfl
    | 1, _ => rfl
    | 2, _ => rfl
    | 3, _ => rfl
    | 4, _ => rfl)) ?_
  refine all_cons ?_ (all_cons ?_ all_nil)
  · refine r_new h ?_
    clear h
    intro x5 w h
    try simp only [add_mk, Nat.zero_add, Nat.reduceAdd]
    refine r_sv h.tail ?_
    refine r_new h ?_
    clear h
    intro y6 w h
    try simp only [add_mk, Nat.zero_add, Nat.reduceAdd]
    refine r_sv h.tail.tail ?_
    replace h := h.swap
    first | refine r_stN 0 h rfl (by with_reducible exact at0) ?_ ?_ (fun _ _ => nofz _) ?_ ?_ | refine r_stN 1 h rfl (by with_reducible exact at1) ?_ ?_ (fun _ _ => nofz _) ?_ ?_ | refine r_stN 2 h rfl (by with_reducible exact at2) ?_ ?_ (fun _ _ => nofz _) ?_ ?_ | refine r_stN 3 h rfl (by with_reducible exact at3) ?_ ?_ (fun _ _ => nofz _) ?_ ?_ | refine r_stN 4 h rfl (by with_reducible exact at4) ?_ ?_ (fun _ _ => nofz _) ?_ ?_ | refine r_stN 5 h rfl (by with_reducible exact at5) ?_ ?_ (fun _ _ => nofz _) ?_ ?_ | refine r_stN 6 h rfl (by with_reducible exact at6) ?_ ?_ (fun _ _ => nofz _) ?_ ?_ | refine r_stN 7 h rfl (by with_reducible exact at7) ?_ ?_ (fun _ _ => nofz _) ?_ ?_
    · rfl
    · rfl
    · simp [flatV]
    clear h
    intro w h
    try simp only [List.set_cons_zero, List.set_cons_succ, List.eraseIdx_zero, List.eraseIdx_cons_zero, List.eraseIdx_cons_succ, List.setIfInBounds_toArray, List.tail_cons] at h
    refine r_sv h.tail.tail ?_
    replace h := h.swap
    first | refine r_stN 0 h rfl (by with_reducible exact at0) ?_ ?_ (fun _ _ => nofz _) ?_ ?_ | refine r_stN 1 h rfl (by with_reducible exact at1) ?_ ?_ (fun _ _ => nofz _) ?_ ?_ | refine r_stN 2 h rfl (by with_reducible exact at2) ?_ ?_ (fun _ _ => nofz _) ?_ ?_ | refine r_stN 3 h rfl (by with_reducible exact at3) ?_ ?_ (fun _ _ => nofz _) ?_ ?_ | refine r_stN 4 h rfl (by with_reducible exact at4) ?_ ?_ (fun _ _ => nofz _) ?_ ?_ | refine r_stN 5 h rfl (by with_reducible exact at5) ?_ ?_ (fun _ _ => nofz _) ?_ ?_ | refine r_stN 6 h rfl (by with_reducible exact at6) ?_ ?_ (fun _ _ => nofz _) ?_ ?_ | refine r_stN 7 h rfl (by with_reducible exact at7) ?_ ?_ (fun _ _ => nofz _) ?_ ?_
    · rfl
    · rfl
    · simp [flatV]
    clear h
    intro w h
    try simp only [List.set_cons_zero, List.set_cons_succ, List.eraseIdx_zero, List.eraseIdx_cons_zero, List.eraseIdx_cons_succ, List.setIfInBounds_toArray, List.tail_cons] at h
    replace h := h.pick 1 at1
    try simp only [List.set_cons_zero, List.set_cons_succ, List.eraseIdx_zero, List.eraseIdx_cons_zero, List.eraseIdx_cons_succ, List.setIfInBounds_toArray, List.tail_cons] at h
    replace h := h.pick 2 at2
    try simp only [List.set_cons_zero, List.set_cons_succ, List.eraseIdx_zero, List.eraseIdx_cons_zero, List.eraseIdx_cons_succ, List.setIfInBounds_toArray, List.tail_cons] at h
    replace h := h.pick 3 at3
    try simp only [List.set_cons_zero, List.set_cons_succ, List.eraseIdx_zero, List.eraseIdx_cons_zero, List.eraseIdx_cons_succ, List.setIfInBounds_toArray, List.tail_cons] at h
    have h0 := h.tail.tail.tail.tail
    exact same_s1 h (h1 _ h0) (h2 _ h0) (hk _ h0)
  · refine r_new h ?_
    clear h
    intro y6 w h
    try simp only [add_mk, Nat.zero_add, Nat.reduceAdd]
    refine r_sv h.tail ?_
    refine r_new h ?_
    clear h
    intro x5 w h
    try simp only [add_mk, Nat.zero_add, Nat.reduceAdd]
    refine r_sv h.tail.tail ?_
    first | refine r_stN 0 h rfl (by with_reducible exact at0) ?_ ?_ (fun _ _ => nofz _) ?_ ?_ | refine r_stN 1 h rfl (by with_reducible exact at1) ?_ ?_ (fun _ _ => nofz _) ?_ ?_ | refine r_stN 2 h rfl (by with_reducible exact at2) ?_ ?_ (fun _ _ => nofz _) ?_ ?_ | refine r_stN 3 h rfl (by with_reducible exact at3) ?_ ?_ (fun _ _ => nofz _) ?_ ?_ | refine r_stN 4 h rfl (by with_reducible exact at4) ?_ ?_ (fun _ _ => nofz _) ?_ ?_ | refine r_stN 5 h rfl (by with_reducible exact at5) ?_ ?_ (fun _ _ => nofz _) ?_ ?_ | refine r_stN 6 h rfl (by with_reducible exact at6) ?_ ?_ (fun _ _ => nofz _) ?_ ?_ | refine r_stN 7 h rfl (by with_reducible exact at7) ?_ ?_ (fun _ _ => nofz _) ?_ ?_
    · rfl
    · rfl
    · simp [flatV]
    clear h
    intro w h
    try simp only [List.set_cons_zero, List.set_cons_succ, List.eraseIdx_zero, List.eraseIdx_cons_zero, List.eraseIdx_cons_succ, List.setIfInBounds_toArray, List.tail_cons] at h
    refine r_sv h.tail.tail ?_
    replace h := h.swap
    first | refine r_stN 0 h rfl (by with_reducible exact at0) ?_ ?_ (fun _ _ => nofz _) ?_ ?_ | refine r_stN 1 h rfl (by with_reducible exact at1) ?_ ?_ (fun _ _ => nofz _) ?_ ?_ | refine r_stN 2 h rfl (by with_reducible exact at2) ?_ ?_ (fun _ _ => nofz _) ?_ ?_ | refine r_stN 3 h rfl (by with_reducible exact at3) ?_ ?_ (fun _ _ => nofz _) ?_ ?_ | refine r_stN 4 h rfl (by with_reducible exact at4) ?_ ?_ (fun _ _ => nofz _) ?_ ?_ | refine r_stN 5 h rfl (by with_reducible exact at5) ?_ ?_ (fun _ _ => nofz _) ?_ ?_ | refine r_stN 6 h rfl (by with_reducible exact at6) ?_ ?_ (fun _ _ => nofz _) ?_ ?_ | refine r_stN 7 h rfl (by with_reducible exact at7) ?_ ?_ (fun _ _ => nofz _) ?_ ?_
    · rfl
    · rfl
    · simp [flatV]
    clear h
    intro w h
    try simp only [List.set_cons_zero, List.set_cons_succ, List.eraseIdx_zero, List.eraseIdx_cons_zero, List.eraseIdx_cons_succ, List.setIfInBounds_toArray, List.tail_cons] at h
    replace h := h.pick 1 at1
    try simp only [List.set_cons_zero, List.set_cons_succ, List.eraseIdx_zero, List.eraseIdx_cons_zero, List.eraseIdx_cons_succ, List.setIfInBounds_toArray, List.tail_cons] at h
    replace h := h.pick 2 at2
    try simp only [List.set_cons_zero, List.set_cons_succ, List.eraseIdx_zero, List.eraseIdx_cons_zero, List.eraseIdx_cons_succ, List.setIfInBounds_toArray, List.tail_cons] at h
    replace h := h.pick 3 at3
    try simp only [List.set_cons_zero, List.set_cons_succ, List.eraseIdx_zero, List.eraseIdx_cons_zero, List.eraseIdx_cons_succ, List.setIfInBounds_toArray, List.tail_cons] at h
    have h0 := h.tail.tail.tail.tail
    exact same_s1 h (h1 _ h0) (h2 _ h0) (hk _ h0)
end
end Go.Proofs.Ytilejcnbacmdnaa
