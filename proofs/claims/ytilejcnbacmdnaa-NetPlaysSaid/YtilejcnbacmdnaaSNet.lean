/- The net: what its functions do to a list of parcels. -/
import Derived.Test.YtilejcnbacmdnaaSlices
import Derived.Test.YtilejcnbacmdnaaRow
import Derived.Test.YtilejcnbacmdnaaSBytes
import Derived.Test.YtilejcnbacmdnaaIRNet
import Derived.Test.YtilejcnbacmdnaaIRLibSlices
namespace Go.Proofs.Ytilejcnbacmdnaa
open Go Go.Sep
set_option linter.unusedSimpArgs false
set_option linter.unusedVariables false
set_option maxRecDepth 100000

structure ParcelD where
  fr : Int
  to : Int
  ep : Int
  pe : Int
  sq : Int
  ak : Int
  da : List UInt8
  deriving DecidableEq

abbrev pcL (p : ParcelD) (d : Sl) : List Value := [.int .i64 p.fr, .int .i64 p.to, .int .u64 p.ep, .int .u64 p.pe, .int .u64 p.sq, .int .u64 p.ak, d.val]
abbrev pcA (p : ParcelD) (d : Sl) : Array Value := #[.int .i64 p.fr, .int .i64 p.to, .int .u64 p.ep, .int .u64 p.pe, .int .u64 p.sq, .int .u64 p.ak, d.val]
def pcF (x : ParcelD × Sl) : List Value := pcL x.1 x.2
theorem pcF_len (x : ParcelD × Sl) : (pcF x).length = 7 := rfl
theorem pcF_flat (x : ParcelD × Sl) : ∀ v ∈ pcF x, flatV v = true := by
  intro v hv
  simp only [pcF, pcL, List.mem_cons, List.not_mem_nil, or_false] at hv
  rcases hv with rfl | rfl | rfl | rfl | rfl | rfl | rfl <;> rfl

/-- What a parcel's data are, each in memory of its own. -/
def pcB (x : ParcelD × Sl) : HProp := Bytes ty_uint8 x.2 x.1.da

/-- The list of a net: the struct's block, the slice, and each parcel's data. -/
def NetR (T b : Nat) (l : List (ParcelD × Sl)) : HProp :=
  ex fun s : Sl => stars [blk b (.cells #[s.val] T (0, 0)), SlC ty_api_Parcel 7 s (l.flatMap pcF), stars (l.map pcB)]

section
variable {B w : World} {Γ : List HProp}

theorem NetR.opens {T b : Nat} {l : List (ParcelD × Sl)} (h : Holds B (NetR T b l :: Γ) w) :
    ∃ s : Sl, Holds B (blk b (.cells #[s.val] T (0, 0)) :: SlC ty_api_Parcel 7 s (l.flatMap pcF) :: stars (l.map pcB) :: Γ) w := by
  obtain ⟨s, h⟩ := Holds.ex.1 h
  exact ⟨s, Holds.flat.1 h⟩
theorem NetR.shuts {T b : Nat} {l : List (ParcelD × Sl)} {s : Sl} (h : Holds B (blk b (.cells #[s.val] T (0, 0)) :: SlC ty_api_Parcel 7 s (l.flatMap pcF) :: stars (l.map pcB) :: Γ) w) :
    Holds B (NetR T b l :: Γ) w := Holds.ex.2 ⟨s, Holds.flat.2 h⟩

theorem sl_len {T b : Nat} {l : List (ParcelD × Sl)} {s : Sl} (h : (l.flatMap pcF).length = s.n * 7) : s.n = l.length := by
  rw [flatMap_len pcF 7 pcF_len] at h; omega

/-! ### slices.Delete at parcels -/
theorem delete_spec {s : Sl} {l : List (ParcelD × Sl)} {k : Sl → K} (i : Nat) (hi : i < l.length) (hbig : l.length ≤ 5000) (h : Holds B (SlC ty_api_Parcel 7 s (l.flatMap pcF) :: Γ) w)
    (hk : ∀ s w, Holds B (SlC ty_api_Parcel 7 s ((l.eraseIdx i).flatMap pcF) :: Γ) w → k s w) : slices_Delete_s_api_Parcel_api_Parcel.call s (i : Int) ((i : Int) + 1) k w := by
  refine slices_Delete_s_api_Parcel_api_Parcel_ok _ _ _ _ _ ?_
  unfold slices_Delete_s_api_Parcel_api_Parcel
  have hcap := h.slCap
  have hn := sl_len (T := 0) (b := 0) hcap.1
  have hc := hcap.2.1
  refine ⟨_, by omega, by omega, by omega, by omega, rfl, ?_⟩
  refine r_ite_f (by simp; omega) ?_
  refine r_dr h ?_
  clear h
  intro w h
  refine ⟨_, by omega, by omega, by omega, by omega, rfl, ?_⟩
  refine ⟨_, by omega, by omega, by omega, by omega, rfl, ?_⟩
  have hrd := h.rdC List.mem_cons_self
  have ht1 : (0 : Int).toNat = 0 := rfl
  have ht2 : ((i : Int)).toNat = i := Int.toNat_natCast i
  have ht3 : ((s.c : Int)).toNat = s.c := Int.toNat_natCast _
  have ht4 : ((s.n : Int)).toNat = s.n := Int.toNat_natCast _
  have ht5 : ((i : Int) + 1).toNat = i + 1 := by omega
  simp only [ht1, ht2, ht3, ht4, ht5, Nat.sub_zero]
  have hcut : cutA s.a 0 s.c 7 = s.a := by
    unfold cutA
    split
    · rfl
    · cases hx : s.a with
      | none => rfl
      | some a =>
        have := hcap.2.2.1 a hx
        obtain ⟨b, o, sp⟩ := a
        simp only at this; subst this
        simp [add_mk]
  rw [hcut]
  have hx := hrd.drop (l := i + 1) (c := s.c) (by omega) (by omega) hcap.2.2.1
  have h1 : Holds B (SlC ty_api_Parcel 7 ⟨s.a, i, s.c⟩ ((l.flatMap pcF).take (i * 7)) :: Γ) w := h.imp (SlC.take (by omega))
  have hfl : ∀ u ∈ (l.flatMap pcF).drop ((i + 1) * 7), flatV u = true := fun u hu => by
    have := List.mem_of_mem_drop hu
    obtain ⟨x, _, hx⟩ := List.mem_flatMap.1 this
    exact pcF_flat x u hx
  obtain ⟨s', w', hr, hh, hsn, _, hin⟩ := run_append (Tr := ty_s_api_Parcel) h1 (by kernel_rfl) (by kernel_rfl) (by' := 72) (by kernel_rfl) zero_ty_api_Parcel rfl hx hfl (by simp only; omega) (by decide)
  have hs' := hin (by simp only; omega)
  refine ⟨s', w', hr, ?_⟩
  have e : (l.flatMap pcF).take (i * 7) ++ (l.flatMap pcF).drop ((i + 1) * 7) = (l.eraseIdx i).flatMap pcF := by
    have key : ∀ (l : List (ParcelD × Sl)) (i : Nat), (l.flatMap pcF).take (i * 7) = (l.take i).flatMap pcF ∧ (l.flatMap pcF).drop (i * 7) = (l.drop i).flatMap pcF := by
      intro l
      induction l with
      | nil => intro i; simp
      | cons x l ih =>
        intro i
        cases i with
        | zero => simp
        | succ i =>
          have e1 : (i + 1) * 7 = (pcF x).length + i * 7 := by rw [pcF_len]; omega
          simp only [List.flatMap_cons, List.take_succ_cons, List.drop_succ_cons]
          rw [e1, List.take_length_add_append, List.drop_length_add_append, (ih i).1, (ih i).2]
          exact ⟨rfl, rfl⟩
    rw [(key l i).1, (key l (i + 1)).2, ← List.flatMap_append, List.eraseIdx_eq_take_drop_succ]
  rw [e] at hh
  subst hs'
  simp only at hsn hh
  refine ⟨_, by simp only; omega, by simp only; omega, by simp only; omega, by simp only; omega, rfl, ?_⟩
  refine r_clear (l := i + (s.n - (i + 1))) (q := s.n - (i + (s.n - (i + 1)))) (m := s.c) hh (by kernel_rfl) zero_ty_api_Parcel rfl (flat_all rfl) (Nat.le_refl _) (by simp only; omega) (by right; omega) ?_ fun w h => hk _ _ h
  simp only [Int.toNat_natCast]

theorem net_copied_spec {p : ParcelD} {d : Sl} {k : Array Value → K} (h : Holds B Γ w) (hr : ∀ w, Holds B Γ w → RdB w d p.da) (hl : p.da.length ≤ 1000000000)
    (hk : ∀ d' w, Holds B (Bytes ty_uint8 d' p.da :: Γ) w → k (pcA p d') w) : net_copied.call (pcA p d) k w := by
  refine net_copied_ok _ _ _ ?_
  unfold net_copied
  refine r_new h ?_
  clear h
  intro p1 w h
  try simp only [add_mk, Nat.zero_add, Nat.reduceAdd]
  refine r_new h ?_
  clear h
  intro t2 w h
  try simp only [add_mk, Nat.zero_add, Nat.reduceAdd]
  refine r_ld (x := d) h rfl (by first | (with_reducible exact List.mem_cons_self) | (with_reducible exact List.mem_cons_of_mem _ (List.mem_cons_self)) | (with_reducible exact List.mem_cons_of_mem _ (List.mem_cons_of_mem _ (List.mem_cons_self))) | (with_reducible exact List.mem_cons_of_mem _ (List.mem_cons_of_mem _ (List.mem_cons_of_mem _ (List.mem_cons_self)))) | (with_reducible exact List.mem_cons_of_mem _ (List.mem_cons_of_mem _ (List.mem_cons_of_mem _ (List.mem_cons_of_mem _ (List.mem_cons_self))))) | (with_reducible exact List.mem_cons_of_mem _ (List.mem_cons_of_mem _ (List.mem_cons_of_mem _ (List.mem_cons_of_mem _ (List.mem_cons_of_mem _ (List.mem_cons_self)))))) | (with_reducible exact List.mem_cons_of_mem _ (List.mem_cons_of_mem _ (List.mem_cons_of_mem _ (List.mem_cons_of_mem _ (List.mem_cons_of_mem _ (List.mem_cons_of_mem _ (List.mem_cons_self))))))) | (with_reducible exact List.mem_cons_of_mem _ (List.mem_cons_of_mem _ (List.mem_cons_of_mem _ (List.mem_cons_of_mem _ (List.mem_cons_of_mem _ (List.mem_cons_of_mem _ (List.mem_cons_of_mem _ (List.mem_cons_self)))))))) | (with_reducible exact List.mem_cons_of_mem _ (List.mem_cons_of_mem _ (List.mem_cons_of_mem _ (List.mem_cons_of_mem _ (List.mem_cons_of_mem _ (List.mem_cons_of_mem _ (List.mem_cons_of_mem _ (List.mem_cons_of_mem _ (List.mem_cons_self)))))))))) ?_ ?_
  · exact rfl
  refine bytes_Clone_spec h (fun w h => hr w h.tail.tail) hl fun d' w h _ => ?_
  first | refine r_st 0 h rfl (by with_reducible exact at0) ?_ (nofz _) rfl ?_ | refine r_st 1 h rfl (by with_reducible exact at1) ?_ (nofz _) rfl ?_ | refine r_st 2 h rfl (by with_reducible exact at2) ?_ (nofz _) rfl ?_ | refine r_st 3 h rfl (by with_reducible exact at3) ?_ (nofz _) rfl ?_ | refine r_st 4 h rfl (by with_reducible exact at4) ?_ (nofz _) rfl ?_ | refine r_st 5 h rfl (by with_reducible exact at5) ?_ (nofz _) rfl ?_ | refine r_st 6 h rfl (by with_reducible exact at6) ?_ (nofz _) rfl ?_ | refine r_st 7 h rfl (by with_reducible exact at7) ?_ (nofz _) rfl ?_
  · first | exact Nat.lt_of_ble_eq_true rfl | (simp; done) | (simp; omega)
  clear h
  intro w h
  simp only [List.set_cons_zero, List.set_cons_succ, List.eraseIdx_zero, List.eraseIdx_cons_zero, List.eraseIdx_cons_succ, List.setIfInBounds_toArray, List.tail_cons] at h
  refine r_ldN h rfl (by first | (with_reducible exact List.mem_cons_self) | (with_reducible exact List.mem_cons_of_mem _ (List.mem_cons_self)) | (with_reducible exact List.mem_cons_of_mem _ (List.mem_cons_of_mem _ (List.mem_cons_self))) | (with_reducible exact List.mem_cons_of_mem _ (List.mem_cons_of_mem _ (List.mem_cons_of_mem _ (List.mem_cons_self)))) | (with_reducible exact List.mem_cons_of_mem _ (List.mem_cons_of_mem _ (List.mem_cons_of_mem _ (List.mem_cons_of_mem _ (List.mem_cons_self))))) | (with_reducible exact List.mem_cons_of_mem _ (List.mem_cons_of_mem _ (List.mem_cons_of_mem _ (List.mem_cons_of_mem _ (List.mem_cons_of_mem _ (List.mem_cons_self)))))) | (with_reducible exact List.mem_cons_of_mem _ (List.mem_cons_of_mem _ (List.mem_cons_of_mem _ (List.mem_cons_of_mem _ (List.mem_cons_of_mem _ (List.mem_cons_of_mem _ (List.mem_cons_self))))))) | (with_reducible exact List.mem_cons_of_mem _ (List.mem_cons_of_mem _ (List.mem_cons_of_mem _ (List.mem_cons_of_mem _ (List.mem_cons_of_mem _ (List.mem_cons_of_mem _ (List.mem_cons_of_mem _ (List.mem_cons_self)))))))) | (with_reducible exact List.mem_cons_of_mem _ (List.mem_cons_of_mem _ (List.mem_cons_of_mem _ (List.mem_cons_of_mem _ (List.mem_cons_of_mem _ (List.mem_cons_of_mem _ (List.mem_cons_of_mem _ (List.mem_cons_of_mem _ (List.mem_cons_self)))))))))) ?_ ?_
  · rfl
  first | refine r_stN 0 h rfl (by with_reducible exact at0) ?_ ?_ (fun _ _ => nofz _) ?_ ?_ | refine r_stN 1 h rfl (by with_reducible exact at1) ?_ ?_ (fun _ _ => nofz _) ?_ ?_ | refine r_stN 2 h rfl (by with_reducible exact at2) ?_ ?_ (fun _ _ => nofz _) ?_ ?_ | refine r_stN 3 h rfl (by with_reducible exact at3) ?_ ?_ (fun _ _ => nofz _) ?_ ?_ | refine r_stN 4 h rfl (by with_reducible exact at4) ?_ ?_ (fun _ _ => nofz _) ?_ ?_ | refine r_stN 5 h rfl (by with_reducible exact at5) ?_ ?_ (fun _ _ => nofz _) ?_ ?_ | refine r_stN 6 h rfl (by with_reducible exact at6) ?_ ?_ (fun _ _ => nofz _) ?_ ?_ | refine r_stN 7 h rfl (by with_reducible exact at7) ?_ ?_ (fun _ _ => nofz _) ?_ ?_
  · rfl
  · rfl
  · simp [flatV]
  clear h
  intro w h
  simp only [List.set_cons_zero, List.set_cons_succ, List.eraseIdx_zero, List.eraseIdx_cons_zero, List.eraseIdx_cons_succ, List.setIfInBounds_toArray, List.tail_cons] at h
  refine r_ldN h rfl (by first | (with_reducible exact List.mem_cons_self) | (with_reducible exact List.mem_cons_of_mem _ (List.mem_cons_self)) | (with_reducible exact List.mem_cons_of_mem _ (List.mem_cons_of_mem _ (List.mem_cons_self))) | (with_reducible exact List.mem_cons_of_mem _ (List.mem_cons_of_mem _ (List.mem_cons_of_mem _ (List.mem_cons_self)))) | (with_reducible exact List.mem_cons_of_mem _ (List.mem_cons_of_mem _ (List.mem_cons_of_mem _ (List.mem_cons_of_mem _ (List.mem_cons_self))))) | (with_reducible exact List.mem_cons_of_mem _ (List.mem_cons_of_mem _ (List.mem_cons_of_mem _ (List.mem_cons_of_mem _ (List.mem_cons_of_mem _ (List.mem_cons_self)))))) | (with_reducible exact List.mem_cons_of_mem _ (List.mem_cons_of_mem _ (List.mem_cons_of_mem _ (List.mem_cons_of_mem _ (List.mem_cons_of_mem _ (List.mem_cons_of_mem _ (List.mem_cons_self))))))) | (with_reducible exact List.mem_cons_of_mem _ (List.mem_cons_of_mem _ (List.mem_cons_of_mem _ (List.mem_cons_of_mem _ (List.mem_cons_of_mem _ (List.mem_cons_of_mem _ (List.mem_cons_of_mem _ (List.mem_cons_self)))))))) | (with_reducible exact List.mem_cons_of_mem _ (List.mem_cons_of_mem _ (List.mem_cons_of_mem _ (List.mem_cons_of_mem _ (List.mem_cons_of_mem _ (List.mem_cons_of_mem _ (List.mem_cons_of_mem _ (List.mem_cons_of_mem _ (List.mem_cons_self)))))))))) ?_ ?_
  · rfl
  exact hk _ _ h.swap.tail.swap.tail

variable {T b : Nat} {l : List (ParcelD × Sl)}

theorem net_New_spec {k : Option Addr → K} (h : Holds B Γ w) (hk : ∀ b w, Holds B (NetR ty_net_Net b [] :: Γ) w → k (some ⟨b, 0, none⟩) w) : net_New.call k w := by
  refine net_New_ok _ _ ?_
  unfold net_New
  refine r_new h ?_
  clear h
  intro b w h
  try simp only [add_mk, Nat.zero_add, Nat.reduceAdd]
  refine hk _ _ (NetR.shuts (s := ⟨none, 0, 0⟩) ?_)
  have h1 := (h.nilSl ty_api_Parcel 7).swap
  have h2 := (h1.tail.tail.starsNil)
  have h3 : Holds B (stars [] :: blk b (.cells #[Sl.val ⟨none, 0, 0⟩] ty_net_Net (0, 0)) :: SlC ty_api_Parcel 7 ⟨none, 0, 0⟩ [] :: Γ) w := h1.starsNil
  exact h3.swap.imp_tail fun g hg => stars_swap hg

theorem net_has_spec {i : Int} {k : Bool → K} (h : Holds B (NetR T b l :: Γ) w) (hk : ∀ w, Holds B (NetR T b l :: Γ) w → k (decide (0 ≤ i ∧ i < l.length)) w) : net_Net_has.call (some ⟨b, 0, none⟩) i k w := by
  refine net_Net_has_ok _ _ _ _ ?_
  unfold net_Net_has net_Net_has.s1
  refine r_ite (fun hb => ?_) (fun hb => ?_)
  · simp only [decide_eq_true_eq] at hb
    refine r_nn rfl ?_
    obtain ⟨s, h⟩ := NetR.opens h
    have hn := sl_len (T := 0) (b := 0) h.tail.slCap.1
    refine r_ld (x := s) h rfl (by first | (with_reducible exact List.mem_cons_self) | (with_reducible exact List.mem_cons_of_mem _ (List.mem_cons_self)) | (with_reducible exact List.mem_cons_of_mem _ (List.mem_cons_of_mem _ (List.mem_cons_self))) | (with_reducible exact List.mem_cons_of_mem _ (List.mem_cons_of_mem _ (List.mem_cons_of_mem _ (List.mem_cons_self)))) | (with_reducible exact List.mem_cons_of_mem _ (List.mem_cons_of_mem _ (List.mem_cons_of_mem _ (List.mem_cons_of_mem _ (List.mem_cons_self))))) | (with_reducible exact List.mem_cons_of_mem _ (List.mem_cons_of_mem _ (List.mem_cons_of_mem _ (List.mem_cons_of_mem _ (List.mem_cons_of_mem _ (List.mem_cons_self)))))) | (with_reducible exact List.mem_cons_of_mem _ (List.mem_cons_of_mem _ (List.mem_cons_of_mem _ (List.mem_cons_of_mem _ (List.mem_cons_of_mem _ (List.mem_cons_of_mem _ (List.mem_cons_self))))))) | (with_reducible exact List.mem_cons_of_mem _ (List.mem_cons_of_mem _ (List.mem_cons_of_mem _ (List.mem_cons_of_mem _ (List.mem_cons_of_mem _ (List.mem_cons_of_mem _ (List.mem_cons_of_mem _ (List.mem_cons_self)))))))) | (with_reducible exact List.mem_cons_of_mem _ (List.mem_cons_of_mem _ (List.mem_cons_of_mem _ (List.mem_cons_of_mem _ (List.mem_cons_of_mem _ (List.mem_cons_of_mem _ (List.mem_cons_of_mem _ (List.mem_cons_of_mem _ (List.mem_cons_self)))))))))) ?_ ?_
    · exact rfl
    have := hk _ (NetR.shuts h)
    rw [hn]
    have e : decide (i < (l.length : Int)) = decide (0 ≤ i ∧ i < l.length) := by simp [hb]
    rw [e]; exact this
  · simp only [decide_eq_false_iff_not] at hb
    have e : decide (0 ≤ i ∧ i < (l.length : Int)) = false := by simp; omega
    rw [← e]; exact hk _ h

theorem net_Len_spec {k : Int → K} (h : Holds B (NetR T b l :: Γ) w) (hk : ∀ w, Holds B (NetR T b l :: Γ) w → k (l.length : Int) w) : net_Net_Len.call (some ⟨b, 0, none⟩) k w := by
  refine net_Net_Len_ok _ _ _ ?_
  unfold net_Net_Len
  refine r_nn rfl ?_
  obtain ⟨s, h⟩ := NetR.opens h
  have hn := sl_len (T := 0) (b := 0) h.tail.slCap.1
  refine r_ld (x := s) h rfl (by first | (with_reducible exact List.mem_cons_self) | (with_reducible exact List.mem_cons_of_mem _ (List.mem_cons_self)) | (with_reducible exact List.mem_cons_of_mem _ (List.mem_cons_of_mem _ (List.mem_cons_self))) | (with_reducible exact List.mem_cons_of_mem _ (List.mem_cons_of_mem _ (List.mem_cons_of_mem _ (List.mem_cons_self)))) | (with_reducible exact List.mem_cons_of_mem _ (List.mem_cons_of_mem _ (List.mem_cons_of_mem _ (List.mem_cons_of_mem _ (List.mem_cons_self))))) | (with_reducible exact List.mem_cons_of_mem _ (List.mem_cons_of_mem _ (List.mem_cons_of_mem _ (List.mem_cons_of_mem _ (List.mem_cons_of_mem _ (List.mem_cons_self)))))) | (with_reducible exact List.mem_cons_of_mem _ (List.mem_cons_of_mem _ (List.mem_cons_of_mem _ (List.mem_cons_of_mem _ (List.mem_cons_of_mem _ (List.mem_cons_of_mem _ (List.mem_cons_self))))))) | (with_reducible exact List.mem_cons_of_mem _ (List.mem_cons_of_mem _ (List.mem_cons_of_mem _ (List.mem_cons_of_mem _ (List.mem_cons_of_mem _ (List.mem_cons_of_mem _ (List.mem_cons_of_mem _ (List.mem_cons_self)))))))) | (with_reducible exact List.mem_cons_of_mem _ (List.mem_cons_of_mem _ (List.mem_cons_of_mem _ (List.mem_cons_of_mem _ (List.mem_cons_of_mem _ (List.mem_cons_of_mem _ (List.mem_cons_of_mem _ (List.mem_cons_of_mem _ (List.mem_cons_self)))))))))) ?_ ?_
  · exact rfl
  rw [hn]; exact hk _ (NetR.shuts h)

theorem net_Send_spec {p : ParcelD} {d : Sl} {k : Int → K} (h : Holds B (NetR T b l :: Γ) w) (hr : ∀ w, Holds B (NetR T b l :: Γ) w → RdB w d p.da) (hl : p.da.length ≤ 1000000000)
    (hfull : 4000 ≤ l.length → ∀ w, Holds B (NetR T b l :: Γ) w → k 2 w) (hk : l.length < 4000 → ∀ d' w, Holds B (NetR T b (l ++ [(p, d')]) :: Γ) w → k 0 w) :
    net_Net_Send.call (some ⟨b, 0, none⟩) (pcA p d) k w := by
  refine net_Net_Send_ok _ _ _ _ ?_
  unfold net_Net_Send
  refine r_new h ?_
  clear h
  intro p3 w h
  try simp only [add_mk, Nat.zero_add, Nat.reduceAdd]
  refine r_nn rfl ?_
  obtain ⟨s, h⟩ := NetR.opens h.swap
  have hn := sl_len (T := 0) (b := 0) h.tail.slCap.1
  refine r_ld (x := s) h rfl (by first | (with_reducible exact List.mem_cons_self) | (with_reducible exact List.mem_cons_of_mem _ (List.mem_cons_self)) | (with_reducible exact List.mem_cons_of_mem _ (List.mem_cons_of_mem _ (List.mem_cons_self))) | (with_reducible exact List.mem_cons_of_mem _ (List.mem_cons_of_mem _ (List.mem_cons_of_mem _ (List.mem_cons_self)))) | (with_reducible exact List.mem_cons_of_mem _ (List.mem_cons_of_mem _ (List.mem_cons_of_mem _ (List.mem_cons_of_mem _ (List.mem_cons_self))))) | (with_reducible exact List.mem_cons_of_mem _ (List.mem_cons_of_mem _ (List.mem_cons_of_mem _ (List.mem_cons_of_mem _ (List.mem_cons_of_mem _ (List.mem_cons_self)))))) | (with_reducible exact List.mem_cons_of_mem _ (List.mem_cons_of_mem _ (List.mem_cons_of_mem _ (List.mem_cons_of_mem _ (List.mem_cons_of_mem _ (List.mem_cons_of_mem _ (List.mem_cons_self))))))) | (with_reducible exact List.mem_cons_of_mem _ (List.mem_cons_of_mem _ (List.mem_cons_of_mem _ (List.mem_cons_of_mem _ (List.mem_cons_of_mem _ (List.mem_cons_of_mem _ (List.mem_cons_of_mem _ (List.mem_cons_self)))))))) | (with_reducible exact List.mem_cons_of_mem _ (List.mem_cons_of_mem _ (List.mem_cons_of_mem _ (List.mem_cons_of_mem _ (List.mem_cons_of_mem _ (List.mem_cons_of_mem _ (List.mem_cons_of_mem _ (List.mem_cons_of_mem _ (List.mem_cons_self)))))))))) ?_ ?_
  · exact rfl
  rw [hn]
  refine r_ite (fun hb => ?_) (fun hb => ?_)
  · simp only [decide_eq_true_eq] at hb
    exact hfull (by omega) _ (NetR.shuts h).swap.tail
  · simp only [decide_eq_false_iff_not] at hb
    refine r_dr h ?_
    clear h
    intro w h
    refine r_withS h ?_
    refine r_ldS (x := s) rfl (by first | (with_reducible exact List.mem_cons_self) | (with_reducible exact List.mem_cons_of_mem _ (List.mem_cons_self)) | (with_reducible exact List.mem_cons_of_mem _ (List.mem_cons_of_mem _ (List.mem_cons_self))) | (with_reducible exact List.mem_cons_of_mem _ (List.mem_cons_of_mem _ (List.mem_cons_of_mem _ (List.mem_cons_self)))) | (with_reducible exact List.mem_cons_of_mem _ (List.mem_cons_of_mem _ (List.mem_cons_of_mem _ (List.mem_cons_of_mem _ (List.mem_cons_self))))) | (with_reducible exact List.mem_cons_of_mem _ (List.mem_cons_of_mem _ (List.mem_cons_of_mem _ (List.mem_cons_of_mem _ (List.mem_cons_of_mem _ (List.mem_cons_self)))))) | (with_reducible exact List.mem_cons_of_mem _ (List.mem_cons_of_mem _ (List.mem_cons_of_mem _ (List.mem_cons_of_mem _ (List.mem_cons_of_mem _ (List.mem_cons_of_mem _ (List.mem_cons_self))))))) | (with_reducible exact List.mem_cons_of_mem _ (List.mem_cons_of_mem _ (List.mem_cons_of_mem _ (List.mem_cons_of_mem _ (List.mem_cons_of_mem _ (List.mem_cons_of_mem _ (List.mem_cons_of_mem _ (List.mem_cons_self)))))))) | (with_reducible exact List.mem_cons_of_mem _ (List.mem_cons_of_mem _ (List.mem_cons_of_mem _ (List.mem_cons_of_mem _ (List.mem_cons_of_mem _ (List.mem_cons_of_mem _ (List.mem_cons_of_mem _ (List.mem_cons_of_mem _ (List.mem_cons_self)))))))))) ?_ ?_
    · exact rfl
    refine r_ldNS rfl (by first | (with_reducible exact List.mem_cons_self) | (with_reducible exact List.mem_cons_of_mem _ (List.mem_cons_self)) | (with_reducible exact List.mem_cons_of_mem _ (List.mem_cons_of_mem _ (List.mem_cons_self))) | (with_reducible exact List.mem_cons_of_mem _ (List.mem_cons_of_mem _ (List.mem_cons_of_mem _ (List.mem_cons_self)))) | (with_reducible exact List.mem_cons_of_mem _ (List.mem_cons_of_mem _ (List.mem_cons_of_mem _ (List.mem_cons_of_mem _ (List.mem_cons_self))))) | (with_reducible exact List.mem_cons_of_mem _ (List.mem_cons_of_mem _ (List.mem_cons_of_mem _ (List.mem_cons_of_mem _ (List.mem_cons_of_mem _ (List.mem_cons_self)))))) | (with_reducible exact List.mem_cons_of_mem _ (List.mem_cons_of_mem _ (List.mem_cons_of_mem _ (List.mem_cons_of_mem _ (List.mem_cons_of_mem _ (List.mem_cons_of_mem _ (List.mem_cons_self))))))) | (with_reducible exact List.mem_cons_of_mem _ (List.mem_cons_of_mem _ (List.mem_cons_of_mem _ (List.mem_cons_of_mem _ (List.mem_cons_of_mem _ (List.mem_cons_of_mem _ (List.mem_cons_of_mem _ (List.mem_cons_self)))))))) | (with_reducible exact List.mem_cons_of_mem _ (List.mem_cons_of_mem _ (List.mem_cons_of_mem _ (List.mem_cons_of_mem _ (List.mem_cons_of_mem _ (List.mem_cons_of_mem _ (List.mem_cons_of_mem _ (List.mem_cons_of_mem _ (List.mem_cons_self)))))))))) ?_ ?_
    · rfl
    refine net_copied_spec h (fun w h => hr w (NetR.shuts h).swap.tail) hl fun d' w h => ?_
    refine r_sv h.tail ?_
    refine r_bld1 rfl rfl ?_
    refine r_new h ?_
    clear h
    intro t18 w h
    try simp only [add_mk, Nat.zero_add, Nat.reduceAdd]
    refine r_sv h.tail.tail ?_
    have hx := RdC.of_blk (n := 1) (esz := 7) h List.mem_cons_self (vs := pcL p d') rfl rfl 1
    refine r_append (h.pick 3 at3) (by kernel_rfl) (by kernel_rfl) (by' := 72) (by kernel_rfl) zero_ty_api_Parcel rfl hx (pcF_flat (p, d')) (by simp only; omega) (by decide) fun s' w h _ _ => ?_
    simp only [List.set_cons_zero, List.set_cons_succ, List.eraseIdx_zero, List.eraseIdx_cons_zero, List.eraseIdx_cons_succ, List.setIfInBounds_toArray, List.tail_cons] at h
    first | refine r_st 0 h rfl (by with_reducible exact at0) ?_ (nofz _) rfl ?_ | refine r_st 1 h rfl (by with_reducible exact at1) ?_ (nofz _) rfl ?_ | refine r_st 2 h rfl (by with_reducible exact at2) ?_ (nofz _) rfl ?_ | refine r_st 3 h rfl (by with_reducible exact at3) ?_ (nofz _) rfl ?_ | refine r_st 4 h rfl (by with_reducible exact at4) ?_ (nofz _) rfl ?_ | refine r_st 5 h rfl (by with_reducible exact at5) ?_ (nofz _) rfl ?_ | refine r_st 6 h rfl (by with_reducible exact at6) ?_ (nofz _) rfl ?_ | refine r_st 7 h rfl (by with_reducible exact at7) ?_ (nofz _) rfl ?_
    · first | exact Nat.lt_of_ble_eq_true rfl | (simp; done) | (simp; omega)
    clear h
    intro w h
    simp only [List.set_cons_zero, List.set_cons_succ, List.eraseIdx_zero, List.eraseIdx_cons_zero, List.eraseIdx_cons_succ, List.setIfInBounds_toArray, List.tail_cons] at h
    have e : l.flatMap pcF ++ pcL p d' = (l ++ [(p, d')]).flatMap pcF := by simp [pcF]
    rw [e] at h
    replace h := h.pick 2 at2
    simp only [List.set_cons_zero, List.set_cons_succ, List.eraseIdx_zero, List.eraseIdx_cons_zero, List.eraseIdx_cons_succ, List.setIfInBounds_toArray, List.tail_cons] at h
    replace h := h.pick 4 at4
    simp only [List.set_cons_zero, List.set_cons_succ, List.eraseIdx_zero, List.eraseIdx_cons_zero, List.eraseIdx_cons_succ, List.setIfInBounds_toArray, List.tail_cons] at h
    replace h := h.pick 2 at2
    simp only [List.set_cons_zero, List.set_cons_succ, List.eraseIdx_zero, List.eraseIdx_cons_zero, List.eraseIdx_cons_succ, List.setIfInBounds_toArray, List.tail_cons] at h
    replace h := h.pick 4 at4
    simp only [List.set_cons_zero, List.set_cons_succ, List.eraseIdx_zero, List.eraseIdx_cons_zero, List.eraseIdx_cons_succ, List.setIfInBounds_toArray, List.tail_cons] at h
    replace h := h.del 4 at4
    simp only [List.set_cons_zero, List.set_cons_succ, List.eraseIdx_zero, List.eraseIdx_cons_zero, List.eraseIdx_cons_succ, List.setIfInBounds_toArray, List.tail_cons] at h
    replace h := h.del 4 at4
    simp only [List.set_cons_zero, List.set_cons_succ, List.eraseIdx_zero, List.eraseIdx_cons_zero, List.eraseIdx_cons_succ, List.setIfInBounds_toArray, List.tail_cons] at h
    refine hk (by omega) d' _ (NetR.shuts (s := s') ?_)
    have h2 : Holds B (stars (l.map pcB) :: pcB (p, d') :: blk b (.cells #[s'.val] T (0, 0)) :: SlC ty_api_Parcel 7 s' ((l ++ [(p, d')]).flatMap pcF) :: Γ) w := by
      clear hk hfull hr
      replace h := h.pick 1 at1
      simp only [List.set_cons_zero, List.set_cons_succ, List.eraseIdx_zero, List.eraseIdx_cons_zero, List.eraseIdx_cons_succ, List.setIfInBounds_toArray, List.tail_cons] at h
      replace h := h.pick 1 at1
      simp only [List.set_cons_zero, List.set_cons_succ, List.eraseIdx_zero, List.eraseIdx_cons_zero, List.eraseIdx_cons_succ, List.setIfInBounds_toArray, List.tail_cons] at h
      replace h := h.pick 3 at3
      simp only [List.set_cons_zero, List.set_cons_succ, List.eraseIdx_zero, List.eraseIdx_cons_zero, List.eraseIdx_cons_succ, List.setIfInBounds_toArray, List.tail_cons] at h
      replace h := h.pick 3 at3
      simp only [List.set_cons_zero, List.set_cons_succ, List.eraseIdx_zero, List.eraseIdx_cons_zero, List.eraseIdx_cons_succ, List.setIfInBounds_toArray, List.tail_cons] at h
      exact h
    have h3 := h2.snoc
    rw [show l.map pcB ++ [pcB (p, d')] = (l ++ [(p, d')]).map pcB by simp] at h3
    clear h h2
    have h := h3
    replace h := h.pick 2 at2
    simp only [List.set_cons_zero, List.set_cons_succ, List.eraseIdx_zero, List.eraseIdx_cons_zero, List.eraseIdx_cons_succ, List.setIfInBounds_toArray, List.tail_cons] at h
    replace h := h.pick 2 at2
    simp only [List.set_cons_zero, List.set_cons_succ, List.eraseIdx_zero, List.eraseIdx_cons_zero, List.eraseIdx_cons_succ, List.setIfInBounds_toArray, List.tail_cons] at h
    exact h

def zeroP : ParcelD := ⟨0, 0, 0, 0, 0, 0, []⟩

theorem pcB_take (i : Nat) {x : ParcelD × Sl} (hx : l[i]? = some x) (h : Holds B (stars (l.map pcB) :: Γ) w) : Holds B (pcB x :: stars ((l.eraseIdx i).map pcB) :: Γ) w := by
  have h1 := Holds.flat.1 h
  have h2 : (l.map pcB ++ Γ).Perm (pcB x :: ((l.eraseIdx i).map pcB ++ Γ)) := by
    have h3 : (l.map pcB).Perm (pcB x :: (l.eraseIdx i).map pcB) := by
      have := (perm_pick hx).map pcB
      simpa using this
    exact h3.append_right Γ
  have h4 : Holds B (pcB x :: ((l.eraseIdx i).map pcB ++ Γ)) w := h1.perm h2
  have h5 : Holds B ((l.eraseIdx i).map pcB ++ pcB x :: Γ) w := h4.perm List.perm_middle.symm
  exact (Holds.flat.2 h5).swap

theorem pc_elem (i : Nat) {x : ParcelD × Sl} {s : Sl} (hx : l[i]? = some x) {a : Addr} (ha : s.a = some a) (h : RdC w s 7 (l.flatMap pcF)) (hsp : a.spot = none) : RdN w (a.add (i * 7)) (pcA x.1 x.2) := by
  intro j hj
  have hj' : j < 7 := hj
  rw [add_add' a hsp]
  have hlt : i < l.length := (List.getElem?_eq_some_iff.1 hx).1
  rw [h.at' a ha _ (by rw [flatMap_len pcF 7 pcF_len]; omega), flatMap_get pcF 7 pcF_len _ _ _ hj', hx]
  exact List.getElem?_toArray.symm

theorem net_Take_spec {i : Int} {k : Array Value → Bool → K} (hbig : l.length ≤ 5000) (hdata : ∀ x ∈ l, x.1.da.length ≤ 1000000000) (h : Holds B (NetR T b l :: Γ) w)
    (hno : ¬ (0 ≤ i ∧ i < l.length) → ∀ w, Holds B (NetR T b l :: Γ) w → k (pcA zeroP ⟨none, 0, 0⟩) false w)
    (hk : ∀ (j : Nat) (x : ParcelD × Sl), i = j → l[j]? = some x → ∀ d w, Holds B (Bytes ty_uint8 d x.1.da :: NetR T b (l.eraseIdx j) :: Γ) w → k (pcA x.1 d) true w) :
    net_Net_Take.call (some ⟨b, 0, none⟩) i k w := by
  refine net_Net_Take_ok _ _ _ _ ?_
  unfold net_Net_Take
  refine r_new h ?_
  clear h
  intro t4 w h
  try simp only [add_mk, Nat.zero_add, Nat.reduceAdd]
  refine net_has_spec h.swap fun w h => ?_
  refine r_ite (fun hb => ?_) (fun hb => ?_)
  · have hb' : ¬ (0 ≤ i ∧ i < (l.length : Int)) := by
      simp at hb
      omega
    replace h := h.swap
    first | refine r_stN 0 h rfl (by with_reducible exact at0) ?_ ?_ (fun _ _ => nofz _) ?_ ?_ | refine r_stN 1 h rfl (by with_reducible exact at1) ?_ ?_ (fun _ _ => nofz _) ?_ ?_ | refine r_stN 2 h rfl (by with_reducible exact at2) ?_ ?_ (fun _ _ => nofz _) ?_ ?_ | refine r_stN 3 h rfl (by with_reducible exact at3) ?_ ?_ (fun _ _ => nofz _) ?_ ?_ | refine r_stN 4 h rfl (by with_reducible exact at4) ?_ ?_ (fun _ _ => nofz _) ?_ ?_ | refine r_stN 5 h rfl (by with_reducible exact at5) ?_ ?_ (fun _ _ => nofz _) ?_ ?_ | refine r_stN 6 h rfl (by with_reducible exact at6) ?_ ?_ (fun _ _ => nofz _) ?_ ?_ | refine r_stN 7 h rfl (by with_reducible exact at7) ?_ ?_ (fun _ _ => nofz _) ?_ ?_
    · rfl
    · rfl
    · simp [flatV]
    clear h
    intro w h
    simp only [List.set_cons_zero, List.set_cons_succ, List.eraseIdx_zero, List.eraseIdx_cons_zero, List.eraseIdx_cons_succ, List.setIfInBounds_toArray, List.tail_cons] at h
    refine r_ldN h rfl (by first | (with_reducible exact List.mem_cons_self) | (with_reducible exact List.mem_cons_of_mem _ (List.mem_cons_self)) | (with_reducible exact List.mem_cons_of_mem _ (List.mem_cons_of_mem _ (List.mem_cons_self))) | (with_reducible exact List.mem_cons_of_mem _ (List.mem_cons_of_mem _ (List.mem_cons_of_mem _ (List.mem_cons_self)))) | (with_reducible exact List.mem_cons_of_mem _ (List.mem_cons_of_mem _ (List.mem_cons_of_mem _ (List.mem_cons_of_mem _ (List.mem_cons_self))))) | (with_reducible exact List.mem_cons_of_mem _ (List.mem_cons_of_mem _ (List.mem_cons_of_mem _ (List.mem_cons_of_mem _ (List.mem_cons_of_mem _ (List.mem_cons_self)))))) | (with_reducible exact List.mem_cons_of_mem _ (List.mem_cons_of_mem _ (List.mem_cons_of_mem _ (List.mem_cons_of_mem _ (List.mem_cons_of_mem _ (List.mem_cons_of_mem _ (List.mem_cons_self))))))) | (with_reducible exact List.mem_cons_of_mem _ (List.mem_cons_of_mem _ (List.mem_cons_of_mem _ (List.mem_cons_of_mem _ (List.mem_cons_of_mem _ (List.mem_cons_of_mem _ (List.mem_cons_of_mem _ (List.mem_cons_self)))))))) | (with_reducible exact List.mem_cons_of_mem _ (List.mem_cons_of_mem _ (List.mem_cons_of_mem _ (List.mem_cons_of_mem _ (List.mem_cons_of_mem _ (List.mem_cons_of_mem _ (List.mem_cons_of_mem _ (List.mem_cons_of_mem _ (List.mem_cons_self)))))))))) ?_ ?_
    · rfl
    exact hno hb' _ h.tail
  · have hb' : 0 ≤ i ∧ i < (l.length : Int) := by simpa using hb
    obtain ⟨j, rfl⟩ := Int.eq_ofNat_of_zero_le hb'.1
    have hj : j < l.length := by omega
    have hx : l[j]? = some l[j] := List.getElem?_eq_getElem hj
    generalize l[j] = x at hx
    refine r_nn rfl ?_
    obtain ⟨s, h⟩ := NetR.opens h
    have hn := sl_len (T := 0) (b := 0) h.tail.slCap.1
    refine r_ld (x := s) h rfl (by first | (with_reducible exact List.mem_cons_self) | (with_reducible exact List.mem_cons_of_mem _ (List.mem_cons_self)) | (with_reducible exact List.mem_cons_of_mem _ (List.mem_cons_of_mem _ (List.mem_cons_self))) | (with_reducible exact List.mem_cons_of_mem _ (List.mem_cons_of_mem _ (List.mem_cons_of_mem _ (List.mem_cons_self)))) | (with_reducible exact List.mem_cons_of_mem _ (List.mem_cons_of_mem _ (List.mem_cons_of_mem _ (List.mem_cons_of_mem _ (List.mem_cons_self))))) | (with_reducible exact List.mem_cons_of_mem _ (List.mem_cons_of_mem _ (List.mem_cons_of_mem _ (List.mem_cons_of_mem _ (List.mem_cons_of_mem _ (List.mem_cons_self)))))) | (with_reducible exact List.mem_cons_of_mem _ (List.mem_cons_of_mem _ (List.mem_cons_of_mem _ (List.mem_cons_of_mem _ (List.mem_cons_of_mem _ (List.mem_cons_of_mem _ (List.mem_cons_self))))))) | (with_reducible exact List.mem_cons_of_mem _ (List.mem_cons_of_mem _ (List.mem_cons_of_mem _ (List.mem_cons_of_mem _ (List.mem_cons_of_mem _ (List.mem_cons_of_mem _ (List.mem_cons_of_mem _ (List.mem_cons_self)))))))) | (with_reducible exact List.mem_cons_of_mem _ (List.mem_cons_of_mem _ (List.mem_cons_of_mem _ (List.mem_cons_of_mem _ (List.mem_cons_of_mem _ (List.mem_cons_of_mem _ (List.mem_cons_of_mem _ (List.mem_cons_of_mem _ (List.mem_cons_self)))))))))) ?_ ?_
    · exact rfl
    have hrd := h.rdC (List.mem_cons_of_mem _ List.mem_cons_self)
    have hsp := h.tail.slCap.2.2.1
    have hsa : ∃ a, s.a = some a := by
      cases ha : s.a with
      | none => have := hrd.nil ha; omega
      | some a => exact ⟨a, rfl⟩
    obtain ⟨a, ha⟩ := hsa
    refine ⟨a, _, ha, by omega, by omega, rfl, ?_⟩
    simp only [Int.toNat_natCast]
    refine r_ldN_of rfl (pc_elem j hx ha hrd (hsp a ha)) ?_
    refine r_new h ?_
    clear h
    intro p6 w h
    try simp only [add_mk, Nat.zero_add, Nat.reduceAdd]
    first | refine r_stN 0 h rfl (by with_reducible exact at0) ?_ ?_ (fun _ _ => nofz _) ?_ ?_ | refine r_stN 1 h rfl (by with_reducible exact at1) ?_ ?_ (fun _ _ => nofz _) ?_ ?_ | refine r_stN 2 h rfl (by with_reducible exact at2) ?_ ?_ (fun _ _ => nofz _) ?_ ?_ | refine r_stN 3 h rfl (by with_reducible exact at3) ?_ ?_ (fun _ _ => nofz _) ?_ ?_ | refine r_stN 4 h rfl (by with_reducible exact at4) ?_ ?_ (fun _ _ => nofz _) ?_ ?_ | refine r_stN 5 h rfl (by with_reducible exact at5) ?_ ?_ (fun _ _ => nofz _) ?_ ?_ | refine r_stN 6 h rfl (by with_reducible exact at6) ?_ ?_ (fun _ _ => nofz _) ?_ ?_ | refine r_stN 7 h rfl (by with_reducible exact at7) ?_ ?_ (fun _ _ => nofz _) ?_ ?_
    · rfl
    · rfl
    · simp [flatV]
    clear h
    intro w h
    simp only [List.set_cons_zero, List.set_cons_succ, List.eraseIdx_zero, List.eraseIdx_cons_zero, List.eraseIdx_cons_succ, List.setIfInBounds_toArray, List.tail_cons] at h
    refine r_ld (x := s) h rfl (by first | (with_reducible exact List.mem_cons_self) | (with_reducible exact List.mem_cons_of_mem _ (List.mem_cons_self)) | (with_reducible exact List.mem_cons_of_mem _ (List.mem_cons_of_mem _ (List.mem_cons_self))) | (with_reducible exact List.mem_cons_of_mem _ (List.mem_cons_of_mem _ (List.mem_cons_of_mem _ (List.mem_cons_self)))) | (with_reducible exact List.mem_cons_of_mem _ (List.mem_cons_of_mem _ (List.mem_cons_of_mem _ (List.mem_cons_of_mem _ (List.mem_cons_self))))) | (with_reducible exact List.mem_cons_of_mem _ (List.mem_cons_of_mem _ (List.mem_cons_of_mem _ (List.mem_cons_of_mem _ (List.mem_cons_of_mem _ (List.mem_cons_self)))))) | (with_reducible exact List.mem_cons_of_mem _ (List.mem_cons_of_mem _ (List.mem_cons_of_mem _ (List.mem_cons_of_mem _ (List.mem_cons_of_mem _ (List.mem_cons_of_mem _ (List.mem_cons_self))))))) | (with_reducible exact List.mem_cons_of_mem _ (List.mem_cons_of_mem _ (List.mem_cons_of_mem _ (List.mem_cons_of_mem _ (List.mem_cons_of_mem _ (List.mem_cons_of_mem _ (List.mem_cons_of_mem _ (List.mem_cons_self)))))))) | (with_reducible exact List.mem_cons_of_mem _ (List.mem_cons_of_mem _ (List.mem_cons_of_mem _ (List.mem_cons_of_mem _ (List.mem_cons_of_mem _ (List.mem_cons_of_mem _ (List.mem_cons_of_mem _ (List.mem_cons_of_mem _ (List.mem_cons_self)))))))))) ?_ ?_
    · exact rfl
    refine r_add64 (by omega) (by omega) ?_
    replace h := h.pick 4 at4
    simp only [List.set_cons_zero, List.set_cons_succ, List.eraseIdx_zero, List.eraseIdx_cons_zero, List.eraseIdx_cons_succ, List.setIfInBounds_toArray, List.tail_cons] at h
    replace h := h.pick 4 at4
    simp only [List.set_cons_zero, List.set_cons_succ, List.eraseIdx_zero, List.eraseIdx_cons_zero, List.eraseIdx_cons_succ, List.setIfInBounds_toArray, List.tail_cons] at h
    replace h := h.pick 3 at3
    simp only [List.set_cons_zero, List.set_cons_succ, List.eraseIdx_zero, List.eraseIdx_cons_zero, List.eraseIdx_cons_succ, List.setIfInBounds_toArray, List.tail_cons] at h
    replace h := h.pick 4 at4
    simp only [List.set_cons_zero, List.set_cons_succ, List.eraseIdx_zero, List.eraseIdx_cons_zero, List.eraseIdx_cons_succ, List.setIfInBounds_toArray, List.tail_cons] at h
    refine delete_spec j hj hbig h fun s' w h => ?_
    first | refine r_st 0 h rfl (by with_reducible exact at0) ?_ (nofz _) rfl ?_ | refine r_st 1 h rfl (by with_reducible exact at1) ?_ (nofz _) rfl ?_ | refine r_st 2 h rfl (by with_reducible exact at2) ?_ (nofz _) rfl ?_ | refine r_st 3 h rfl (by with_reducible exact at3) ?_ (nofz _) rfl ?_ | refine r_st 4 h rfl (by with_reducible exact at4) ?_ (nofz _) rfl ?_ | refine r_st 5 h rfl (by with_reducible exact at5) ?_ (nofz _) rfl ?_ | refine r_st 6 h rfl (by with_reducible exact at6) ?_ (nofz _) rfl ?_ | refine r_st 7 h rfl (by with_reducible exact at7) ?_ (nofz _) rfl ?_
    · first | exact Nat.lt_of_ble_eq_true rfl | (simp; done) | (simp; omega)
    clear h
    intro w h
    simp only [List.set_cons_zero, List.set_cons_succ, List.eraseIdx_zero, List.eraseIdx_cons_zero, List.eraseIdx_cons_succ, List.setIfInBounds_toArray, List.tail_cons] at h
    replace h := h.pick 4 at4
    simp only [List.set_cons_zero, List.set_cons_succ, List.eraseIdx_zero, List.eraseIdx_cons_zero, List.eraseIdx_cons_succ, List.setIfInBounds_toArray, List.tail_cons] at h
    replace h := h.pick 4 at4
    simp only [List.set_cons_zero, List.set_cons_succ, List.eraseIdx_zero, List.eraseIdx_cons_zero, List.eraseIdx_cons_succ, List.setIfInBounds_toArray, List.tail_cons] at h
    replace h := h.pick 4 at4
    simp only [List.set_cons_zero, List.set_cons_succ, List.eraseIdx_zero, List.eraseIdx_cons_zero, List.eraseIdx_cons_succ, List.setIfInBounds_toArray, List.tail_cons] at h
    replace h := h.pick 3 at3
    simp only [List.set_cons_zero, List.set_cons_succ, List.eraseIdx_zero, List.eraseIdx_cons_zero, List.eraseIdx_cons_succ, List.setIfInBounds_toArray, List.tail_cons] at h
    replace h := h.pick 4 at4
    simp only [List.set_cons_zero, List.set_cons_succ, List.eraseIdx_zero, List.eraseIdx_cons_zero, List.eraseIdx_cons_succ, List.setIfInBounds_toArray, List.tail_cons] at h
    have h2 : Holds B (stars (l.map pcB) :: blk b (.cells #[s'.val] T (0, 0)) :: SlC ty_api_Parcel 7 s' ((l.eraseIdx j).flatMap pcF) :: blk t4 _ :: blk p6 _ :: Γ) w := (h.pick 2 at2)
    have h3 := pcB_take j hx h2
    clear h h2
    have h := h3
    clear h3
    refine r_ldN h rfl (by first | (with_reducible exact List.mem_cons_self) | (with_reducible exact List.mem_cons_of_mem _ (List.mem_cons_self)) | (with_reducible exact List.mem_cons_of_mem _ (List.mem_cons_of_mem _ (List.mem_cons_self))) | (with_reducible exact List.mem_cons_of_mem _ (List.mem_cons_of_mem _ (List.mem_cons_of_mem _ (List.mem_cons_self)))) | (with_reducible exact List.mem_cons_of_mem _ (List.mem_cons_of_mem _ (List.mem_cons_of_mem _ (List.mem_cons_of_mem _ (List.mem_cons_self))))) | (with_reducible exact List.mem_cons_of_mem _ (List.mem_cons_of_mem _ (List.mem_cons_of_mem _ (List.mem_cons_of_mem _ (List.mem_cons_of_mem _ (List.mem_cons_self)))))) | (with_reducible exact List.mem_cons_of_mem _ (List.mem_cons_of_mem _ (List.mem_cons_of_mem _ (List.mem_cons_of_mem _ (List.mem_cons_of_mem _ (List.mem_cons_of_mem _ (List.mem_cons_self))))))) | (with_reducible exact List.mem_cons_of_mem _ (List.mem_cons_of_mem _ (List.mem_cons_of_mem _ (List.mem_cons_of_mem _ (List.mem_cons_of_mem _ (List.mem_cons_of_mem _ (List.mem_cons_of_mem _ (List.mem_cons_self)))))))) | (with_reducible exact List.mem_cons_of_mem _ (List.mem_cons_of_mem _ (List.mem_cons_of_mem _ (List.mem_cons_of_mem _ (List.mem_cons_of_mem _ (List.mem_cons_of_mem _ (List.mem_cons_of_mem _ (List.mem_cons_of_mem _ (List.mem_cons_self)))))))))) ?_ ?_
    · rfl
    refine net_copied_spec (p := x.1) (d := x.2) h (fun w h => h.rdC List.mem_cons_self) (hdata x (List.mem_of_getElem? hx)) fun d w h => ?_
    first | refine r_stN 0 h rfl (by with_reducible exact at0) ?_ ?_ (fun _ _ => nofz _) ?_ ?_ | refine r_stN 1 h rfl (by with_reducible exact at1) ?_ ?_ (fun _ _ => nofz _) ?_ ?_ | refine r_stN 2 h rfl (by with_reducible exact at2) ?_ ?_ (fun _ _ => nofz _) ?_ ?_ | refine r_stN 3 h rfl (by with_reducible exact at3) ?_ ?_ (fun _ _ => nofz _) ?_ ?_ | refine r_stN 4 h rfl (by with_reducible exact at4) ?_ ?_ (fun _ _ => nofz _) ?_ ?_ | refine r_stN 5 h rfl (by with_reducible exact at5) ?_ ?_ (fun _ _ => nofz _) ?_ ?_ | refine r_stN 6 h rfl (by with_reducible exact at6) ?_ ?_ (fun _ _ => nofz _) ?_ ?_ | refine r_stN 7 h rfl (by with_reducible exact at7) ?_ ?_ (fun _ _ => nofz _) ?_ ?_
    · rfl
    · rfl
    · simp [flatV]
    clear h
    intro w h
    simp only [List.set_cons_zero, List.set_cons_succ, List.eraseIdx_zero, List.eraseIdx_cons_zero, List.eraseIdx_cons_succ, List.setIfInBounds_toArray, List.tail_cons] at h
    refine r_ldN h rfl (by first | (with_reducible exact List.mem_cons_self) | (with_reducible exact List.mem_cons_of_mem _ (List.mem_cons_self)) | (with_reducible exact List.mem_cons_of_mem _ (List.mem_cons_of_mem _ (List.mem_cons_self))) | (with_reducible exact List.mem_cons_of_mem _ (List.mem_cons_of_mem _ (List.mem_cons_of_mem _ (List.mem_cons_self)))) | (with_reducible exact List.mem_cons_of_mem _ (List.mem_cons_of_mem _ (List.mem_cons_of_mem _ (List.mem_cons_of_mem _ (List.mem_cons_self))))) | (with_reducible exact List.mem_cons_of_mem _ (List.mem_cons_of_mem _ (List.mem_cons_of_mem _ (List.mem_cons_of_mem _ (List.mem_cons_of_mem _ (List.mem_cons_self)))))) | (with_reducible exact List.mem_cons_of_mem _ (List.mem_cons_of_mem _ (List.mem_cons_of_mem _ (List.mem_cons_of_mem _ (List.mem_cons_of_mem _ (List.mem_cons_of_mem _ (List.mem_cons_self))))))) | (with_reducible exact List.mem_cons_of_mem _ (List.mem_cons_of_mem _ (List.mem_cons_of_mem _ (List.mem_cons_of_mem _ (List.mem_cons_of_mem _ (List.mem_cons_of_mem _ (List.mem_cons_of_mem _ (List.mem_cons_self)))))))) | (with_reducible exact List.mem_cons_of_mem _ (List.mem_cons_of_mem _ (List.mem_cons_of_mem _ (List.mem_cons_of_mem _ (List.mem_cons_of_mem _ (List.mem_cons_of_mem _ (List.mem_cons_of_mem _ (List.mem_cons_of_mem _ (List.mem_cons_self)))))))))) ?_ ?_
    · rfl
    replace h := h.pick 2 at2
    simp only [List.set_cons_zero, List.set_cons_succ, List.eraseIdx_zero, List.eraseIdx_cons_zero, List.eraseIdx_cons_succ, List.setIfInBounds_toArray, List.tail_cons] at h
    replace h := h.pick 4 at4
    simp only [List.set_cons_zero, List.set_cons_succ, List.eraseIdx_zero, List.eraseIdx_cons_zero, List.eraseIdx_cons_succ, List.setIfInBounds_toArray, List.tail_cons] at h
    replace h := h.pick 4 at4
    simp only [List.set_cons_zero, List.set_cons_succ, List.eraseIdx_zero, List.eraseIdx_cons_zero, List.eraseIdx_cons_succ, List.setIfInBounds_toArray, List.tail_cons] at h
    replace h := h.pick 3 at3
    simp only [List.set_cons_zero, List.set_cons_succ, List.eraseIdx_zero, List.eraseIdx_cons_zero, List.eraseIdx_cons_succ, List.setIfInBounds_toArray, List.tail_cons] at h
    replace h := h.del 4 at4
    simp only [List.set_cons_zero, List.set_cons_succ, List.eraseIdx_zero, List.eraseIdx_cons_zero, List.eraseIdx_cons_succ, List.setIfInBounds_toArray, List.tail_cons] at h
    replace h := h.del 4 at4
    simp only [List.set_cons_zero, List.set_cons_succ, List.eraseIdx_zero, List.eraseIdx_cons_zero, List.eraseIdx_cons_succ, List.setIfInBounds_toArray, List.tail_cons] at h
    replace h := h.del 4 at4
    simp only [List.set_cons_zero, List.set_cons_succ, List.eraseIdx_zero, List.eraseIdx_cons_zero, List.eraseIdx_cons_succ, List.setIfInBounds_toArray, List.tail_cons] at h
    refine hk j x rfl hx d _ ?_
    have h4 : Holds B (blk b (.cells #[s'.val] T (0, 0)) :: SlC ty_api_Parcel 7 s' ((l.eraseIdx j).flatMap pcF) :: stars ((l.eraseIdx j).map pcB) :: Bytes ty_uint8 d x.1.da :: Γ) w := by
      clear hno hk
      replace h := h.pick 3 at3
      simp only [List.set_cons_zero, List.set_cons_succ, List.eraseIdx_zero, List.eraseIdx_cons_zero, List.eraseIdx_cons_succ, List.setIfInBounds_toArray, List.tail_cons] at h
      replace h := h.pick 3 at3
      simp only [List.set_cons_zero, List.set_cons_succ, List.eraseIdx_zero, List.eraseIdx_cons_zero, List.eraseIdx_cons_succ, List.setIfInBounds_toArray, List.tail_cons] at h
      replace h := h.pick 3 at3
      simp only [List.set_cons_zero, List.set_cons_succ, List.eraseIdx_zero, List.eraseIdx_cons_zero, List.eraseIdx_cons_succ, List.setIfInBounds_toArray, List.tail_cons] at h
      exact h
    exact (NetR.shuts h4).swap

theorem net_Drop_spec {i : Int} {k : Bool → K} (hbig : l.length ≤ 5000) (hdata : ∀ x ∈ l, x.1.da.length ≤ 1000000000) (h : Holds B (NetR T b l :: Γ) w)
    (hno : ¬ (0 ≤ i ∧ i < l.length) → ∀ w, Holds B (NetR T b l :: Γ) w → k false w)
    (hk : ∀ (j : Nat), i = j → j < l.length → ∀ w, Holds B (NetR T b (l.eraseIdx j) :: Γ) w → k true w) : net_Net_Drop.call (some ⟨b, 0, none⟩) i k w := by
  refine net_Net_Drop_ok _ _ _ _ ?_
  unfold net_Net_Drop
  refine net_Take_spec hbig hdata h (fun hb w h => ?_) (fun j x hj hx d w h => ?_)
  · refine r_new h ?_
    clear h
    intro t5 w h
    try simp only [add_mk, Nat.zero_add, Nat.reduceAdd]
    first | refine r_stN 0 h rfl (by with_reducible exact at0) ?_ ?_ (fun _ _ => nofz _) ?_ ?_ | refine r_stN 1 h rfl (by with_reducible exact at1) ?_ ?_ (fun _ _ => nofz _) ?_ ?_ | refine r_stN 2 h rfl (by with_reducible exact at2) ?_ ?_ (fun _ _ => nofz _) ?_ ?_ | refine r_stN 3 h rfl (by with_reducible exact at3) ?_ ?_ (fun _ _ => nofz _) ?_ ?_ | refine r_stN 4 h rfl (by with_reducible exact at4) ?_ ?_ (fun _ _ => nofz _) ?_ ?_ | refine r_stN 5 h rfl (by with_reducible exact at5) ?_ ?_ (fun _ _ => nofz _) ?_ ?_ | refine r_stN 6 h rfl (by with_reducible exact at6) ?_ ?_ (fun _ _ => nofz _) ?_ ?_ | refine r_stN 7 h rfl (by with_reducible exact at7) ?_ ?_ (fun _ _ => nofz _) ?_ ?_
    · rfl
    · rfl
    · simp [flatV]
    clear h
    intro w h
    simp only [List.set_cons_zero, List.set_cons_succ, List.eraseIdx_zero, List.eraseIdx_cons_zero, List.eraseIdx_cons_succ, List.setIfInBounds_toArray, List.tail_cons] at h
    exact hno hb _ h.tail
  · refine r_new h ?_
    clear h
    intro t5 w h
    try simp only [add_mk, Nat.zero_add, Nat.reduceAdd]
    first | refine r_stN 0 h rfl (by with_reducible exact at0) ?_ ?_ (fun _ _ => nofz _) ?_ ?_ | refine r_stN 1 h rfl (by with_reducible exact at1) ?_ ?_ (fun _ _ => nofz _) ?_ ?_ | refine r_stN 2 h rfl (by with_reducible exact at2) ?_ ?_ (fun _ _ => nofz _) ?_ ?_ | refine r_stN 3 h rfl (by with_reducible exact at3) ?_ ?_ (fun _ _ => nofz _) ?_ ?_ | refine r_stN 4 h rfl (by with_reducible exact at4) ?_ ?_ (fun _ _ => nofz _) ?_ ?_ | refine r_stN 5 h rfl (by with_reducible exact at5) ?_ ?_ (fun _ _ => nofz _) ?_ ?_ | refine r_stN 6 h rfl (by with_reducible exact at6) ?_ ?_ (fun _ _ => nofz _) ?_ ?_ | refine r_stN 7 h rfl (by with_reducible exact at7) ?_ ?_ (fun _ _ => nofz _) ?_ ?_
    · rfl
    · rfl
    · simp [flatV]
    clear h
    intro w h
    simp only [List.set_cons_zero, List.set_cons_succ, List.eraseIdx_zero, List.eraseIdx_cons_zero, List.eraseIdx_cons_succ, List.setIfInBounds_toArray, List.tail_cons] at h
    exact hk j hj (List.getElem?_eq_some_iff.1 hx).1 _ h.tail.tail

theorem net_Copy_spec {i : Int} {k : Bool → K} (hdata : ∀ x ∈ l, x.1.da.length ≤ 1000000000) (h : Holds B (NetR T b l :: Γ) w)
    (hno : ¬ (0 ≤ i ∧ i < l.length ∧ l.length < 4000) → ∀ w, Holds B (NetR T b l :: Γ) w → k false w)
    (hk : ∀ (j : Nat) (x : ParcelD × Sl), i = j → l[j]? = some x → l.length < 4000 → ∀ d w, Holds B (NetR T b (l ++ [(x.1, d)]) :: Γ) w → k true w) : net_Net_Copy.call (some ⟨b, 0, none⟩) i k w := by
  refine net_Net_Copy_ok _ _ _ _ ?_
  unfold net_Net_Copy net_Net_Copy.s1
  refine net_has_spec h fun w h => ?_
  refine r_ite (fun hb => ?_) (fun hb => ?_)
  · have hb' : 0 ≤ i ∧ i < (l.length : Int) := by simpa using hb
    obtain ⟨j, rfl⟩ := Int.eq_ofNat_of_zero_le hb'.1
    have hj : j < l.length := by omega
    have hx : l[j]? = some l[j] := List.getElem?_eq_getElem hj
    generalize l[j] = x at hx
    refine r_nn rfl ?_
    obtain ⟨s, h⟩ := NetR.opens h
    have hn := sl_len (T := 0) (b := 0) h.tail.slCap.1
    refine r_ld (x := s) h rfl (by first | (with_reducible exact List.mem_cons_self) | (with_reducible exact List.mem_cons_of_mem _ (List.mem_cons_self)) | (with_reducible exact List.mem_cons_of_mem _ (List.mem_cons_of_mem _ (List.mem_cons_self))) | (with_reducible exact List.mem_cons_of_mem _ (List.mem_cons_of_mem _ (List.mem_cons_of_mem _ (List.mem_cons_self)))) | (with_reducible exact List.mem_cons_of_mem _ (List.mem_cons_of_mem _ (List.mem_cons_of_mem _ (List.mem_cons_of_mem _ (List.mem_cons_self))))) | (with_reducible exact List.mem_cons_of_mem _ (List.mem_cons_of_mem _ (List.mem_cons_of_mem _ (List.mem_cons_of_mem _ (List.mem_cons_of_mem _ (List.mem_cons_self)))))) | (with_reducible exact List.mem_cons_of_mem _ (List.mem_cons_of_mem _ (List.mem_cons_of_mem _ (List.mem_cons_of_mem _ (List.mem_cons_of_mem _ (List.mem_cons_of_mem _ (List.mem_cons_self))))))) | (with_reducible exact List.mem_cons_of_mem _ (List.mem_cons_of_mem _ (List.mem_cons_of_mem _ (List.mem_cons_of_mem _ (List.mem_cons_of_mem _ (List.mem_cons_of_mem _ (List.mem_cons_of_mem _ (List.mem_cons_self)))))))) | (with_reducible exact List.mem_cons_of_mem _ (List.mem_cons_of_mem _ (List.mem_cons_of_mem _ (List.mem_cons_of_mem _ (List.mem_cons_of_mem _ (List.mem_cons_of_mem _ (List.mem_cons_of_mem _ (List.mem_cons_of_mem _ (List.mem_cons_self)))))))))) ?_ ?_
    · exact rfl
    have hrd := h.rdC (List.mem_cons_of_mem _ List.mem_cons_self)
    have hsp := h.tail.slCap.2.2.1
    have hsa : ∃ a, s.a = some a := by
      cases ha : s.a with
      | none => have := hrd.nil ha; omega
      | some a => exact ⟨a, rfl⟩
    obtain ⟨a, ha⟩ := hsa
    refine ⟨a, _, ha, by omega, by omega, rfl, ?_⟩
    simp only [Int.toNat_natCast]
    refine r_ldN_of rfl (pc_elem j hx ha hrd (hsp a ha)) ?_
    replace h := NetR.shuts h
    refine net_Send_spec (p := x.1) (d := x.2) h (fun w h => ?_) (hdata x (List.mem_of_getElem? hx)) (fun hf w h => ?_) (fun hf d w h => ?_)
    · obtain ⟨s, h⟩ := NetR.opens h
      exact (pcB_take j hx (h.pick 2 at2)).rdC List.mem_cons_self
    · exact hno (by omega) _ h
    · exact hk j x rfl hx hf d _ h
  · have hb' : ¬ (0 ≤ i ∧ i < (l.length : Int)) := by
      simp at hb
      omega
    exact hno (by omega) _ h
end
end Go.Proofs.Ytilejcnbacmdnaa
