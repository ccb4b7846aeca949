/- NetWhole: each parcel comes as it was sent, as often as it was sent and copied. -/
import Derived.Test.YtilejcnbacmdnaaSNet3
namespace Go.Proofs.Ytilejcnbacmdnaa
open Go Go.Sep
set_option linter.unusedSimpArgs false
set_option linter.unusedVariables false
set_option maxRecDepth 100000
section
variable {B w : World} {Γ : List HProp}

/-- After the copies: the net has the list and then copies of it. -/
def wholeI (B : World) (Γ : List HProp) (b : Nat) (P : List ParcelD) (count : Int) (most : Nat) (w : World) : Prop :=
  ∃ E : List ParcelD, (∀ e ∈ E, e ∈ P) ∧ E.length ≤ most ∧ count = ((P ++ E).length : Nat) ∧ ∃ l, l.map Prod.fst = P ++ E ∧ Holds B (NetR ty_net_Net b l :: Γ) w

theorem whole_data {P E : List ParcelD} {l : List (ParcelD × Sl)} {m : Nat} (hP : ∀ p ∈ P, p.da.length ≤ 500) (hE : ∀ e ∈ E, e ∈ P) (hl : l.map Prod.fst = (P ++ E).drop m) : ∀ x ∈ l, x.1.da.length ≤ 1000000000 := by
  intro x hx
  have : x.1 ∈ (P ++ E).drop m := by rw [← hl]; exact List.mem_map_of_mem hx
  have := List.mem_of_mem_drop this
  rcases List.mem_append.1 this with h | h
  · have := hP _ h; omega
  · have := hP _ (hE _ h); omega

theorem law20_NetWhole_spec {k : Bool → K} {s c : Sl} {L : List (ParcelD × Sl)} {C : List Int} (hs : RdC B s 7 (L.flatMap pcF)) (hL : ∀ x ∈ L, RdB B x.2 x.1.da) (hc : RdC B c 1 (C.map (Value.int .i64)))
    (h : Holds B Γ w) (hk : ∀ w, Holds B Γ w → k true w) : law20_NetWhole.call s c k w := by
  have hsn : L.length = s.n := by have := hs.len; rw [flatMap_len pcF 7 pcF_len] at this; omega
  have hcn : C.length = c.n := by have := hc.len; simpa using this
  refine law20_NetWhole_ok _ _ _ _ ?_
  unfold law20_NetWhole
  refine law20_speaks_spec h fun w h => ?_
  refine r_ite_f rfl ?_
  suffices hh : s.n ≤ 50 → law20_NetWhole.s1 k s c (decide ((50 : Int) < (c.n : Int))) w by
    refine r_ite (fun hb => ?_) (fun hb => ?_)
    · unfold law20_NetWhole.s1
      exact r_ite_t rfl (hk _ h)
    · simp only [decide_eq_false_iff_not] at hb
      exact hh (by omega)
  intro hb
  unfold law20_NetWhole.s1
  refine r_ite (fun hb2 => hk _ h) (fun hb2 => ?_)
  simp only [decide_eq_false_iff_not] at hb2
  refine net_New_spec h fun b w h => ?_
  refine r_ite_f rfl ?_
  refine LoopK.of (fun t w => ∃ j : Nat, t = (j : Int) ∧ j ≤ L.length ∧ (∀ p ∈ (L.take j).map Prod.fst, p.da.length ≤ 500) ∧ ∃ l, l.map Prod.fst = (L.take j).map Prod.fst ∧ Holds B (NetR ty_net_Net b l :: Γ) w)
    (fun t _ => ((s.n : Int) - t).toNat) ⟨0, rfl, by omega, by simp, [], rfl, h⟩ ?_
  rintro t w ⟨j, rfl, hj, hP, l, hl, h⟩
  unfold law20_NetWhole.b2
  refine r_ite (fun hb => ?_) (fun hb => ?_)
  · simp only [decide_eq_true_eq] at hb
    have hjl : j < L.length := by omega
    have hx : L[j]? = some L[j] := List.getElem?_eq_getElem hjl
    generalize hxe : L[j] = x at hx
    have hxd := hL x (List.mem_of_getElem? hx)
    have hxn : x.1.da.length = x.2.n := by have := hxd.len; simpa using this
    have hll : l.length = j := by
      have := congrArg List.length hl; simp at this; omega
    refine r_idxN pcF pcF_len (by decide) (hs.old h) hx (cs := pcA x.1 x.2) rfl fun t34 => ?_
    refine r_new h ?_
    clear h
    intro p7 w h
    try simp only [add_mk, Nat.zero_add, Nat.reduceAdd]
    first | refine r_stN 0 h rfl (by with_reducible exact at0) ?_ ?_ (fun _ _ => nofz _) ?_ ?_ | refine r_stN 1 h rfl (by with_reducible exact at1) ?_ ?_ (fun _ _ => nofz _) ?_ ?_ | refine r_stN 2 h rfl (by with_reducible exact at2) ?_ ?_ (fun _ _ => nofz _) ?_ ?_ | refine r_stN 3 h rfl (by with_reducible exact at3) ?_ ?_ (fun _ _ => nofz _) ?_ ?_ | refine r_stN 4 h rfl (by with_reducible exact at4) ?_ ?_ (fun _ _ => nofz _) ?_ ?_ | refine r_stN 5 h rfl (by with_reducible exact at5) ?_ ?_ (fun _ _ => nofz _) ?_ ?_ | refine r_stN 6 h rfl (by with_reducible exact at6) ?_ ?_ (fun _ _ => nofz _) ?_ ?_ | refine r_stN 7 h rfl (by with_reducible exact at7) ?_ ?_ (fun _ _ => nofz _) ?_ ?_
    · rfl
    · rfl
    · simp [flatV]
    clear h
    intro w h
    try simp only [List.set_cons_zero, List.set_cons_succ, List.eraseIdx_zero, List.eraseIdx_cons_zero, List.eraseIdx_cons_succ, List.setIfInBounds_toArray, List.tail_cons] at h
    refine r_ld (x := x.2) h rfl (by first | (with_reducible exact List.mem_cons_self) | (with_reducible exact List.mem_cons_of_mem _ (List.mem_cons_self)) | (with_reducible exact List.mem_cons_of_mem _ (List.mem_cons_of_mem _ (List.mem_cons_self))) | (with_reducible exact List.mem_cons_of_mem _ (List.mem_cons_of_mem _ (List.mem_cons_of_mem _ (List.mem_cons_self)))) | (with_reducible exact List.mem_cons_of_mem _ (List.mem_cons_of_mem _ (List.mem_cons_of_mem _ (List.mem_cons_of_mem _ (List.mem_cons_self))))) | (with_reducible exact List.mem_cons_of_mem _ (List.mem_cons_of_mem _ (List.mem_cons_of_mem _ (List.mem_cons_of_mem _ (List.mem_cons_of_mem _ (List.mem_cons_self)))))) | (with_reducible exact List.mem_cons_of_mem _ (List.mem_cons_of_mem _ (List.mem_cons_of_mem _ (List.mem_cons_of_mem _ (List.mem_cons_of_mem _ (List.mem_cons_of_mem _ (List.mem_cons_self))))))) | (with_reducible exact List.mem_cons_of_mem _ (List.mem_cons_of_mem _ (List.mem_cons_of_mem _ (List.mem_cons_of_mem _ (List.mem_cons_of_mem _ (List.mem_cons_of_mem _ (List.mem_cons_of_mem _ (List.mem_cons_self)))))))) | (with_reducible exact List.mem_cons_of_mem _ (List.mem_cons_of_mem _ (List.mem_cons_of_mem _ (List.mem_cons_of_mem _ (List.mem_cons_of_mem _ (List.mem_cons_of_mem _ (List.mem_cons_of_mem _ (List.mem_cons_of_mem _ (List.mem_cons_self)))))))))) ?_ ?_
    · exact rfl
    refine r_ite (fun hb2 => ?_) (fun hb2 => ?_)
    · exact hk _ h.tail.tail
    · simp only [decide_eq_false_iff_not] at hb2
      refine r_ldN h rfl (by first | (with_reducible exact List.mem_cons_self) | (with_reducible exact List.mem_cons_of_mem _ (List.mem_cons_self)) | (with_reducible exact List.mem_cons_of_mem _ (List.mem_cons_of_mem _ (List.mem_cons_self))) | (with_reducible exact List.mem_cons_of_mem _ (List.mem_cons_of_mem _ (List.mem_cons_of_mem _ (List.mem_cons_self)))) | (with_reducible exact List.mem_cons_of_mem _ (List.mem_cons_of_mem _ (List.mem_cons_of_mem _ (List.mem_cons_of_mem _ (List.mem_cons_self))))) | (with_reducible exact List.mem_cons_of_mem _ (List.mem_cons_of_mem _ (List.mem_cons_of_mem _ (List.mem_cons_of_mem _ (List.mem_cons_of_mem _ (List.mem_cons_self)))))) | (with_reducible exact List.mem_cons_of_mem _ (List.mem_cons_of_mem _ (List.mem_cons_of_mem _ (List.mem_cons_of_mem _ (List.mem_cons_of_mem _ (List.mem_cons_of_mem _ (List.mem_cons_self))))))) | (with_reducible exact List.mem_cons_of_mem _ (List.mem_cons_of_mem _ (List.mem_cons_of_mem _ (List.mem_cons_of_mem _ (List.mem_cons_of_mem _ (List.mem_cons_of_mem _ (List.mem_cons_of_mem _ (List.mem_cons_self)))))))) | (with_reducible exact List.mem_cons_of_mem _ (List.mem_cons_of_mem _ (List.mem_cons_of_mem _ (List.mem_cons_of_mem _ (List.mem_cons_of_mem _ (List.mem_cons_of_mem _ (List.mem_cons_of_mem _ (List.mem_cons_of_mem _ (List.mem_cons_self)))))))))) ?_ ?_
      · rfl
      refine net_Send_spec (p := x.1) (d := x.2) h.swap (fun w h => hxd.old h) (by omega) (fun hb => by omega) fun _ d1 w h => ?_
      refine r_ite_f rfl ?_
      refine r_add64 (by omega) (by omega) ?_
      have e : (L.take (j + 1)).map Prod.fst = (L.take j).map Prod.fst ++ [x.1] := by
        rw [List.take_succ_eq_append_getElem hjl, List.map_append, hxe]; rfl
      refine ⟨⟨j + 1, by omega, by omega, ?_, _, ?_, (h.del 1 at1)⟩, by omega⟩
      · rw [e]
        intro p hp
        rcases List.mem_append.1 hp with hp | hp
        · exact hP p hp
        · simp only [List.mem_singleton] at hp
          subst hp; omega
      · rw [e, List.map_append, hl]; rfl
  · simp only [decide_eq_false_iff_not] at hb
    have hjl : j = L.length := by omega
    subst hjl
    rw [List.take_length] at hl hP
    clear hb
    generalize hPe : L.map Prod.fst = P at hl hP
    have hPn : P.length = L.length := by rw [← hPe]; simp
    refine LoopK.of (α := Int × Int) (fun t w => ∃ j : Nat, t.2 = (j : Int) ∧ j ≤ C.length ∧ wholeI B Γ b P t.1 j w)
      (fun t _ => ((c.n : Int) - t.2).toNat) ⟨0, rfl, by omega, [], by simp, by simp, by simp; omega, l, by simpa using hl, h⟩ ?_
    clear h hl l
    rintro ⟨count, t⟩ w ⟨j, ht, hj, E, hE, hEl, hcount, l, hl, h⟩
    simp only at ht hcount
    subst ht
    have hll : l.length = P.length + E.length := by have := congrArg List.length hl; simpa using this
    have hdat := whole_data (m := 0) hP hE hl
    unfold law20_NetWhole.b3 law20_NetWhole.s4
    refine r_ite (fun hb => ?_) (fun hb => ?_)
    · simp only [decide_eq_true_eq] at hb
      have hjl : j < C.length := by omega
      refine r_idx1 (x := C[j]) (hc.old h) (List.getElem?_eq_getElem hjl) ?_
      generalize C[j] = x
      refine net_Copy_spec hdat h (fun hno w h => ?_) (fun i y hi hy hlt d w h => ?_)
      · refine r_ite_f rfl ?_
        refine r_add64 (by omega) (by omega) ?_
        exact ⟨⟨j + 1, by simp, by omega, E, hE, by omega, hcount, l, hl, h⟩, by simp only; omega⟩
      · refine r_ite_t rfl ?_
        rw [List.length_append] at hcount
        refine r_add64 (by omega) (by omega) ?_
        refine r_add64 (by omega) (by omega) ?_
        have hyE : y.1 ∈ P := by
          have : y.1 ∈ P ++ E := by rw [← hl]; exact List.mem_map_of_mem (List.mem_of_getElem? hy)
          rcases List.mem_append.1 this with h | h
          · exact h
          · exact hE _ h
        refine ⟨⟨j + 1, by simp, by omega, E ++ [y.1], ?_, by simp; omega, ?_, _, ?_, h⟩, by simp only; omega⟩
        · intro e he
          rcases List.mem_append.1 he with he | he
          · exact hE _ he
          · simp only [List.mem_singleton] at he; subst he; exact hyE
        · simp only [List.length_append, List.length_singleton]; omega
        · rw [List.map_append, hl, List.append_assoc]; rfl
    · clear hb
      have hEn : E.length ≤ 50 := by omega
      clear hdat
      refine LoopK.of (fun t w => ∃ m : Nat, t = (m : Int) ∧ m ≤ (P ++ E).length ∧ ∃ l, l.map Prod.fst = (P ++ E).drop m ∧ Holds B (NetR ty_net_Net b l :: Γ) w)
        (fun t _ => (((P ++ E).length : Int) - t).toNat) ⟨0, rfl, by omega, l, hl, h⟩ ?_
      clear h hl hll l
      rintro t w ⟨m, rfl, hm, l, hl, h⟩
      have hll : l.length = (P ++ E).length - m := by have := congrArg List.length hl; simpa using this
      have hdat := whole_data hP hE hl
      have hAl : (P ++ E).length = P.length + E.length := List.length_append
      unfold law20_NetWhole.b5
      refine net_Len_spec h fun w h => ?_
      refine r_ite (fun hb => ?_) (fun hb => ?_)
      · simp only [decide_eq_true_eq] at hb
        refine net_Take_spec (by omega) hdat h (fun hno => absurd hno (by omega)) fun i x hi hx d w h => ?_
        obtain rfl : i = 0 := by omega
        rw [List.eraseIdx_zero] at h
        have hml : m < (P ++ E).length := by omega
        have hx1 : (P ++ E)[m]? = some x.1 := by
          have := congrArg (·[0]?) hl
          simp only [List.getElem?_map, hx, List.getElem?_drop, Nat.add_zero, Option.map_some] at this
          exact this.symm
        have hxP : x.1 ∈ P := by
          rcases List.mem_append.1 (List.mem_of_getElem? hx1) with h | h
          · exact h
          · exact hE _ h
        refine r_new h ?_
        clear h
        intro p12 w h
        try simp only [add_mk, Nat.zero_add, Nat.reduceAdd]
        first | refine r_stN 0 h rfl (by with_reducible exact at0) ?_ ?_ (fun _ _ => nofz _) ?_ ?_ | refine r_stN 1 h rfl (by with_reducible exact at1) ?_ ?_ (fun _ _ => nofz _) ?_ ?_ | refine r_stN 2 h rfl (by with_reducible exact at2) ?_ ?_ (fun _ _ => nofz _) ?_ ?_ | refine r_stN 3 h rfl (by with_reducible exact at3) ?_ ?_ (fun _ _ => nofz _) ?_ ?_ | refine r_stN 4 h rfl (by with_reducible exact at4) ?_ ?_ (fun _ _ => nofz _) ?_ ?_ | refine r_stN 5 h rfl (by with_reducible exact at5) ?_ ?_ (fun _ _ => nofz _) ?_ ?_ | refine r_stN 6 h rfl (by with_reducible exact at6) ?_ ?_ (fun _ _ => nofz _) ?_ ?_ | refine r_stN 7 h rfl (by with_reducible exact at7) ?_ ?_ (fun _ _ => nofz _) ?_ ?_
        · rfl
        · rfl
        · simp [flatV]
        clear h
        intro w h
        try simp only [List.set_cons_zero, List.set_cons_succ, List.eraseIdx_zero, List.eraseIdx_cons_zero, List.eraseIdx_cons_succ, List.setIfInBounds_toArray, List.tail_cons] at h
        refine r_dr h ?_
        clear h
        intro w h
        refine r_ite_f rfl ?_
        suffices hh : ∀ w, Holds B (blk p12 (.cells (pcA x.1 d) 38 (0, 0)) :: Bytes ty_uint8 d x.1.da :: NetR ty_net_Net b l.tail :: Γ) w → law20_NetWhole.s6 k _ _ _ s (some ⟨b, 0, none⟩) count m ⟨p12, 0, none⟩ false w by
          refine r_ite (fun hb3 => ?_) (fun hb3 => ?_)
          · simp only [decide_eq_true_eq] at hb3
            have hmL : m < L.length := by omega
            have hy : L[m]? = some L[m] := List.getElem?_eq_getElem hmL
            generalize L[m] = y at hy
            refine r_idxA pcF pcF_len (by decide) (hs.old h) hy fun t81 ht => ?_
            refine r_ldN h rfl (by first | (with_reducible exact List.mem_cons_self) | (with_reducible exact List.mem_cons_of_mem _ (List.mem_cons_self)) | (with_reducible exact List.mem_cons_of_mem _ (List.mem_cons_of_mem _ (List.mem_cons_self))) | (with_reducible exact List.mem_cons_of_mem _ (List.mem_cons_of_mem _ (List.mem_cons_of_mem _ (List.mem_cons_self)))) | (with_reducible exact List.mem_cons_of_mem _ (List.mem_cons_of_mem _ (List.mem_cons_of_mem _ (List.mem_cons_of_mem _ (List.mem_cons_self))))) | (with_reducible exact List.mem_cons_of_mem _ (List.mem_cons_of_mem _ (List.mem_cons_of_mem _ (List.mem_cons_of_mem _ (List.mem_cons_of_mem _ (List.mem_cons_self)))))) | (with_reducible exact List.mem_cons_of_mem _ (List.mem_cons_of_mem _ (List.mem_cons_of_mem _ (List.mem_cons_of_mem _ (List.mem_cons_of_mem _ (List.mem_cons_of_mem _ (List.mem_cons_self))))))) | (with_reducible exact List.mem_cons_of_mem _ (List.mem_cons_of_mem _ (List.mem_cons_of_mem _ (List.mem_cons_of_mem _ (List.mem_cons_of_mem _ (List.mem_cons_of_mem _ (List.mem_cons_of_mem _ (List.mem_cons_self)))))))) | (with_reducible exact List.mem_cons_of_mem _ (List.mem_cons_of_mem _ (List.mem_cons_of_mem _ (List.mem_cons_of_mem _ (List.mem_cons_of_mem _ (List.mem_cons_of_mem _ (List.mem_cons_of_mem _ (List.mem_cons_of_mem _ (List.mem_cons_self)))))))))) ?_ ?_
            · rfl
            refine r_ldN_of rfl (ht _ (hs.old h)) ?_
            have hyx : x.1 = y.1 := by
              have h1 : P[m]? = some y.1 := by rw [← hPe]; simp [hy]
              rw [List.getElem?_append_left (by omega), h1] at hx1
              exact (Option.some.inj hx1).symm
            refine ref_Same_spec (p := x.1) (q := y.1) (d := d) (e := y.2) h (fun w h => h.rdC (List.mem_cons_of_mem _ List.mem_cons_self)) (fun w h => (hL y (List.mem_of_getElem? hy)).old h) fun w h => ?_
            rw [decide_eq_true hyx]
            exact hh _ h
          · exact hh _ h
        clear h
        intro w h
        unfold law20_NetWhole.s6
        refine r_ite_f rfl ?_
        refine LoopK.of (α := Bool × Int) (fun t w => ∃ j : Nat, t.2 = (j : Int) ∧ j ≤ L.length ∧ t.1 = decide (x.1 ∈ (L.take j).map Prod.fst) ∧ Holds B (blk p12 (.cells (pcA x.1 d) 38 (0, 0)) :: Bytes ty_uint8 d x.1.da :: NetR ty_net_Net b l.tail :: Γ) w)
          (fun t _ => ((s.n : Int) - t.2).toNat) ⟨0, rfl, by omega, by simp, h⟩ ?_
        clear h
        rintro ⟨found, t⟩ w ⟨j, ht, hj, hf, h⟩
        simp only at ht hf
        subst ht
        unfold law20_NetWhole.b7 law20_NetWhole.s8
        refine r_ite (fun hb => ?_) (fun hb => ?_)
        · simp only [decide_eq_true_eq] at hb
          have hjl : j < L.length := by omega
          have hy : L[j]? = some L[j] := List.getElem?_eq_getElem hjl
          generalize hye : L[j] = y at hy
          have e : (L.take (j + 1)).map Prod.fst = (L.take j).map Prod.fst ++ [y.1] := by
            rw [List.take_succ_eq_append_getElem hjl, List.map_append, hye]; rfl
          refine r_idxN pcF pcF_len (by decide) (hs.old h) hy (cs := pcA y.1 y.2) rfl fun t91 => ?_
          refine r_new h ?_
          clear h
          intro x16 w h
          try simp only [add_mk, Nat.zero_add, Nat.reduceAdd]
          first | refine r_stN 0 h rfl (by with_reducible exact at0) ?_ ?_ (fun _ _ => nofz _) ?_ ?_ | refine r_stN 1 h rfl (by with_reducible exact at1) ?_ ?_ (fun _ _ => nofz _) ?_ ?_ | refine r_stN 2 h rfl (by with_reducible exact at2) ?_ ?_ (fun _ _ => nofz _) ?_ ?_ | refine r_stN 3 h rfl (by with_reducible exact at3) ?_ ?_ (fun _ _ => nofz _) ?_ ?_ | refine r_stN 4 h rfl (by with_reducible exact at4) ?_ ?_ (fun _ _ => nofz _) ?_ ?_ | refine r_stN 5 h rfl (by with_reducible exact at5) ?_ ?_ (fun _ _ => nofz _) ?_ ?_ | refine r_stN 6 h rfl (by with_reducible exact at6) ?_ ?_ (fun _ _ => nofz _) ?_ ?_ | refine r_stN 7 h rfl (by with_reducible exact at7) ?_ ?_ (fun _ _ => nofz _) ?_ ?_
          · rfl
          · rfl
          · simp [flatV]
          clear h
          intro w h
          try simp only [List.set_cons_zero, List.set_cons_succ, List.eraseIdx_zero, List.eraseIdx_cons_zero, List.eraseIdx_cons_succ, List.setIfInBounds_toArray, List.tail_cons] at h
          refine r_ite (fun hf2 => ?_) (fun hf2 => ?_)
          · refine r_add64 (by omega) (by omega) ?_
            refine ⟨⟨j + 1, by simp, by omega, ?_, h.tail⟩, by omega⟩
            rw [hf2] at hf
            have hf3 := of_decide_eq_true hf.symm
            rw [e]
            exact (decide_eq_true (List.mem_append_left _ hf3)).symm
          · refine r_ldN h rfl (by first | (with_reducible exact List.mem_cons_self) | (with_reducible exact List.mem_cons_of_mem _ (List.mem_cons_self)) | (with_reducible exact List.mem_cons_of_mem _ (List.mem_cons_of_mem _ (List.mem_cons_self))) | (with_reducible exact List.mem_cons_of_mem _ (List.mem_cons_of_mem _ (List.mem_cons_of_mem _ (List.mem_cons_self)))) | (with_reducible exact List.mem_cons_of_mem _ (List.mem_cons_of_mem _ (List.mem_cons_of_mem _ (List.mem_cons_of_mem _ (List.mem_cons_self))))) | (with_reducible exact List.mem_cons_of_mem _ (List.mem_cons_of_mem _ (List.mem_cons_of_mem _ (List.mem_cons_of_mem _ (List.mem_cons_of_mem _ (List.mem_cons_self)))))) | (with_reducible exact List.mem_cons_of_mem _ (List.mem_cons_of_mem _ (List.mem_cons_of_mem _ (List.mem_cons_of_mem _ (List.mem_cons_of_mem _ (List.mem_cons_of_mem _ (List.mem_cons_self))))))) | (with_reducible exact List.mem_cons_of_mem _ (List.mem_cons_of_mem _ (List.mem_cons_of_mem _ (List.mem_cons_of_mem _ (List.mem_cons_of_mem _ (List.mem_cons_of_mem _ (List.mem_cons_of_mem _ (List.mem_cons_self)))))))) | (with_reducible exact List.mem_cons_of_mem _ (List.mem_cons_of_mem _ (List.mem_cons_of_mem _ (List.mem_cons_of_mem _ (List.mem_cons_of_mem _ (List.mem_cons_of_mem _ (List.mem_cons_of_mem _ (List.mem_cons_of_mem _ (List.mem_cons_self)))))))))) ?_ ?_
            · rfl
            refine r_ldN h rfl (by first | (with_reducible exact List.mem_cons_self) | (with_reducible exact List.mem_cons_of_mem _ (List.mem_cons_self)) | (with_reducible exact List.mem_cons_of_mem _ (List.mem_cons_of_mem _ (List.mem_cons_self))) | (with_reducible exact List.mem_cons_of_mem _ (List.mem_cons_of_mem _ (List.mem_cons_of_mem _ (List.mem_cons_self)))) | (with_reducible exact List.mem_cons_of_mem _ (List.mem_cons_of_mem _ (List.mem_cons_of_mem _ (List.mem_cons_of_mem _ (List.mem_cons_self))))) | (with_reducible exact List.mem_cons_of_mem _ (List.mem_cons_of_mem _ (List.mem_cons_of_mem _ (List.mem_cons_of_mem _ (List.mem_cons_of_mem _ (List.mem_cons_self)))))) | (with_reducible exact List.mem_cons_of_mem _ (List.mem_cons_of_mem _ (List.mem_cons_of_mem _ (List.mem_cons_of_mem _ (List.mem_cons_of_mem _ (List.mem_cons_of_mem _ (List.mem_cons_self))))))) | (with_reducible exact List.mem_cons_of_mem _ (List.mem_cons_of_mem _ (List.mem_cons_of_mem _ (List.mem_cons_of_mem _ (List.mem_cons_of_mem _ (List.mem_cons_of_mem _ (List.mem_cons_of_mem _ (List.mem_cons_self)))))))) | (with_reducible exact List.mem_cons_of_mem _ (List.mem_cons_of_mem _ (List.mem_cons_of_mem _ (List.mem_cons_of_mem _ (List.mem_cons_of_mem _ (List.mem_cons_of_mem _ (List.mem_cons_of_mem _ (List.mem_cons_of_mem _ (List.mem_cons_self)))))))))) ?_ ?_
            · rfl
            refine ref_Same_spec (p := x.1) (q := y.1) (d := d) (e := y.2) h (fun w h => h.rdC (List.mem_cons_of_mem _ (List.mem_cons_of_mem _ List.mem_cons_self))) (fun w h => (hL y (List.mem_of_getElem? hy)).old h) fun w h => ?_
            refine r_add64 (by omega) (by omega) ?_
            refine ⟨⟨j + 1, by simp, by omega, ?_, h.tail⟩, by omega⟩
            rw [hf2] at hf
            have hf3 := of_decide_eq_false hf.symm
            rw [e]
            simp only [List.mem_append, List.mem_singleton, hf3, false_or]
        · simp only [decide_eq_false_iff_not] at hb
          have hjl : j = L.length := by omega
          subst hjl
          rw [List.take_length, hPe, decide_eq_true hxP] at hf
          subst hf
          refine r_ite_f rfl ?_
          refine r_add64 (by omega) (by omega) ?_
          refine ⟨⟨m + 1, by simp, by omega, _, ?_, h.tail.tail⟩, by omega⟩
          rw [List.map_tail, hl, List.tail_drop]
      · simp only [decide_eq_false_iff_not] at hb
        have e : (m : Int) = count := by omega
        rw [decide_eq_true e]
        exact hk _ h.tail
end
end Go.Proofs.Ytilejcnbacmdnaa

namespace Go.Proofs.Ytilejcnbacmdnaa
open Go Go.Sep Go.RowKit
theorem rdy_parcel {w : World} {cs : List Value} (hc : cs.length = 7) (y : Rdy w (.fld 0 1 (.int .i64) (.fld 1 1 (.int .i64) (.fld 2 5 (.fld 0 1 (.int .u64) (.fld 1 1 (.int .u64) (.fld 2 1 (.int .u64) (.fld 3 1 (.int .u64) (.fld 4 1 (.sl (.int .u8) 1) .nil))))) .nil))) cs) :
    ∃ x : ParcelD × Sl, cs = pcF x ∧ RdB w x.2 x.1.da := by
  match cs, hc with
  | [a, b, c, d, e, f, g], _ =>
    obtain ⟨⟨x0, e0, _⟩, ⟨x1, e1, _⟩, ⟨⟨y0, f0, _⟩, ⟨y1, f1, _⟩, ⟨y2, f2, _⟩, ⟨y3, f3, _⟩, ⟨s, f4, _, _, h1, h2⟩, _⟩, _⟩ := y
    cases e0; cases e1; cases f0; cases f1; cases f2; cases f3; cases f4
    obtain ⟨xs, _, h3⟩ := rd_bytes h1 h2
    exact ⟨(⟨x0, x1, y0, y1, y2, y3, xs⟩, s), rfl, h3⟩
theorem NetWhole_walk (W : World) (s : Sl) (y0 : Rdy W Sh_ty_s_api_Parcel (Sl.val s).cells.toList) (d : Sl) (y1 : Rdy W Sh_ty_s_int (Sl.val d).cells.toList) :
    Calls Try.prog 4 #[s.val, d.val] W (Ret fun v w' => v = .bool true ∧ Below W.heap.size W w') := by
  obtain ⟨h1, h2⟩ := rdy_sl y0
  obtain ⟨L, _, hL, hd⟩ := rd_list pcF (fun x => RdB W x.2 x.1.da) pcF_len h1 h2 fun cs hc hr => rdy_parcel hc hr
  obtain ⟨D, hD, _⟩ := rdy_ints y1
  exact law_call (law20_NetWhole_spec hL hd hD (Holds.start W) fun w h => ⟨rfl, h⟩)
end Go.Proofs.Ytilejcnbacmdnaa
