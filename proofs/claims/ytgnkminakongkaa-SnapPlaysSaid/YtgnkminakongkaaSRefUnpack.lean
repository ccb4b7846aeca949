/- The document's Unpack. -/
import Derived.Test.YtgnkminakongkaaSRefPack
namespace Go.Proofs.Ytgnkminakongkaa
open Go Go.Sep
set_option linter.unusedSimpArgs false
set_option linter.unusedVariables false
set_option maxRecDepth 100000

theorem numL_noprefix {m n j : Nat} (h : (numL m).take j = numL n) (hj : j < (numL m).length) : False := by
  obtain ⟨l, b, h1, h2, h3, _⟩ := numL_shape n
  obtain ⟨l', b', h1', h2', _, _⟩ := numL_shape m
  rw [h1, h1'] at h
  rw [h1'] at hj
  simp only [List.length_append, List.length_singleton] at hj
  rw [List.take_append_of_le_length (by omega)] at h
  have hb : b ∈ l'.take j := by rw [h]; simp
  have := h2' b (List.mem_of_mem_take hb)
  omega

/-- What is known within the reading of frames. -/
structure UnpI (d : List UInt8) (n i : Nat) (b F : List UInt8) : Prop where
  le : i ≤ d.length
  bn : b.length ≤ n
  bi : b.length ≤ i
  eq : d = frameL (numL n) ++ F ++ d.drop i
  fr : ∀ r, b.length + r.length = n → framesL (b ++ r) = F ++ framesL r
  no : ∀ b0, packL b0 = d → b0.length = n ∧ b = b0.take b.length ∧ d.drop i = framesL (b0.drop b.length)
theorem UnpI.step {d : List UInt8} {n i : Nat} {b F : List UInt8} (hI : UnpI d n i b F) (hbn : b.length < n) (he : (unframeL (d.drop i)).2.2 = 0) (hw : (unframeL (d.drop i)).1.length = min 1024 (n - b.length)) :
    UnpI d n (i + (unframeL (d.drop i)).2.1) (b ++ (unframeL (d.drop i)).1) (F ++ frameL (unframeL (d.drop i)).1) := by
  have hF := unfF (d.drop i)
  have h1 := hF.le
  obtain ⟨h2, h3, h4⟩ := hF.ok he
  generalize hx : (unframeL (d.drop i)).1 = x at *
  generalize hkk : (unframeL (d.drop i)).2.1 = kk at *
  simp only [List.length_drop] at h1
  refine ⟨by have := hI.le; omega, by rw [List.length_append]; omega, by rw [List.length_append]; have := hI.bi; omega, ?_, fun r hr => ?_, fun b0 hb0 => ?_⟩
  · rw [← List.drop_drop]
    have e := hI.eq
    rw [h4] at e
    rw [← List.append_assoc] at e
    rw [← List.append_assoc]
    exact e
  · rw [List.length_append] at hr
    have h5 := hI.fr (x ++ r) (by rw [List.length_append]; omega)
    have hne : x ++ r ≠ [] := fun e => by
      have := congrArg List.length e
      rw [List.length_append, List.length_nil] at this
      omega
    have h6 : (x ++ r).take 1024 = x ∧ (x ++ r).drop 1024 = r := by
      by_cases h10 : x.length = 1024
      · rw [← h10]; exact ⟨List.take_left, List.drop_left⟩
      · have : r = [] := List.length_eq_zero_iff.1 (by omega)
        subst this
        rw [List.append_nil]
        exact ⟨List.take_of_length_le (by omega), List.drop_of_length_le (by omega)⟩
    rw [List.append_assoc, h5, framesL_cons hne, h6.1, h6.2, List.append_assoc]
  · obtain ⟨g1, g2, g3⟩ := hI.no b0 hb0
    have hne : b0.drop b.length ≠ [] := fun e => by have := congrArg List.length e; simp at this; omega
    rw [framesL_cons hne] at g3
    have hu := unframe_frame (b := (b0.drop b.length).take 1024) (framesL ((b0.drop b.length).drop 1024)) (by simp; omega)
    rw [← g3] at hu
    have hx2 : x = (b0.drop b.length).take 1024 := by rw [← hx, hu]
    have hk2 : kk = 6 + x.length := by omega
    refine ⟨g1, ?_, ?_⟩
    · rw [List.length_append, List.take_add, ← g2]
      congr 1
      rw [hx2, List.length_take]
      by_cases h10 : 1024 ≤ (b0.drop b.length).length
      · rw [Nat.min_eq_left h10]
      · rw [Nat.min_eq_right (by omega), List.take_of_length_le (by omega), List.take_length]
    · rw [← List.drop_drop, g3, ← hx2, hk2, ← frameL_len, List.drop_left, List.drop_drop, List.length_append]
      by_cases h10 : x.length = 1024
      · rw [h10]
      · rw [List.drop_of_length_le (by omega), List.drop_of_length_le (by omega)]

section
variable {B w : World} {Γ : List HProp}
theorem ref08_Unpack_spec {s : Sl} {d : List UInt8} {k : Sl → Int → K} (hl : d.length ≤ 100000) (hcap : s.n ≤ s.c) (h : Holds B Γ w) (hr : ∀ w, Holds B Γ w → RdB w s d)
    (hok : ∀ b f w, packL b = d → Holds B (Bytes ty_uint8 f b :: Γ) w → k f 0 w) (hno : (∀ b, packL b ≠ d) → ∀ f w, Holds B (Bytes ty_uint8 f [] :: Γ) w → k f 61 w) : ref08_Unpack.call s k w := by
  have hn : d.length = s.n := by have := (hr w h).len; simpa using this
  have torn : ∀ (w : World) (t : Nat), (∀ b, packL b ≠ d) → Holds B (blk t (.cells #[] ty_uint8 (0, 0)) :: Γ) w → k (Sl.mk (some ⟨t, 0, none⟩) 0 0) 61 w := fun w t hb h => hno hb _ _ (bytes_new (xs := []) (n := 0) (by rfl) rfl h)
  have hhead : ∀ b0, packL b0 = d → unframeL d = (numL b0.length, 6 + (numL b0.length).length, 0) := fun b0 hb0 => by
    have h1 := pack_len_ge b0
    rw [hb0] at h1
    have := unframe_frame (b := numL b0.length) (framesL b0) (numL_few (by omega))
    rw [← hb0]
    exact this
  refine ref08_Unpack_ok _ _ _ ?_
  unfold ref08_Unpack
  have hF := unfF d
  refine ref01_Unframe_spec (by omega) h hr hcap fun f w h => ?_
  refine r_ite (fun hb => ?_) (fun hb => ?_)
  · simp only [decide_eq_true_eq] at hb
    refine r_new h ?_
    clear h
    intro t23 w h
    try simp only [add_mk, Nat.zero_add, Nat.reduceAdd]
    refine torn _ _ (fun b0 hb0 => hb ?_) (h.del 1 at1)
    rw [hhead b0 hb0]; rfl
  simp only [decide_eq_false_iff_not] at hb
  have he0 : (unframeL d).2.2 = 0 := by omega
  obtain ⟨hk6, hkl, heq⟩ := hF.ok he0
  have hhs := hF.small
  have hle := hF.le
  generalize hhs2 : (unframeL d).1 = hs at *
  generalize hkk : (unframeL d).2.1 = kk at *
  have hhd : ∀ b0, packL b0 = d → hs = numL b0.length := fun b0 hb0 => by rw [← hhs2, hhead b0 hb0]
  have hfn := Bytes.len h
  refine r_new h ?_
  clear h
  intro t26 w h
  try simp only [add_mk, Nat.zero_add, Nat.reduceAdd]
  refine ref01_Eye_Num_spec (hs := hs) (by omega) h (fun w h => Bytes.rd h List.mem_cons_self) (fun n m w hm hml hn2 h => ?_) (fun c w hc hcn h => ?_)
  · refine r_ite_f rfl ?_
    refine ref01_Eye_End_spec h fun w h => ?_
    refine r_ite (fun hb2 => ?_) (fun hb2 => ?_)
    · simp only [decide_eq_true_eq] at hb2
      unfold ref08_Unpack.s1
      refine r_ite_t rfl ?_
      refine r_new h ?_
      clear h
      intro t46 w h
      try simp only [add_mk, Nat.zero_add, Nat.reduceAdd]
      refine torn _ _ (fun b0 hb0 => ?_) ((h.del 1 at1).del 1 at1)
      have hmf : m < f.n := by
        by_cases hmf : m < f.n
        · exact hmf
        · rw [if_neg hmf] at hb2; exact absurd rfl hb2
      have h1 := hhd b0 hb0
      rw [h1] at hm
      exact numL_noprefix hm (by rw [← h1]; omega)
    simp only [decide_eq_false_iff_not, Decidable.not_not] at hb2
    have hmf : m = hs.length := by
      by_cases hmf : m < f.n
      · rw [if_pos hmf] at hb2; exact absurd hb2 (by decide)
      · omega
    rw [hmf, List.take_length] at hm
    refine r_ar (wrapU64 (by omega) (by omega)) ?_
    unfold ref08_Unpack.s1
    refine r_ite (fun hb3 => ?_) (fun hb3 => ?_)
    · simp only [decide_eq_true_eq] at hb3
      refine r_new h ?_
      clear h
      intro t46 w h
      try simp only [add_mk, Nat.zero_add, Nat.reduceAdd]
      refine torn _ _ (fun b0 hb0 => ?_) ((h.del 1 at1).del 1 at1)
      have h1 := hhd b0 hb0
      rw [hm] at h1
      have h2 := numL_inj _ _ h1
      have h3 := pack_len_ge b0
      rw [hb0] at h3
      omega
    simp only [decide_eq_false_iff_not] at hb3
    refine r_new h ?_
    clear h
    intro t47 w h
    try simp only [add_mk, Nat.zero_add, Nat.reduceAdd]
    replace h := bytes_new (xs := []) (n := 0) (by rfl) rfl ((h.del 1 at1).del 1 at1)
    have hI0 : UnpI d n kk [] [] := by
      refine ⟨hle, by simp, by simp, by rw [← hm, List.append_nil]; exact heq, fun r _ => rfl, fun b0 hb0 => ?_⟩
      have h1 := hhd b0 hb0
      rw [hm] at h1
      have h2 := numL_inj _ _ h1
      refine ⟨h2.symm, rfl, ?_⟩
      have h3 : d = frameL (numL b0.length) ++ framesL b0 := hb0.symm
      rw [← h2, ← hm] at h3
      have h4 : 6 + hs.length = kk := by omega
      show d.drop kk = framesL b0
      rw [h3, ← h4, ← frameL_len, List.drop_left]
    refine LoopK.of (fun t w => ∃ (i : Nat) (b F : List UInt8), t.1 = (i : Int) ∧ UnpI d n i b F ∧ Holds B (Bytes ty_uint8 t.2 b :: Γ) w) (fun t _ => ((s.n : Int) - t.1).toNat + 1) ⟨kk, [], [], rfl, hI0, h⟩ ?_
    clear h
    rintro ⟨t, o⟩ w ⟨i, b, F, ht, hI, h⟩
    simp only at ht h
    subst ht
    dsimp only
    have hon := Bytes.len h
    have hi := hI.le
    have hbn := hI.bn
    have hbi := hI.bi
    unfold ref08_Unpack.b2
    refine r_ar (wrapU64 (by omega) (by omega)) ?_
    refine r_ite (fun hb4 => ?_) (fun hb4 => ?_)
    · simp only [decide_eq_true_eq] at hb4
      refine ⟨_, by omega, by omega, by omega, by omega, rfl, ?_⟩
      simp only [Int.toNat_natCast]
      have hG := unfF (d.drop i)
      have hsm := hG.small
      have hGle := hG.le
      simp only [List.length_drop] at hGle
      have hdrop : ∀ w, Holds B (Bytes ty_uint8 o b :: Γ) w → RdB w ⟨cutA s.a i s.c 1, s.n - i, s.c - i⟩ (d.drop i) := fun w h => by
        by_cases hne : d = []
        · have hi0 : i = 0 := by rw [hne] at hi; simpa using hi
          have hs0 : s.n = 0 := by rw [← hn, hne]; rfl
          subst hi0
          have h1 := hr w h.tail
          have e : cutA s.a 0 s.c 1 = s.a := by
            unfold cutA
            split
            · rfl
            · cases s.a <;> simp [Addr.add]
          rw [e, Nat.sub_zero, Nat.sub_zero, List.drop_zero]
          exact h1
        · exact rdB_drop (hr w h.tail) (by omega) hcap (rd_spot (hr w h.tail) hne)
      refine ref01_Unframe_spec (d := d.drop i) (by simp; omega) h hdrop (by simp only; omega) fun g w h => ?_
      have hgn := Bytes.len h
      have hno2 : (¬ ((unframeL (d.drop i)).2.2 = 0 ∧ (unframeL (d.drop i)).1.length = min 1024 (n - b.length))) → ∀ b0, packL b0 ≠ d := fun hbad b0 hb0 => by
        obtain ⟨g1, g2, g3⟩ := hI.no b0 hb0
        have hne : b0.drop b.length ≠ [] := fun e => by have := congrArg List.length e; simp at this; omega
        rw [framesL_cons hne] at g3
        have hu := unframe_frame (b := (b0.drop b.length).take 1024) (framesL ((b0.drop b.length).drop 1024)) (by simp; omega)
        rw [← g3] at hu
        rw [hu] at hbad
        refine hbad ⟨rfl, ?_⟩
        simp only [List.length_take, List.length_drop]
        omega
      refine r_ar (wrapU64 (by omega) (by omega)) ?_
      refine r_ar (e' := ((n - b.length : Nat) : Int)) (by rw [wrapU64 (by omega) (by omega)]; omega) ?_
      have main : ∀ want : Nat, want = min 1024 (n - b.length) → ref08_Unpack.s3 k (fun t o w' => (∃ (i : Nat) (b F : List UInt8), t = (i : Int) ∧ UnpI d n i b F ∧ Holds B (Bytes ty_uint8 o b :: Γ) w') ∧ ((s.n : Int) - t).toNat + 1 < ((s.n : Int) - (i : Int)).toNat + 1) s (i : Int) (n : Int) o g ((unframeL (d.drop i)).2.1 : Int) ((unframeL (d.drop i)).2.2 : Int) (want : Int) w := by
        intro want hwant
        have tornx : (∀ b0, packL b0 ≠ d) → ref08_Unpack.s4 k (fun t o w' => (∃ (i : Nat) (b F : List UInt8), t = (i : Int) ∧ UnpI d n i b F ∧ Holds B (Bytes ty_uint8 o b :: Γ) w') ∧ ((s.n : Int) - t).toNat + 1 < ((s.n : Int) - (i : Int)).toNat + 1) s (i : Int) (n : Int) o g ((unframeL (d.drop i)).2.1 : Int) true w := fun hb0 => by
          unfold ref08_Unpack.s4
          refine r_ite_t rfl ?_
          refine r_new h ?_
          clear h
          intro t77 w h
          try simp only [add_mk, Nat.zero_add, Nat.reduceAdd]
          exact torn _ _ hb0 ((h.del 1 at1).del 1 at1)
        unfold ref08_Unpack.s3
        refine r_ite (fun hb5 => ?_) (fun hb5 => ?_)
        · simp only [decide_eq_true_eq] at hb5
          exact tornx (hno2 (fun hh => hb5 (by rw [hh.1]; rfl)))
        simp only [decide_eq_false_iff_not] at hb5
        have hz : (unframeL (d.drop i)).2.2 = 0 := by omega
        refine r_ar (wrapU64 (by omega) (by omega)) ?_
        by_cases hw : (unframeL (d.drop i)).1.length = want
        · rw [decide_eq_false (by omega)]
          unfold ref08_Unpack.s4
          refine r_ite_f rfl ?_
          have hst := hI.step (by omega) hz (by omega)
          have h6 := (hG.ok hz).1
          refine r_appB h.swap (Bytes.rd h List.mem_cons_self) (by omega) fun o' w h _ _ => ?_
          refine r_ar (e' := ((i + (unframeL (d.drop i)).2.1 : Nat) : Int)) (by rw [wrap64 (by omega) (by omega)]; omega) ?_
          exact ⟨⟨_, _, _, rfl, hst, h.del 1 at1⟩, by omega⟩
        · rw [decide_eq_true (by omega)]
          exact tornx (hno2 (fun hh => hw (by rw [hh.2, hwant])))
      refine r_ite (fun hb5 => ?_) (fun hb5 => ?_)
      · simp only [decide_eq_true_eq] at hb5
        exact main 1024 (by omega)
      · simp only [decide_eq_false_iff_not] at hb5
        exact main (n - b.length) (by omega)
    · simp only [decide_eq_false_iff_not] at hb4
      have hbn2 : b.length = n := by omega
      refine r_ite (fun hb5 => ?_) (fun hb5 => ?_)
      · simp only [decide_eq_true_eq] at hb5
        refine r_new h ?_
        clear h
        intro t88 w h
        try simp only [add_mk, Nat.zero_add, Nat.reduceAdd]
        refine torn _ _ (fun b0 hb0 => ?_) (h.del 1 at1)
        obtain ⟨g1, g2, g3⟩ := hI.no b0 hb0
        have : b0.drop b.length = [] := List.drop_of_length_le (by omega)
        rw [this, framesL_nil] at g3
        have := congrArg List.length g3
        simp at this; omega
      · simp only [decide_eq_false_iff_not, Decidable.not_not] at hb5
        refine hok b o _ ?_ h
        have h1 := hI.eq
        have h2 : d.drop i = [] := List.drop_of_length_le (by omega)
        rw [h2, List.append_nil] at h1
        have h3 := hI.fr [] (by simpa using hbn2)
        rw [List.append_nil, framesL_nil, List.append_nil] at h3
        unfold packL
        rw [hbn2, h3]
        exact h1.symm
  · refine r_ite_t (by simp only [decide_eq_true_eq]; exact hc) ?_
    unfold ref08_Unpack.s1
    refine r_ite_t rfl ?_
    refine r_new h ?_
    clear h
    intro t46 w h
    try simp only [add_mk, Nat.zero_add, Nat.reduceAdd]
    refine torn _ _ (fun b0 hb0 => ?_) ((h.del 1 at1).del 1 at1)
    have h1 := pack_len_ge b0
    rw [hb0] at h1
    exact hcn b0.length (by omega) (hhd b0 hb0)
end
end Go.Proofs.Ytgnkminakongkaa
