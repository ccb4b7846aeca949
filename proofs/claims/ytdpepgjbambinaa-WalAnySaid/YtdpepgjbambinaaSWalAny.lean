/- WalAny. -/
import Derived.Test.YtdpepgjbambinaaSWalAnyM
import Derived.Test.YtdpepgjbambinaaSRefFr
import Derived.Test.YtdpepgjbambinaaIRLaw04WalAny
import Derived.Test.YtdpepgjbambinaaShapes
import Derived.Test.YtdpepgjbambinaaRow
namespace Go.Proofs.Ytdpepgjbambinaa
open Go Go.Sep
set_option linter.unusedSimpArgs false
set_option linter.unusedVariables false
set_option maxRecDepth 100000
theorem any_count : ∀ (Q : List (List UInt8)) (st : AnyS), (∀ p ∈ Q, p.length ≤ 5000) → (Q.foldl anyS st).1.length ≤ st.1.length + 5000 * Q.length
  | [], st, _ => by simp
  | p :: Q, st, h => by
    have h1 := any_count Q (anyS st p) fun x hx => h x (List.mem_cons_of_mem _ hx)
    have h2 := (parse_le _ p rfl).1
    have h3 := h p List.mem_cons_self
    have h4 : (anyS st p).1.length ≤ st.1.length + 5000 := by
      unfold anyS
      split
      · rw [List.length_append]; omega
      · omega
    simp only [List.foldl_cons, List.length_cons]
    omega
theorem any_small : ∀ (Q : List (List UInt8)) (st : AnyS), (∀ r ∈ st.1, r.length ≤ 4096) → ∀ r ∈ (Q.foldl anyS st).1, r.length ≤ 4096
  | [], st, h => h
  | p :: Q, st, h => by
    refine any_small Q (anyS st p) ?_
    unfold anyS
    split
    · intro r hr
      rcases List.mem_append.1 hr with hr | hr
      · exact h r hr
      · exact parse_rec_le _ p rfl r hr
    · exact h
structure AI (P : List (List UInt8)) (i : Nat) (D : DiskD) : Prop where
  ok : OkD D
  free : Free D
  room : D.a.room = 1048576
  used : usedL D.files ≤ 5000 * i
  few : D.files.length ≤ i
  files : AnyF D 0 (P.take i)
  no : ∀ k, i ≤ k → k ≤ 9 → mget (fileW LOG k) D.files = none
section
variable {B w : World} {Γ : List HProp}
theorem law04_WalAny_spec {k : Bool → K} {a : Sl} {LX : RecL} (hXr : RdC B a 1 (LX.map recV)) (hXb : ∀ x ∈ LX, RdB B x.1 x.2 ∧ x.1.n ≤ x.1.c) (h : Holds B Γ w) (hk : ∀ w, Holds B Γ w → k true w) : law04_WalAny.call a k w := by
  have han : LX.length = a.n := by have := hXr.len; simpa using this
  refine law04_WalAny_ok _ _ _ ?_
  unfold law04_WalAny
  refine law04_speaks_spec h fun w h => ?_
  refine r_ite_f rfl ?_
  refine r_ite (fun _ => hk _ h) (fun hn1 => ?_)
  simp only [decide_eq_false_iff_not] at hn1
  refine new_spec h (fun hb => by omega) fun d w _ _ h => ?_
  refine r_ite_f rfl ?_
  refine r_new h ?_
  clear h
  intro t28 w h
  try simp only [add_mk, Nat.zero_add, Nat.reduceAdd]
  replace h := h.imp (blk_SlC (n := 0) (esz := 1) (vs := []) rfl rfl)
  have h0 := h.starsNil
  replace h := h0
  clear h0
  replace h := P2 h
  replace h := P1 h
  replace h := P2 h
  try simp only [N1, N2, N3, N4, N5, N6, N7] at h
  have hP : ∀ i, ((LX.map Prod.snd).take i) = (LX.take i).map Prod.snd := fun i => by rw [List.map_take]
  refine LoopK.of (fun t w => ∃ (i : Nat) (D : DiskD) (A : RecL), t.2.2 = (i : Int) ∧ i ≤ LX.length ∧ AI (LX.map Prod.snd) i D ∧ (∀ p ∈ (LX.map Prod.snd).take i, p.length ≤ 5000) ∧ (A.map Prod.snd, t.2.1) = ((LX.map Prod.snd).take i).foldl anyS ([], true) ∧
      Holds B (SlC ty_s_uint8 1 t.1 (A.map recV) :: stars (A.map recB) :: DiskR d D :: Γ) w) (fun t _ => ((a.n : Int) - t.2.2).toNat) ⟨0, DiskD.new 1048576, [], rfl, by omega, ⟨new_ok4 (by decide) (by decide), free_new, rfl, Nat.zero_le _, Nat.zero_le _, ⟨fun k p hp => by simp at hp⟩, fun k _ _ => rfl⟩, by simp, rfl, h⟩ ?_
  clear h
  rintro ⟨all, wh, t⟩ w ⟨i, D, A, h1, hi, hI, hsm, hA, h⟩
  simp only at h1 hA h
  subst h1
  have hcnt := any_count ((LX.map Prod.snd).take i) ([], true) hsm
  rw [← hA] at hcnt
  have hAl : A.length ≤ 50000 := by
    simp only [List.length_map, List.length_nil, List.length_take] at hcnt
    omega
  dsimp only
  unfold law04_WalAny.b1
  refine r_ite (fun hb => ?_) (fun hb => ?_)
  · simp only [decide_eq_true_eq] at hb
    have hil : i < LX.length := by omega
    have hx : LX[i]? = some LX[i] := List.getElem?_eq_getElem hil
    have htk : (LX.map Prod.snd).take (i + 1) = (LX.map Prod.snd).take i ++ [LX[i].2] := by
      rw [hP, hP, List.take_succ_eq_append_getElem hil, List.map_append]; rfl
    generalize LX[i] = x at hx htk
    obtain ⟨hxb, hxc⟩ := hXb x (List.mem_of_getElem? hx)
    have hxn : x.2.length = x.1.n := by have := hxb.len; simpa using this
    have hrv : RdC w a 1 ((LX.map Prod.fst).map Sl.val) := by
      have h9 : RdC w a 1 (LX.map recV) := hXr.old h
      rw [List.map_map]; exact h9
    refine r_idx1 (c := Sl.val) hrv (x := x.1) (by rw [List.getElem?_map, hx]; rfl) ?_
    refine r_ite (fun _ => hk _ h.tail.tail.tail) (fun hbig => ?_)
    simp only [decide_eq_false_iff_not] at hbig
    refine r_ar (e' := ((48 + i : Nat) : Int)) (by rw [wrap64 (by omega) (by omega)]; omega) ?_
    refine r_ar (wrapB _) ?_
    refine r_new h ?_
    clear h
    intro t43 w h
    try simp only [add_mk, Nat.zero_add, Nat.reduceAdd]
    refine r_str (xs := [u8 (48 + i)]) (by kernel_rfl) (RdC.of_blk (n := 1) (esz := 1) h List.mem_cons_self rfl rfl 1) ?_
    refine ⟨bs (fileW LOG i), by show ((3 + 1 : Nat) : Int) ≤ _; decide, (bs_app' LOG [u8 (48 + i)]).symm, ?_⟩
    have hmn : mget (fileW LOG i) D.files = none := hI.no i (Nat.le_refl _) (by omega)
    have hap := append_free (n := fileW LOG i) (x := x.2) hI.free (named_file (by decide) (by decide)) (by have := hI.few; omega) (by have := hI.used; rw [hI.room]; omega)
    rw [hmn] at hap
    simp only [Option.getD_none, List.nil_append] at hap
    replace h := P2 h
    replace h := P2 h
    replace h := P3 h
    replace h := D3 h
    try simp only [N1, N2, N3, N4, N5, N6, N7] at h
    refine append_spec (n := fileW LOG i) (x := x.2) hI.ok (by omega) h (fun w h => hxb.old h) fun w hD h => ?_
    rw [hap] at hD h
    simp only at hD h
    have hus := mset_used (n := fileW LOG i) (v := ⟨x.2, 0⟩) D.files
    rw [hmn] at hus
    simp only [Option.getD_none, List.length_nil, Nat.add_zero] at hus
    have hln := mset_len_le (n := fileW LOG i) (v := ⟨x.2, 0⟩) D.files
    have hI2 : AI (LX.map Prod.snd) (i + 1) ⟨D.a, mset (fileW LOG i) ⟨x.2, 0⟩ D.files⟩ := by
      refine ⟨hD, ⟨hI.free.left, hI.free.down⟩, hI.room, by have := hI.used; show usedL (mset _ _ D.files) ≤ _; omega, by have := hI.few; show (mset _ _ D.files).length ≤ _; omega, ⟨fun k p hp => ?_⟩, fun k h1 h2 => ?_⟩
      · rw [htk] at hp
        have hlt : ((LX.map Prod.snd).take i).length = i := by simp; omega
        show ∃ lt, mget (fileW LOG (0 + k)) (mset _ _ D.files) = _
        by_cases hk2 : k < i
        · rw [List.getElem?_append_left (by omega)] at hp
          obtain ⟨lt, h9⟩ := hI.files.files k p hp
          exact ⟨lt, by rw [mget_mset_ne (fun e => by have := fileW_inj (by omega) (by omega) e; omega)]; exact h9⟩
        · rw [List.getElem?_append_right (by omega)] at hp
          have hk3 : k - ((LX.map Prod.snd).take i).length = 0 := by
            have := (List.getElem?_eq_some_iff.1 hp).1
            simpa using this
          rw [hk3] at hp
          simp only [List.getElem?_cons_zero, Option.some.injEq] at hp
          have : 0 + k = i := by omega
          subst hp
          rw [this]
          exact ⟨0, mget_mset_self _⟩
      · show mget (fileW LOG k) (mset _ _ D.files) = none
        rw [mget_mset_ne (fun e => by have := fileW_inj h2 (by omega) e; omega)]
        exact hI.no k (by omega) h2
    have hsm2 : ∀ p ∈ (LX.map Prod.snd).take (i + 1), p.length ≤ 5000 := by
      rw [htk]
      intro p hp
      rcases List.mem_append.1 hp with hp | hp
      · exact hsm p hp
      · simp only [List.mem_singleton] at hp
        subst hp; omega
    generalize (⟨D.a, mset (fileW LOG i) ⟨x.2, 0⟩ D.files⟩ : DiskD) = Db at hI2 h
    have hnext : ∀ st : AnyS, ((LX.map Prod.snd).take i).foldl anyS ([], true) = st → ((LX.map Prod.snd).take (i + 1)).foldl anyS ([], true) = anyS st x.2 := fun st hst => by rw [htk, List.foldl_append, hst]; rfl
    have hAn := hnext _ hA.symm
    replace h := P2 h
    replace h := P2 h
    try simp only [N1, N2, N3, N4, N5, N6, N7] at h
    -- behind a part
    have s2 : ∀ (all : Sl) (A : RecL) (wh : Bool) w, (A.map Prod.snd, wh) = ((LX.map Prod.snd).take (i + 1)).foldl anyS ([], true) → Holds B (SlC ty_s_uint8 1 all (A.map recV) :: stars (A.map recB) :: DiskR d Db :: Γ) w →
        law04_WalAny.s2 k (fun p1 p2 p3 w' => (∃ (i : Nat) (D : DiskD) (A : RecL), p3 = (i : Int) ∧ i ≤ LX.length ∧ AI (LX.map Prod.snd) i D ∧ (∀ p ∈ (LX.map Prod.snd).take i, p.length ≤ 5000) ∧ (A.map Prod.snd, p2) = ((LX.map Prod.snd).take i).foldl anyS ([], true) ∧
      Holds B (SlC ty_s_uint8 1 p1 (A.map recV) :: stars (A.map recB) :: DiskR d D :: Γ) w') ∧ ((a.n : Int) - p3).toNat < ((a.n : Int) - (i : Int)).toNat) (some ⟨d, 0, none⟩) all wh a (a.n : Int) (i : Int) w := by
      intro all A wh w hA h
      unfold law04_WalAny.s2
      refine r_add64 (by omega) (by omega) ?_
      exact ⟨⟨i + 1, Db, A, by omega, by omega, hI2, hsm2, hA, h⟩, by omega⟩
    generalize (fun (p1 : Sl) (p2 : Bool) (p3 : Int) (w' : World) => (∃ (i : Nat) (D : DiskD) (A : RecL), p3 = (i : Int) ∧ i ≤ LX.length ∧ AI (LX.map Prod.snd) i D ∧ (∀ p ∈ (LX.map Prod.snd).take i, p.length ≤ 5000) ∧ (A.map Prod.snd, p2) = ((LX.map Prod.snd).take i).foldl anyS ([], true) ∧
      Holds B (SlC ty_s_uint8 1 p1 (A.map recV) :: stars (A.map recB) :: DiskR d D :: Γ) w') ∧ ((a.n : Int) - p3).toNat < ((a.n : Int) - (i : Int)).toNat) = X1 at s2 ⊢
    cases wh with
    | false =>
      refine LoopK.of (fun t w => t = (all, false, (0 : Int)) ∧ Holds B (SlC ty_s_uint8 1 all (A.map recV) :: stars (A.map recB) :: DiskR d Db :: Γ) w) (fun _ _ => 0) ⟨rfl, h⟩ ?_
      rintro t w ⟨rfl, h⟩
      dsimp only
      have g : law04_WalAny.s2 k X1 (some ⟨d, 0, none⟩) all false a (a.n : Int) (i : Int) w := s2 all A false w (by rw [hAn]; rfl) h
      unfold law04_WalAny.b3 law04_WalAny.s4
      exact r_ite (fun _ => r_ite_f rfl g) (fun _ => r_ite_f rfl g)
    | true =>
      refine LoopK.of (fun t w => ∃ (g : Nat) (done : List (List UInt8)) (A' : RecL), t.2.1 = true ∧ t.2.2 = (g : Int) ∧ g ≤ x.2.length ∧ A'.map Prod.snd = A.map Prod.snd ++ done ∧ parseL x.2 = (done ++ (parseL (x.2.drop g)).1, g + (parseL (x.2.drop g)).2) ∧ A'.length ≤ A.length + g ∧
        Holds B (SlC ty_s_uint8 1 t.1 (A'.map recV) :: stars (A'.map recB) :: DiskR d Db :: Γ) w) (fun t _ => ((x.1.n : Int) - t.2.2).toNat) ⟨0, [], A, rfl, rfl, by omega, by simp, by simp, by omega, h⟩ ?_
      clear h
      rintro ⟨all', wh', t⟩ w ⟨g, done, A', h1, h2, hg, hrs, hpp, hcnt', h⟩
      simp only at h1 h2 h
      subst h1; subst h2
      dsimp only
      unfold law04_WalAny.b3
      refine r_ite (fun hb => ?_) (fun hb => ?_)
      · simp only [decide_eq_true_eq] at hb
        unfold law04_WalAny.s4
        refine r_ite_t rfl ?_
        have hdr : x.2.drop g ≠ [] := fun e => by
          have := congrArg List.length e
          simp at this
          omega
        have hF := unfF (x.2.drop g)
        refine ⟨_, by omega, by omega, by omega, by omega, rfl, ?_⟩
        simp only [Int.toNat_natCast]
        have hne : x.2 ≠ [] := by
          intro e
          have : x.2.length = 0 := by rw [e]; rfl
          omega
        have hsp := rd_spot hxb hne
        refine ref01_Unframe_spec (d := x.2.drop g) (by simp; omega) h (fun w h => rdB_drop (hxb.old h) (by omega) hxc hsp) (by simp only; omega) fun f w h => ?_
        refine r_ite (fun he => ?_) (fun he => ?_)
        · have he' : (unframeL (x.2.drop g)).2.2 ≠ 0 := by simp only [decide_eq_true_eq] at he; omega
          rw [parse_bad he'] at hpp
          simp only [List.append_nil, Nat.add_zero] at hpp
          refine s2 all' A' false w ?_ h.tail
          rw [hAn, hrs]
          unfold anyS
          simp only [if_true]
          rw [hpp]
          simp only
          rw [decide_eq_false (by omega)]
        · have he' : (unframeL (x.2.drop g)).2.2 = 0 := by simp only [decide_eq_false_iff_not] at he; omega
          rw [parse_ok hdr he', List.drop_drop] at hpp
          simp only at hpp
          obtain ⟨q1, q2, _⟩ := hF.ok he'
          have q3 := hF.le
          rw [List.length_drop] at q3
          replace h := P3 h
          replace h := P1 h
          replace h := P3 h
          replace h := P3 h
          try simp only [N1, N2, N3, N4, N5, N6, N7] at h
          refine r_rec (by omega) h fun all2 w h => ?_
          refine r_ar (e' := ((g + (unframeL (x.2.drop g)).2.1 : Nat) : Int)) (by rw [wrap64 (by omega) (by omega)]; omega) ?_
          refine ⟨⟨g + (unframeL (x.2.drop g)).2.1, done ++ [(unframeL (x.2.drop g)).1], _, by first | rfl | trivial, by first | rfl | trivial, by omega, ?_, ?_, ?_, h⟩, by omega⟩
          · rw [List.map_append, hrs, List.append_assoc]; rfl
          · rw [hpp, List.append_assoc]
            exact Prod.ext rfl (by simp only; omega)
          · rw [List.length_append, List.length_singleton]; omega
      · simp only [decide_eq_false_iff_not] at hb
        unfold law04_WalAny.s4
        refine r_ite_f rfl ?_
        have hz : x.2.drop g = [] := List.drop_eq_nil_of_le (by omega)
        rw [hz, parse_nil] at hpp
        simp only [List.append_nil, Nat.add_zero] at hpp
        refine s2 all' A' true w ?_ h
        rw [hAn, hrs]
        unfold anyS
        simp only [if_true]
        rw [hpp]
        simp only
        rw [decide_eq_true (by omega)]
  · simp only [decide_eq_false_iff_not] at hb
    have hi9 : i = LX.length := by omega
    subst hi9
    rw [List.take_of_length_le (by simp)] at hA hsm
    have hIf := hI.files
    rw [List.take_of_length_le (by simp)] at hIf
    have hrec : A.map Prod.snd = ((LX.map Prod.snd).foldl anyS ([], true)).1 := congrArg Prod.fst hA
    have hsmall : ∀ r ∈ A.map Prod.snd, r.length ≤ 4096 := by rw [hrec]; exact any_small _ _ (by simp)
    obtain ⟨Da, Wa, Qa, a1, a2, a3, a4, a5, a6, a7, a8, a9, a10, a11, a12, a13⟩ := any_open (D := D) (Q := LX.map Prod.snd) (by simp; omega) (fun p hp => by have := hsm p hp; omega) hI.free hI.ok.nodup hIf (fun k h1 h2 => hI.no k (by simpa using h1) h2)
    obtain ⟨Db, Wb, Qb, b1, b2, b3, b4, b5, b6, _⟩ := any_open (D := Da) (Q := Qa) a9 a10 a7 a8 a11 a12
    rw [← hrec] at a2 a13
    rw [a13] at b2
    have hWa : OkW Wa := ⟨by rw [a3]; decide, by rw [a4]; decide, a5, by omega, by rw [a2]; simp; omega⟩
    have hWb : OkW Wb := ⟨by rw [b3]; decide, by rw [b4]; decide, b5, by omega, by rw [b2]; simp; omega⟩
    replace h := P1 h
    replace h := P1 h
    replace h := P2 h
    try simp only [N1, N2, N3, N4, N5, N6, N7] at h
    refine wal_Open_spec (name := LOG) ⟨by decide, by decide⟩ ⟨by decide, by decide⟩ hI.ok h (fun _ l w hD h => ?_) (fun he => absurd (by rw [a1]) he)
    rw [a1] at hD h
    simp only at hD h
    refine r_ite_f rfl (r_ite_f rfl ?_)
    refine wal_Records_spec hWa (by rw [a2]; intro r hr; have := hsmall r hr; omega) h fun sg w h => ?_
    rw [a2] at h
    refine same_recs (L2 := A) (by simp; omega) rfl h (fun w h => ⟨h.rdC (E := ty_s_uint8) (List.mem_cons_of_mem _ (List.mem_cons_of_mem _ List.mem_cons_self)), fun x hx => stars_rd (f := recB) 3 h at3 hx rfl⟩) fun w h => ?_
    unfold law04_WalAny.s5
    refine r_ite_f rfl ?_
    replace h := P3 h
    replace h := P3 h
    replace h := P2 h
    replace h := P3 h
    try simp only [N1, N2, N3, N4, N5, N6, N7] at h
    refine wal_Open_spec (name := LOG) ⟨by decide, by decide⟩ ⟨by decide, by decide⟩ hD h (fun _ m w hD2 h => ?_) (fun he => absurd (by rw [b1]) he)
    rw [b1] at hD2 h
    simp only at hD2 h
    refine r_ite_t rfl (r_ite_t rfl ?_)
    refine wal_Records_spec hWb (by rw [b2]; intro r hr; have := hsmall r hr; omega) h fun sg2 w h => ?_
    rw [b2] at h
    refine same_recs (L2 := A) (by simp; omega) rfl h (fun w h => ⟨h.rdC (E := ty_s_uint8) (List.mem_cons_of_mem _ (List.mem_cons_of_mem _ (List.mem_cons_of_mem _ List.mem_cons_self))), fun x hx => stars_rd (f := recB) 4 h at4 hx rfl⟩) fun w h => ?_
    refine r_ite_t rfl ?_
    refine wal_Parts_spec hD2 (by rw [b3]; decide) h fun w h => ?_
    replace h := P1 h
    replace h := P2 h
    try simp only [N1, N2, N3, N4, N5, N6, N7] at h
    refine wal_Parts_spec hD2 (by rw [a3]; decide) h fun w h => ?_
    rw [a3, b3]
    unfold law04_WalAny.s6
    rw [decide_eq_true rfl]
    exact hk _ h.tail.tail.tail.tail.tail
end
end Go.Proofs.Ytdpepgjbambinaa

namespace Go.Proofs.Ytdpepgjbambinaa
open Go Go.Sep Go.RowKit
theorem WalAny_walk (W : World) (s : Sl) (y : Rdy W Sh_ty_s_s_uint8 (Sl.val s).cells.toList) :
    Calls Try.prog 7 #[s.val] W (Ret fun v w' => v = .bool true ∧ Below W.heap.size W w') := by
  obtain ⟨h1, h2⟩ := rdy_sl y
  obtain ⟨L, _, hL, hd⟩ := rd_list (fun x : Sl × List UInt8 => [x.1.val]) (fun x => RdB W x.1 x.2 ∧ x.1.n ≤ x.1.c) (fun _ => rfl) h1 h2 fun cs hc hr => by
    obtain ⟨s, e, c0, _, g1, g2⟩ := hr
    subst e
    obtain ⟨xs, _, h3⟩ := rd_bytes g1 g2
    exact ⟨(s, xs), rfl, h3, c0⟩
  rw [flat1] at hL
  exact law_call (law04_WalAny_spec hL hd (Holds.start W) fun w h => ⟨rfl, h⟩)
end Go.Proofs.Ytdpepgjbambinaa
