/- WalGoesOn. -/
import Derived.Test.YtdpepgjbambinaaSWal6
import Derived.Test.YtdpepgjbambinaaSWalK
import Derived.Test.YtdpepgjbambinaaIRLaw04WalGoesOn
import Derived.Test.YtdpepgjbambinaaShapes
import Derived.Test.YtdpepgjbambinaaRow
namespace Go.Proofs.Ytdpepgjbambinaa
open Go Go.Sep
set_option linter.unusedSimpArgs false
set_option linter.unusedVariables false
set_option maxRecDepth 100000
theorem crash_used_le' {D : DiskD} (hD : OkD D) (ks : List Int) : usedL (D.crash ks).files ≤ usedL D.files := by
  have h1 := crashL_used ks D.file D.names 0
  have h2 : sumL D.file D.names = usedL D.files := (sumL_perm (List.mergeSort_perm _ _)).trans (sumL_files hD)
  have h3 : usedL (D.crash ks).files ≤ sumL D.file D.names := h1
  omega
theorem crash_len {D : DiskD} (ks : List Int) : (D.crash ks).files.length = D.files.length := by
  show (crashL ks D.file D.names).length = _
  rw [crashL_len, names_len]
section
variable {B w : World} {Γ : List HProp}
/-- The log is opened anew behind a crash, everything lasting. -/
theorem KI.again {sz : Int} {R : List (List UInt8)} {D : DiskD} {W : WalD} {q : List (List (List UInt8))} {p : List (List UInt8)} {lk : Nat} {there : Bool} (hsz : 16 ≤ sz ∧ sz ≤ 65536) (hK : KI sz R R.length D W q p lk there) (ks : List Int) :
    ∃ Da Wa p' lk', (newW LOG sz).load (D.crash ks) = (Da, Wa, 0) ∧ (OkD Da → KI sz R R.length Da Wa q p' lk' there) := by
  obtain ⟨m, m1, m2, hT⟩ := crash_toOpen hK.ok hK.log ks
  rw [hK.name] at hT
  obtain ⟨Da, Wa, kk, e4, g1, g2, g3, hI4, hn4, hs4, hd4, ha4, hl4, hu4, _⟩ := open_log (name := LOG) (size := sz) ⟨by decide, by decide⟩ hsz (free_crash (D := D) (ks := ks)) hT
  refine ⟨Da, Wa, p.take kk, (catF (p.take kk)).length, e4, fun hD => ?_⟩
  have h1 := lasts_open hK.lasts m1 g3 g1
  have h2 : R = q.flatten ++ p := by rw [← hK.log.recs, hK.recs]
  have hkk : p.take kk = p := by
    have h3 := congrArg List.length h2
    rw [List.length_append] at h3 h1
    rw [List.length_take] at h1
    exact List.take_of_length_le (by omega)
  have h5 := crash_used_le' hK.ok ks
  have h6 := crash_len (D := D) ks
  refine ⟨hD, ⟨by rw [ha4]; rfl, by rw [ha4]; rfl⟩, hI4, hn4, hs4, by rw [hI4.recs, hkk, ← h2], ⟨(p.take kk).length, Nat.le_refl _, by rw [List.take_length], ?_⟩, by rw [ha4]; exact hK.room, by have := hK.used; omega, by have := hK.few; omega, fun _ => hd4⟩
  rw [hkk]
  have h3 := congrArg List.length h2
  rw [List.length_append] at h3
  omega
theorem goes_same {k : Bool → K} {all : Sl} {A : RecL} {put : Nat} {sz : Int} {l d : Nat} {D : DiskD} {W : WalD} {q : List (List (List UInt8))} {p : List (List UInt8)} {lk : Nat} {there : Bool} (hA : ∀ x ∈ A, RdB B x.1 x.2) (hAl : A.length ≤ 80)
    (hK : KI sz (A.map Prod.snd) put D W q p lk there) (h : Holds B (SlC ty_s_uint8 1 all (A.map recV) :: WalR l d W :: DiskR d D :: Γ) w)
    (hk : ∀ w, Holds B (SlC ty_s_uint8 1 all (A.map recV) :: WalR l d W :: DiskR d D :: Γ) w → k true w) : wal_Log_Records.call (some ⟨l, 0, none⟩) (fun t => ref04_Same.call t all k) w := by
  replace h := P2 h
  replace h := P1 h
  replace h := P2 h
  try simp only [N1, N2, N3, N4, N5, N6, N7] at h
  refine wal_Records_spec (hK.okW (by simp; omega)) hK.smallR h fun sg w h => ?_
  rw [hK.recs] at h
  refine same_recs (L2 := A) (by simp; omega) rfl h (fun w h => ⟨h.rdC (E := ty_s_uint8) (List.mem_cons_of_mem _ List.mem_cons_self), fun x hx => (hA x hx).old h⟩) fun w h => ?_
  replace h := P2 h
  replace h := P1 h
  replace h := P2 h
  try simp only [N1, N2, N3, N4, N5, N6, N7] at h
  exact hk _ h

theorem law04_WalGoesOn_spec {k : Bool → K} {a b : Sl} {LX : RecL} {ks : List Int} {size : Int} (hXr : RdC B a 1 (LX.map recV)) (hXb : ∀ x ∈ LX, RdB B x.1 x.2)
    (hks : RdC B b 1 (ks.map (Value.int .i64))) (h : Holds B Γ w) (hk : ∀ w, Holds B Γ w → k true w) : law04_WalGoesOn.call a b size k w := by
  have han : LX.length = a.n := by have := hXr.len; simpa using this
  have hbn : ks.length = b.n := by have := hks.len; simpa using this
  refine law04_WalGoesOn_ok _ _ _ _ _ ?_
  unfold law04_WalGoesOn
  refine law04_speaks_spec h fun w h => ?_
  refine r_ite_f rfl ?_
  unfold law04_WalGoesOn.s1
  refine r_ite (fun _ => r_ite_t rfl (hk _ h)) (fun hn1 => ?_)
  simp only [decide_eq_false_iff_not] at hn1
  refine r_ite (fun _ => hk _ h) (fun hn2 => ?_)
  obtain ⟨hm0, hm1⟩ := bits_k size 4095 4095 (by decide) (by decide)
  refine r_ar rfl ?_
  generalize bitsOf .and .i64 size 4095 = z at hm0 hm1
  refine r_add64 (by omega) (by omega) ?_
  refine new_spec h (fun hb => by omega) fun d w _ _ h => ?_
  refine r_ite_f rfl ?_
  have hsz : (16 : Int) ≤ 40 + z ∧ 40 + z ≤ 65536 := ⟨by omega, by omega⟩
  obtain ⟨DA, W0, k0, e0, a1, a2, a3, hI0, hn0, hs0, hd0, ha0, hl0, hu0, _⟩ := open_log (name := LOG) (size := 40 + z) ⟨by decide, by decide⟩ hsz (free_new (room := 1048576)) toOpen_new
  refine wal_Open_spec (name := LOG) ⟨by decide, by decide⟩ hsz (new_ok4 (by decide) (by decide)) h (fun _ l w hD h => ?_) (fun he => absurd (by rw [e0]) he)
  rw [e0] at hD h
  simp only at hD h
  simp only [List.take_nil] at hI0
  have hu0' : usedL DA.files = 0 := Nat.le_zero.1 hu0
  have hl0' : DA.files.length = 0 := hl0
  have hK0 : KI (40 + z) [] 0 DA W0 [] [] 0 false :=
    ⟨hD, ⟨by rw [ha0]; rfl, by rw [ha0]; rfl⟩, hI0, hn0, hs0, by rw [hI0.recs]; rfl, ⟨0, Nat.le_refl _, rfl, Nat.le_refl _⟩, by rw [ha0]; rfl, by omega, by omega, fun _ => hd0⟩
  refine r_ite_f rfl ?_
  refine r_new h ?_
  clear h
  intro t43 w h
  try simp only [add_mk, Nat.zero_add, Nat.reduceAdd]
  replace h := h.imp (blk_SlC (n := 0) (esz := 1) (vs := []) rfl rfl)
  refine LoopK.of (fun t w => ∃ (n d l : Nat) (D : DiskD) (W : WalD) (q : List (List (List UInt8))) (p : List (List UInt8)) (lk : Nat) (there : Bool), t.1 = some ⟨d, 0, none⟩ ∧ t.2.1 = some ⟨l, 0, none⟩ ∧ t.2.2.2 = (n : Int) ∧ n ≤ LX.length ∧
      KI (40 + z) ((LX.take n).map Prod.snd) n D W q p lk there ∧ Holds B (SlC ty_s_uint8 1 t.2.2.1 ((LX.take n).map recV) :: WalR l d W :: DiskR d D :: Γ) w) (fun t _ => ((a.n : Int) - t.2.2.2).toNat) ⟨0, d, l, DA, W0, [], [], 0, false, rfl, rfl, rfl, by omega, hK0, h⟩ ?_
  clear h hK0 hI0 hD
  rintro ⟨d', l', all, t⟩ w ⟨n, d, l, D, W, q, p, lk, there, h1, h2, h3, hn, hK, h⟩
  simp only at h1 h2 h3 h
  subst h1; subst h2; subst h3
  have hlen : ((LX.take n).map Prod.snd).length = n := by simp; omega
  have hall := rec_n h
  unfold law04_WalGoesOn.b2
  refine r_ite (fun hb => ?_) (fun _ => hk _ h.tail.tail.tail)
  simp only [decide_eq_true_eq] at hb
  have hnl : n < LX.length := by omega
  have hx : LX[n]? = some LX[n] := List.getElem?_eq_getElem hnl
  have htk : LX.take (n + 1) = LX.take n ++ [LX[n]] := List.take_succ_eq_append_getElem hnl
  generalize LX[n] = x at hx htk
  have hxb := hXb x (List.mem_of_getElem? hx)
  have hxn : x.2.length = x.1.n := by have := hxb.len; simpa using this
  have hrv : RdC w a 1 ((LX.map Prod.fst).map Sl.val) := by
    have h9 : RdC w a 1 (LX.map recV) := hXr.old h
    rw [List.map_map]; exact h9
  refine r_idx1 (c := Sl.val) hrv (x := x.1) (by rw [List.getElem?_map, hx]; rfl) ?_
  refine r_ite (fun _ => hk _ h.tail.tail.tail) (fun hbig => ?_)
  simp only [decide_eq_false_iff_not] at hbig
  have hW := hK.okW (by omega)
  have hc := cnt_le hK.log.qlen there
  have hfew := hK.few
  have hused := hK.used
  rw [hlen] at hused
  have hA := logI_app hK.log hK.free (r := x.2) (by omega) (by omega) (by rw [hK.room]; omega)
  replace h := P2 h
  replace h := P2 h
  try simp only [N1, N2, N3, N4, N5, N6, N7] at h
  refine wal_Append_spec (r := x.2) hK.ok hW (by omega) (fun w h => hxb.old h) h fun w hD h => ?_
  rcases hA with ⟨hA, h9, ht⟩ | ⟨Db, Wb, qb, pb, lkb, hA, hIb, hnb, hsb, hrb, hBb, hLb, hcb⟩
  · rw [hA] at h ⊢
    refine r_ite_t rfl ?_
    refine wal_Parts_spec hK.ok (by rw [hK.name]; decide) h fun w h => ?_
    have hq9 : q.length = 9 := by have := hK.log.part; omega
    have hp10 : partsN D W.name 10 = 10 := partsN_all 10 fun i hi => by
      unfold hasF
      by_cases hiq : i < q.length
      · rw [hK.log.qf i q[i] (List.getElem?_eq_getElem hiq)]; rfl
      · have : i = q.length := by omega
        subst this
        rw [hK.log.pf, if_pos ht]; rfl
    rw [hp10]
    refine r_ite_t rfl ?_
    replace h := P1 h
    replace h := P1 h
    replace h := P2 h
    try simp only [N1, N2, N3, N4, N5, N6, N7] at h
    refine goes_same (fun y hy => hXb y (List.mem_of_mem_take hy)) (by simp; omega) hK h fun w h => ?_
    unfold law04_WalGoesOn.s3
    exact hk _ h.tail.tail.tail
  · rw [hA] at hD h ⊢
    simp only at hD h ⊢
    refine r_ite_f rfl (r_ite_f rfl ?_)
    have hrec2 : (LX.take (n + 1)).map Prod.snd = (LX.take n).map Prod.snd ++ [x.2] := by rw [htk, List.map_append]; rfl
    have hlen2 : ((LX.take (n + 1)).map Prod.snd).length = n + 1 := by rw [hrec2, List.length_append, hlen]; rfl
    have hKb : KI (40 + z) ((LX.take (n + 1)).map Prod.snd) n Db Wb qb pb lkb true := ⟨hD, ⟨by rw [hBb.a]; exact hK.free.left, by rw [hBb.a]; exact hK.free.down⟩, hIb, by rw [hnb, hK.name], by rw [hsb, hK.size], by rw [hrb, hK.recs, hrec2], hLb _ hK.lasts, by rw [hBb.a]; exact hK.room, by
      have := hBb.used
      rw [hlen2]
      omega, by have := hcb; omega, (fun hf => by cases hf)⟩
    obtain ⟨Dc, Wc, e2, hI2, hd2, hn2, hs2, hr2, hp2, hus2, ha2, hU2, hL2, _⟩ := logI_sync hIb hKb.free (.inl rfl)
    refine wal_Sync_spec hD (hKb.okW (by omega)) h fun w hD h => ?_
    rw [e2] at hD h ⊢
    simp only at hD h ⊢
    have hKc : KI (40 + z) ((LX.take (n + 1)).map Prod.snd) (n + 1) Dc Wc qb pb (catF pb).length true :=
      ⟨hD, ⟨by rw [ha2]; exact hKb.free.left, by rw [ha2]; exact hKb.free.down⟩, hI2, by rw [hn2, hKb.name], by rw [hs2, hKb.size], by rw [hr2, hKb.recs], ⟨pb.length, Nat.le_refl _, by rw [List.take_length], by
        have := congrArg List.length (hKb.recs.symm.trans hKb.log.recs)
        rw [hlen2, List.length_append] at this
        omega⟩, by rw [ha2]; exact hKb.room, by rw [hU2]; exact hKb.used, by rw [hL2]; exact hKb.few, fun _ => hd2⟩
    unfold law04_WalGoesOn.s4
    refine r_ite_f rfl ?_
    refine r_new h ?_
    clear h
    intro t77 w h
    try simp only [add_mk, Nat.zero_add, Nat.reduceAdd]
    have hn9 := rec_n (h.pick 3 at3)
    have hxr := RdC.of_blk (n := 1) (esz := 1) h List.mem_cons_self (vs := [x.1.val]) rfl rfl 1
    refine r_append (h.pick 3 at3) (by kernel_rfl) (by kernel_rfl) (by' := 24) (by kernel_rfl) zero_ty_s_uint8 rfl hxr (fun v hv => by simp only [List.mem_singleton] at hv; subst hv; rfl) (by simp only at hn9 ⊢; simp at hn9; omega) (by decide) fun all2 w h _ _ => ?_
    try simp only [N1, N2, N3, N4, N5, N6, N7] at h
    have e9 : (LX.take n).map recV ++ [x.1.val] = (LX.take (n + 1)).map recV := by rw [htk, List.map_append]; rfl
    rw [e9] at h
    replace h := P3 h
    replace h := P3 h
    replace h := P2 h
    replace h := D3 h
    try simp only [N1, N2, N3, N4, N5, N6, N7] at h
    -- behind the record
    have s5 : ∀ (d l : Nat) (D : DiskD) (W : WalD) (p : List (List UInt8)) (lk : Nat) w, KI (40 + z) ((LX.take (n + 1)).map Prod.snd) (n + 1) D W qb p lk true → Holds B (SlC ty_s_uint8 1 all2 ((LX.take (n + 1)).map recV) :: WalR l d W :: DiskR d D :: Γ) w →
        law04_WalGoesOn.s5 k (fun p1 p2 p3 p4 w' => (∃ (n d l : Nat) (D : DiskD) (W : WalD) (q : List (List (List UInt8))) (p : List (List UInt8)) (lk : Nat) (there : Bool), p1 = some ⟨d, 0, none⟩ ∧ p2 = some ⟨l, 0, none⟩ ∧ p4 = (n : Int) ∧ n ≤ LX.length ∧
      KI (40 + z) ((LX.take n).map Prod.snd) n D W q p lk there ∧ Holds B (SlC ty_s_uint8 1 p3 ((LX.take n).map recV) :: WalR l d W :: DiskR d D :: Γ) w') ∧ ((a.n : Int) - p4).toNat < ((a.n : Int) - (n : Int)).toNat) b (40 + z) (some ⟨d, 0, none⟩) (some ⟨l, 0, none⟩) all2 a (a.n : Int) (n : Int) w := by
      clear h hD
      intro d l D W p lk w hK h
      unfold law04_WalGoesOn.s5
      refine goes_same (fun y hy => hXb y (List.mem_of_mem_take hy)) (by simp; omega) hK h fun w h => ?_
      refine r_ite_f rfl ?_
      refine r_add64 (by omega) (by omega) ?_
      exact ⟨⟨n + 1, d, l, D, W, qb, p, lk, true, rfl, rfl, by omega, by omega, hK, h⟩, by omega⟩
    have no : law04_WalGoesOn.s6 k (fun p1 p2 p3 p4 w' => (∃ (n d l : Nat) (D : DiskD) (W : WalD) (q : List (List (List UInt8))) (p : List (List UInt8)) (lk : Nat) (there : Bool), p1 = some ⟨d, 0, none⟩ ∧ p2 = some ⟨l, 0, none⟩ ∧ p4 = (n : Int) ∧ n ≤ LX.length ∧
      KI (40 + z) ((LX.take n).map Prod.snd) n D W q p lk there ∧ Holds B (SlC ty_s_uint8 1 p3 ((LX.take n).map recV) :: WalR l d W :: DiskR d D :: Γ) w') ∧ ((a.n : Int) - p4).toNat < ((a.n : Int) - (n : Int)).toNat) b (40 + z) (some ⟨d, 0, none⟩) (some ⟨l, 0, none⟩) all2 a (a.n : Int) (n : Int) false w := by
      unfold law04_WalGoesOn.s6
      exact r_ite_f rfl (s5 _ _ _ _ _ _ _ hKc h)
    refine r_ite (fun hi => ?_) (fun _ => no)
    simp only [decide_eq_true_eq] at hi
    have hkx : ks[n]? = some ks[n] := List.getElem?_eq_getElem (by omega)
    generalize ks[n] = kv at hkx
    refine r_idx1 (hks.old h) hkx ?_
    refine r_ar rfl ?_
    by_cases hone : bitsOf .and .i64 kv 1 = 1
    · rw [decide_eq_true hone]
      unfold law04_WalGoesOn.s6
      refine r_ite_t rfl ?_
      replace h := P2 h
      replace h := D2 h
      try simp only [N1, N2, N3, N4, N5, N6, N7] at h
      refine crash_spec (ks := []) hD h (fun w h => RdC.none') fun o w h => ?_
      refine r_ite_f rfl ?_
      have hK9 : KI (40 + z) ((LX.take (n + 1)).map Prod.snd) ((LX.take (n + 1)).map Prod.snd).length Dc Wc qb pb (catF pb).length true := by rw [hlen2]; exact hKc
      obtain ⟨Dd, Wd, p9, lk9, e9, hK10⟩ := hK9.again hsz []
      replace h := P2 h
      replace h := P1 h
      replace h := D2 h
      try simp only [N1, N2, N3, N4, N5, N6, N7] at h
      refine wal_Open_spec (name := LOG) ⟨by decide, by decide⟩ hsz (hD.crash []) h (fun _ l2 w hD h => ?_) (fun he => absurd (by rw [e9]) he)
      rw [e9] at hD h
      simp only at hD h
      refine r_ite_f rfl ?_
      have hK11 := hK10 hD
      rw [hlen2] at hK11
      replace h := P1 h
      replace h := P1 h
      replace h := P2 h
      try simp only [N1, N2, N3, N4, N5, N6, N7] at h
      exact s5 _ _ _ _ _ _ _ hK11 h
    · rw [decide_eq_false hone]
      exact no
end
end Go.Proofs.Ytdpepgjbambinaa

namespace Go.Proofs.Ytdpepgjbambinaa
open Go Go.Sep Go.RowKit
theorem rd_bss' {w : World} {s : Sl} (y : Rdy w Sh_ty_s_s_uint8 (Sl.val s).cells.toList) : ∃ L : RecL, RdC w s 1 (L.map recV) ∧ ∀ x ∈ L, RdB w x.1 x.2 := by
  obtain ⟨h1, h2⟩ := rdy_sl y
  obtain ⟨L, _, hL, hd⟩ := rd_list (fun x : Sl × List UInt8 => [x.1.val]) (fun x => RdB w x.1 x.2) (fun _ => rfl) h1 h2 fun cs hc hr => by
    obtain ⟨s, e, _, _, g1, g2⟩ := hr
    subst e
    obtain ⟨xs, _, h3⟩ := rd_bytes g1 g2
    exact ⟨(s, xs), rfl, h3⟩
  rw [flat1] at hL
  exact ⟨L, hL, hd⟩
theorem WalGoesOn_walk (W : World) (s : Sl) (y0 : Rdy W Sh_ty_s_s_uint8 (Sl.val s).cells.toList) (e : Sl) (y2 : Rdy W Sh_ty_s_int (Sl.val e).cells.toList) (x : Int) (_ : (Lit.int .i64 x).wf = true) :
    Calls Try.prog 8 #[s.val, e.val, .int .i64 x] W (Ret fun v w' => v = .bool true ∧ Below W.heap.size W w') := by
  obtain ⟨L, h1, h2⟩ := rd_bss' y0
  obtain ⟨E, hE, _⟩ := rdy_ints y2
  exact law_call (law04_WalGoesOn_spec h1 h2 hE (Holds.start W) fun w h => ⟨rfl, h⟩)
end Go.Proofs.Ytdpepgjbambinaa
