/- WalKeeps. -/
import Derived.Test.YtdpepgjbambinaaSWal5
import Derived.Test.YtdpepgjbambinaaIRLaw04WalKeeps
import Derived.Test.YtdpepgjbambinaaShapes
import Derived.Test.YtdpepgjbambinaaRow
namespace Go.Proofs.Ytdpepgjbambinaa
open Go Go.Sep
set_option linter.unusedSimpArgs false
set_option linter.unusedVariables false
set_option maxRecDepth 100000
abbrev LOG : List UInt8 := [108, 111, 103]
theorem bits_k (n m : Int) (b : Nat) (hm : (BitVec.ofInt 64 m).toNat ≤ b) (hb : b ≤ 9223372036854775807) : 0 ≤ bitsOf .and .i64 n m ∧ bitsOf .and .i64 n m ≤ b := by
  unfold bitsOf
  simp only
  have h1 : ((BitVec.ofInt IntKind.i64.bits n &&& BitVec.ofInt IntKind.i64.bits m).toNat) ≤ b := by
    rw [BitVec.toNat_and]
    exact Nat.le_trans Nat.and_le_right hm
  rw [wrap64 (by omega) (by omega)]
  omega
/-- The log and its disk, n records being in and the first put of them lasting. -/
structure KI (sz : Int) (R : List (List UInt8)) (put : Nat) (D : DiskD) (W : WalD) (q : List (List (List UInt8))) (p : List (List UInt8)) (lk : Nat) (there : Bool) : Prop where
  ok : OkD D
  free : Free D
  log : LogI W D q p lk there
  name : W.name = LOG
  size : W.size = sz
  recs : W.recs = R
  lasts : Lasts q p lk put
  room : D.a.room = 1048576
  used : usedL D.files ≤ 1006 * R.length
  few : D.files.length ≤ cntL q there
  fresh : there = false → W.dirty = false
theorem catF_len_le (rs : List (List UInt8)) (b : Nat) (h : ∀ r ∈ rs, r.length ≤ b) : (catF rs).length ≤ (b + 6) * rs.length := by
  induction rs with
  | nil => simp [catF_nil]
  | cons r rs ih =>
    have h1 := ih fun x hx => h x (List.mem_cons_of_mem _ hx)
    have h2 := h r List.mem_cons_self
    rw [catF_cons, List.length_append, frameL_len, List.length_cons, Nat.mul_succ]
    omega
theorem cnt_le {q : List (List (List UInt8))} (h : q.length ≤ 9) (t : Bool) : cntL q t ≤ 10 := by
  unfold cntL
  split <;> omega
theorem KI.okW {sz : Int} {R : List (List UInt8)} {put : Nat} {D : DiskD} {W : WalD} {q : List (List (List UInt8))} {p : List (List UInt8)} {lk : Nat} {there : Bool} (h : KI sz R put D W q p lk there) (hR : R.length ≤ 80) : OkW W := by
  refine h.log.okW ?_ (by rw [h.recs]; omega)
  have h1 := catF_len_le p 4096 h.log.small.1
  have h2 : p.length ≤ R.length := by
    have := h.log.recs
    rw [h.recs] at this
    rw [this, List.length_append]; omega
  rw [h.log.used]
  omega
theorem KI.smallR {sz : Int} {R : List (List UInt8)} {put : Nat} {D : DiskD} {W : WalD} {q : List (List (List UInt8))} {p : List (List UInt8)} {lk : Nat} {there : Bool} (h : KI sz R put D W q p lk there) : ∀ r ∈ W.recs, r.length ≤ 1000000 := by
  intro r hr
  rw [h.log.recs] at hr
  rcases List.mem_append.1 hr with hr | hr
  · obtain ⟨x, hx, hrx⟩ := List.mem_flatten.1 hr
    have := h.log.small.2 x hx r hrx
    omega
  · have := h.log.small.1 r hr
    omega
section
variable {B w : World} {Γ : List HProp}
theorem keeps_s2 {k : Bool → K} {a b c all : Sl} {ks : List Int} {A : RecL} {size : Int} {put l d kb : Nat} {D : DiskD} {W : WalD} {q : List (List (List UInt8))} {p : List (List UInt8)} {lk : Nat} {there : Bool}
    (hks : RdC B c 1 (ks.map (Value.int .i64))) (hA : ∀ x ∈ A, RdB B x.1 x.2) (hAl : A.length ≤ 80) (hK : KI (16 + bitsOf .and .i64 size 1023) (A.map Prod.snd) put D W q p lk there)
    (h : Holds B (SlC ty_s_uint8 1 all (A.map recV) :: WalR l d W :: DiskR d D :: blk kb (.cells #[a.val, b.val, c.val] 56 (0, 0)) :: Γ) w) (hk : ∀ w, Holds B Γ w → k true w) :
    law04_WalKeeps.s2 k size ⟨kb, 0, none⟩ (some ⟨d, 0, none⟩) (put : Int) all w := by
  obtain ⟨hm0, hm1⟩ := bits_k size 1023 1023 (by decide) (by decide)
  unfold law04_WalKeeps.s2
  try simp only [add_mk, Nat.zero_add, Nat.reduceAdd]
  refine r_ld (x := c) h rfl (by first | with_reducible exact M0 | with_reducible exact M1 | with_reducible exact M2 | with_reducible exact M3 | with_reducible exact M4 | with_reducible exact M5 | with_reducible exact M6 | with_reducible exact M7 | with_reducible exact M8 | with_reducible exact M9 | with_reducible exact M10 | with_reducible exact M11 | with_reducible exact M12) ?_ ?_
  · exact rfl
  replace h := P2 h
  replace h := D2 h
  replace h := D2 h
  try simp only [N1, N2, N3, N4, N5, N6, N7] at h
  refine crash_spec (ks := ks) hK.ok h (fun w h => hks.old h) fun o w h => ?_
  refine r_ite_f rfl ?_
  refine r_ar rfl ?_
  refine r_add64 (by omega) (by omega) ?_
  generalize bitsOf .and .i64 size 1023 = z at hm0 hm1 hK
  obtain ⟨m, m1, m2, hT⟩ := crash_toOpen hK.ok hK.log ks
  rw [hK.name] at hT
  obtain ⟨Da, Wa, kk, e4, g1, g2, g3, hI4, hn4, hs4, hd4, ha4, hl4, hu4, _⟩ := open_log (name := LOG) (size := 16 + z) ⟨by decide, by decide⟩ ⟨by omega, by omega⟩ (free_crash (D := D) (ks := ks)) hT
  replace h := P2 h
  replace h := P1 h
  replace h := D2 h
  try simp only [N1, N2, N3, N4, N5, N6, N7] at h
  refine wal_Open_spec (name := LOG) ⟨by decide, by decide⟩ ⟨by omega, by omega⟩ (hK.ok.crash ks) h (fun _ l2 w hD h => ?_) (fun he => absurd (by rw [e4]) he)
  rw [e4] at hD h
  simp only at hD h
  refine r_ite_f rfl ?_
  have hput := lasts_open hK.lasts m1 g3 g1
  have hAll : A.map Prod.snd = q.flatten ++ p := by rw [← hK.log.recs, hK.recs]
  have hAn : A.length = (q.flatten ++ p).length := by rw [← hAll]; simp
  have hgl : (q.flatten ++ p.take kk).length ≤ A.length := by
    rw [hAn, List.length_append, List.length_append, List.length_take]; omega
  have hsm : ∀ r ∈ Wa.recs, r.length ≤ 1000000 := by
    intro r hr
    rw [hI4.recs] at hr
    rcases List.mem_append.1 hr with hr | hr
    · obtain ⟨x, hx, hrx⟩ := List.mem_flatten.1 hr
      have := hI4.small.2 x hx r hrx
      omega
    · have := hI4.small.1 r hr
      omega
  have hWa : OkW Wa := by
    refine hI4.okW ?_ (by rw [hI4.recs]; omega)
    have h1 := catF_len_le (p.take kk) 4096 hI4.small.1
    have h2 : (p.take kk).length ≤ A.length := by rw [List.length_append] at hgl; omega
    rw [hI4.used]
    omega
  unfold law04_WalKeeps.s3
  refine r_ite_f rfl ?_
  refine wal_Records_spec hWa hsm h fun sg w h => ?_
  rw [hI4.recs] at h
  obtain ⟨rs, hrs, h⟩ := RecR.opens h
  have hrn := rec_n h
  have hrl : rs.length = (q.flatten ++ p.take kk).length := by rw [← hrs]; simp
  have hall := rec_n (h.pick 4 at4)
  have hac := (h.pick 4 at4).slCap
  refine r_ite_t (by simp only [decide_eq_true_eq]; omega) ?_
  refine r_ite_t (by simp only [decide_eq_true_eq]; omega) ?_
  refine ⟨_, by omega, by omega, by omega, by omega, rfl, ?_⟩
  simp only [Int.toNat_natCast, show (0 : Int).toNat = 0 from rfl, cut0 hac.2.2.1, Nat.sub_zero]
  refine ref04_Same_spec (L1 := rs) (L2 := A.take sg.n) (by omega) ?_ h (fun w h => ⟨h.rdC (E := ty_s_uint8) List.mem_cons_self, fun x hx => stars_rd (f := recB) 1 h at1 hx rfl⟩) (fun w h => ⟨?_, fun x hx => (hA x (List.mem_of_mem_take hx)).old h⟩) fun w h => ?_
  · rw [hrs, List.map_take, hAll, ← hrn, hrl]
    have e9 : q.flatten ++ p = (q.flatten ++ p.take kk) ++ p.drop kk := by rw [List.append_assoc, List.take_append_drop]
    rw [e9, List.take_left]
  · have h8 : RdC w all 1 (A.map recV) := h.rdC (E := ty_s_uint8) (List.mem_cons_of_mem _ (List.mem_cons_of_mem _ (List.mem_cons_of_mem _ (List.mem_cons_of_mem _ List.mem_cons_self))))
    have h9 := h8.take (m := sg.n) (c := all.c) (by omega)
    rw [List.map_take]
    simpa using h9
  · unfold law04_WalKeeps.s4
    exact hk _ h.tail.tail.tail.tail.tail
theorem law04_WalKeeps_spec {k : Bool → K} {a b c : Sl} {LX LY : RecL} {ks : List Int} {size : Int} (hXr : RdC B a 1 (LX.map recV)) (hXb : ∀ x ∈ LX, RdB B x.1 x.2) (hYr : RdC B b 1 (LY.map recV)) (hYb : ∀ x ∈ LY, RdB B x.1 x.2)
    (hks : RdC B c 1 (ks.map (Value.int .i64))) (h : Holds B Γ w) (hk : ∀ w, Holds B Γ w → k true w) : law04_WalKeeps.call #[a.val, b.val, c.val] size k w := by
  have han : LX.length = a.n := by have := hXr.len; simpa using this
  have hbn : LY.length = b.n := by have := hYr.len; simpa using this
  refine law04_WalKeeps_ok _ _ _ _ ?_
  unfold law04_WalKeeps
  refine r_new h ?_
  clear h
  intro kb w h
  try simp only [add_mk, Nat.zero_add, Nat.reduceAdd]
  refine law04_speaks_spec h fun w h => ?_
  refine r_ite_f rfl ?_
  refine r_ld (x := a) h rfl (by first | with_reducible exact M0 | with_reducible exact M1 | with_reducible exact M2 | with_reducible exact M3 | with_reducible exact M4 | with_reducible exact M5 | with_reducible exact M6 | with_reducible exact M7 | with_reducible exact M8 | with_reducible exact M9 | with_reducible exact M10 | with_reducible exact M11 | with_reducible exact M12) ?_ ?_
  · exact rfl
  have big : ∀ w, Holds B (blk kb (.cells #[a.val, b.val, c.val] 56 (0, 0)) :: Γ) w → law04_WalKeeps.s1 k size ⟨kb, 0, none⟩ true w := fun w h => by
    unfold law04_WalKeeps.s1
    exact r_ite_t rfl (hk _ h.tail)
  refine r_ite (fun _ => big _ h) (fun hn1 => ?_)
  simp only [decide_eq_false_iff_not] at hn1
  try simp only [add_mk, Nat.zero_add, Nat.reduceAdd]
  refine r_ld (x := b) h rfl (by first | with_reducible exact M0 | with_reducible exact M1 | with_reducible exact M2 | with_reducible exact M3 | with_reducible exact M4 | with_reducible exact M5 | with_reducible exact M6 | with_reducible exact M7 | with_reducible exact M8 | with_reducible exact M9 | with_reducible exact M10 | with_reducible exact M11 | with_reducible exact M12) ?_ ?_
  · exact rfl
  unfold law04_WalKeeps.s1
  refine r_ite (fun _ => hk _ h.tail) (fun hn2 => ?_)
  simp only [decide_eq_false_iff_not] at hn2
  refine new_spec h (fun hb => by omega) fun d w _ _ h => ?_
  refine r_ite_f rfl ?_
  obtain ⟨hm0, hm1⟩ := bits_k size 1023 1023 (by decide) (by decide)
  refine r_ar rfl ?_
  refine r_add64 (by omega) (by omega) ?_
  obtain ⟨DA, W0, k0, e0, a1, a2, a3, hI0, hn0, hs0, hd0, ha0, hl0, hu0, _⟩ := open_log (name := LOG) (size := 16 + bitsOf .and .i64 size 1023) ⟨by decide, by decide⟩ ⟨by omega, by omega⟩ (free_new (room := 1048576)) toOpen_new
  refine wal_Open_spec (name := LOG) ⟨by decide, by decide⟩ ⟨by omega, by omega⟩ (new_ok4 (by decide) (by decide)) h (fun _ l w hD h => ?_) (fun he => absurd (by rw [e0]) he)
  rw [e0] at hD h
  simp only at hD h
  simp only [List.take_nil] at hI0
  have hu0' : usedL DA.files = 0 := Nat.le_zero.1 hu0
  have hl0' : DA.files.length = 0 := hl0
  have hK0 : KI (16 + bitsOf .and .i64 size 1023) [] 0 DA W0 [] [] 0 false :=
    ⟨hD, ⟨by rw [ha0]; rfl, by rw [ha0]; rfl⟩, hI0, hn0, hs0, by rw [hI0.recs]; rfl, ⟨0, Nat.le_refl _, rfl, Nat.le_refl _⟩, by rw [ha0]; rfl, by omega, by omega, fun _ => hd0⟩
  refine r_ite_f rfl ?_
  refine r_new h ?_
  clear h
  intro t46 w h
  try simp only [add_mk, Nat.zero_add, Nat.reduceAdd]
  refine r_dr h ?_
  clear h
  intro w h
  replace h := P2 h
  replace h := P2 h
  replace h := P2 h
  replace h := P3 h
  try simp only [N1, N2, N3, N4, N5, N6, N7] at h
  have hS : Holds B (blk kb (.cells #[a.val, b.val, c.val] 56 (0, 0)) :: Γ) w := ((h.del 1 at1).del 1 at1).del 1 at1
  refine r_withS hS ?_
  refine r_ldS (x := a) rfl (by first | with_reducible exact M0 | with_reducible exact M1 | with_reducible exact M2 | with_reducible exact M3 | with_reducible exact M4 | with_reducible exact M5 | with_reducible exact M6 | with_reducible exact M7 | with_reducible exact M8 | with_reducible exact M9 | with_reducible exact M10 | with_reducible exact M11 | with_reducible exact M12) ?_ ?_
  · exact rfl
  refine r_ldS (x := b) rfl (by first | with_reducible exact M0 | with_reducible exact M1 | with_reducible exact M2 | with_reducible exact M3 | with_reducible exact M4 | with_reducible exact M5 | with_reducible exact M6 | with_reducible exact M7 | with_reducible exact M8 | with_reducible exact M9 | with_reducible exact M10 | with_reducible exact M11 | with_reducible exact M12) ?_ ?_
  · exact rfl
  refine r_new h ?_
  clear h
  intro t47 w h
  try simp only [add_mk, Nat.zero_add, Nat.reduceAdd]
  refine r_sv (((h.tail.del 1 at1).del 1 at1).del 1 at1) ?_
  refine r_append (vs := []) (h.imp (blk_SlC rfl rfl)) (by kernel_rfl) (by kernel_rfl) (by' := 24) (by kernel_rfl) zero_ty_s_uint8 rfl (hXr.old h) (rec_flat LX) (by simp only; omega) (by decide) fun u w h hu _ => ?_
  simp only [List.nil_append] at h
  have hun : u.n = a.n := by simpa using hu
  refine r_sv (((h.tail.del 1 at1).del 1 at1).del 1 at1) ?_
  refine r_append h (by kernel_rfl) (by kernel_rfl) (by' := 24) (by kernel_rfl) zero_ty_s_uint8 rfl (hYr.old h) (rec_flat LY) (by omega) (by decide) fun v w h hv _ => ?_
  rw [← List.map_append] at h
  have hvn : v.n = (LX ++ LY).length := by rw [List.length_append]; omega
  have hZb : ∀ x ∈ LX ++ LY, RdB B x.1 x.2 := fun x hx => by
    rcases List.mem_append.1 hx with hx | hx
    · exact hXb x hx
    · exact hYb x hx
  have hZl : (LX ++ LY).length ≤ 80 := by rw [List.length_append]; omega
  replace h := P1 h
  replace h := P4 h
  replace h := P4 h
  replace h := P3 h
  replace h := P4 h
  try simp only [N1, N2, N3, N4, N5, N6, N7] at h
  replace h := h.imp (blk_SlC (n := 0) (esz := 1) (vs := []) rfl rfl)
  generalize hZ : LX ++ LY = Z at h hvn hZb hZl
  refine LoopK.of (fun t w => ∃ (n put : Nat) (D : DiskD) (W : WalD) (q : List (List (List UInt8))) (p : List (List UInt8)) (lk : Nat) (there : Bool), t.1 = (put : Int) ∧ t.2.2 = (n : Int) ∧ n ≤ Z.length ∧
      KI (16 + bitsOf .and .i64 size 1023) ((Z.take n).map Prod.snd) put D W q p lk there ∧ Holds B (SlC ty_s_uint8 1 t.2.1 ((Z.take n).map recV) :: SlC ty_s_uint8 1 v (Z.map recV) :: WalR l d W :: DiskR d D :: blk kb (.cells #[a.val, b.val, c.val] 56 (0, 0)) :: Γ) w) (fun t _ => ((v.n : Int) - t.2.2).toNat) ⟨0, 0, DA, W0, [], [], 0, false, rfl, rfl, by omega, hK0, h⟩ ?_
  clear h hK0 hI0 hD hS
  rintro ⟨put', all, t⟩ w ⟨n, put, D, W, q, p, lk, there, h1, h2, hn, hK, h⟩
  simp only at h1 h2 h
  subst h1; subst h2
  have hlen : ((Z.take n).map Prod.snd).length = n := by simp; omega
  have hall := rec_n h
  unfold law04_WalKeeps.b5
  refine r_ite (fun hb => ?_) (fun hb => ?_)
  · simp only [decide_eq_true_eq] at hb
    have hnl : n < Z.length := by omega
    have hx : Z[n]? = some Z[n] := List.getElem?_eq_getElem hnl
    have htk : Z.take (n + 1) = Z.take n ++ [Z[n]] := List.take_succ_eq_append_getElem hnl
    generalize Z[n] = x at hx htk
    have hxb := hZb x (List.mem_of_getElem? hx)
    have hxn : x.2.length = x.1.n := by have := hxb.len; simpa using this
    have hrv : RdC w v 1 ((Z.map Prod.fst).map Sl.val) := by
      have h9 : RdC w v 1 (Z.map recV) := h.rdC (E := ty_s_uint8) (List.mem_cons_of_mem _ List.mem_cons_self)
      rw [List.map_map]; exact h9
    refine r_idx1 (c := Sl.val) hrv (x := x.1) (by rw [List.getElem?_map, hx]; rfl) ?_
    refine r_ld (x := a) h rfl (by first | with_reducible exact M0 | with_reducible exact M1 | with_reducible exact M2 | with_reducible exact M3 | with_reducible exact M4 | with_reducible exact M5 | with_reducible exact M6 | with_reducible exact M7 | with_reducible exact M8 | with_reducible exact M9 | with_reducible exact M10 | with_reducible exact M11 | with_reducible exact M12) ?_ ?_
    · exact rfl
    -- the record comes in
    have s6 : ∀ (put : Nat) (D : DiskD) (W : WalD) (lk : Nat) w, KI (16 + bitsOf .and .i64 size 1023) ((Z.take n).map Prod.snd) put D W q p lk there → Holds B (SlC ty_s_uint8 1 all ((Z.take n).map recV) :: SlC ty_s_uint8 1 v (Z.map recV) :: WalR l d W :: DiskR d D :: blk kb (.cells #[a.val, b.val, c.val] 56 (0, 0)) :: Γ) w →
        law04_WalKeeps.s6 k (fun p1 p2 p3 w' => (∃ (n put : Nat) (D : DiskD) (W : WalD) (q : List (List (List UInt8))) (p : List (List UInt8)) (lk : Nat) (there : Bool), p1 = (put : Int) ∧ p3 = (n : Int) ∧ n ≤ Z.length ∧
      KI (16 + bitsOf .and .i64 size 1023) ((Z.take n).map Prod.snd) put D W q p lk there ∧ Holds B (SlC ty_s_uint8 1 p2 ((Z.take n).map recV) :: SlC ty_s_uint8 1 v (Z.map recV) :: WalR l d W :: DiskR d D :: blk kb (.cells #[a.val, b.val, c.val] 56 (0, 0)) :: Γ) w') ∧ ((v.n : Int) - p3).toNat < ((v.n : Int) - (n : Int)).toNat) size ⟨kb, 0, none⟩ (some ⟨d, 0, none⟩) (some ⟨l, 0, none⟩) (put : Int) all x.1 v (v.n : Int) (n : Int) w := by
      clear h hK
      intro put D W lk w hK h
      unfold law04_WalKeeps.s6
      refine r_ite (fun _ => hk _ h.tail.tail.tail.tail.tail) (fun hbig => ?_)
      simp only [decide_eq_false_iff_not] at hbig
      have hW := hK.okW (by omega)
      have hc := cnt_le hK.log.qlen there
      have hfew := hK.few
      have hused := hK.used
      rw [hlen] at hused
      have hA := logI_app hK.log hK.free (r := x.2) (by omega) (by omega) (by rw [hK.room]; omega)
      replace h := P4 h
      replace h := P2 h
      replace h := P2 h
      replace h := P4 h
      replace h := P4 h
      try simp only [N1, N2, N3, N4, N5, N6, N7] at h
      refine wal_Append_spec (r := x.2) hK.ok hW (by omega) (fun w h => hxb.old h) h fun w hD h => ?_
      rcases hA with ⟨hA, _⟩ | ⟨Db, Wb, qb, pb, lkb, hA, hIb, hnb, hsb, hrb, hBb, hLb, hcb⟩
      · rw [hA] at h ⊢
        refine r_ite_t rfl ?_
        replace h := P4 h
        replace h := P2 h
        replace h := P2 h
        replace h := P3 h
        replace h := D4 h
        try simp only [N1, N2, N3, N4, N5, N6, N7] at h
        exact keeps_s2 hks (fun y hy => hZb y (List.mem_of_mem_take hy)) (by simp; omega) hK h hk
      · rw [hA] at hD h ⊢
        simp only at hD h ⊢
        refine r_ite_f rfl (r_ite_f rfl ?_)
        refine r_new h ?_
        clear h
        intro t87 w h
        try simp only [add_mk, Nat.zero_add, Nat.reduceAdd]
        have hn9 := rec_n (h.pick 3 at3)
        have hxr := RdC.of_blk (n := 1) (esz := 1) h List.mem_cons_self (vs := [x.1.val]) rfl rfl 1
        refine r_append (h.pick 3 at3) (by kernel_rfl) (by kernel_rfl) (by' := 24) (by kernel_rfl) zero_ty_s_uint8 rfl hxr (fun v hv => by simp only [List.mem_singleton] at hv; subst hv; rfl) (by simp only at hn9 ⊢; simp at hn9; omega) (by decide) fun all2 w h _ _ => ?_
        try simp only [N1, N2, N3, N4, N5, N6, N7] at h
        have e9 : (Z.take n).map recV ++ [x.1.val] = (Z.take (n + 1)).map recV := by rw [htk, List.map_append]; rfl
        rw [e9] at h
        refine r_add64 (by omega) (by omega) ?_
        replace h := P5 h
        replace h := P4 h
        replace h := P4 h
        replace h := P5 h
        replace h := P4 h
        replace h := D5 h
        try simp only [N1, N2, N3, N4, N5, N6, N7] at h
        have hrec2 : (Z.take (n + 1)).map Prod.snd = (Z.take n).map Prod.snd ++ [x.2] := by rw [htk, List.map_append]; rfl
        refine ⟨⟨n + 1, put, Db, Wb, qb, pb, lkb, true, rfl, by omega, by omega, ⟨hD, ⟨by rw [hBb.a]; exact hK.free.left, by rw [hBb.a]; exact hK.free.down⟩, hIb, by rw [hnb, hK.name], by rw [hsb, hK.size], by rw [hrb, hK.recs, hrec2], hLb _ hK.lasts, by rw [hBb.a]; exact hK.room, ?_, ?_, (fun hf => by cases hf)⟩, h⟩, by omega⟩
        · have := hBb.used
          rw [hrec2, List.length_append, hlen, List.length_singleton]
          omega
        · have := hcb
          omega
    refine r_ite (fun _ => ?_) (fun _ => ?_)
    · unfold law04_WalKeeps.s7
      refine r_ite (fun hp0 => ?_) (fun _ => s6 _ _ _ _ _ hK h)
      have hp0' : put = 0 := by simp only [decide_eq_true_eq] at hp0; omega
      have hW := hK.okW (by omega)
      have ht : there = true ∨ W.dirty = false := by
        cases hth : there with
        | true => exact .inl rfl
        | false => exact .inr (hK.fresh hth)
      obtain ⟨Db, Wb, e2, hI2, hd2, hn2, hs2, hr2, hp2, hus2, ha2, hU2, hL2, _⟩ := logI_sync hK.log hK.free ht
      replace h := P4 h
      replace h := P2 h
      replace h := P2 h
      replace h := P4 h
      replace h := P4 h
      try simp only [N1, N2, N3, N4, N5, N6, N7] at h
      refine wal_Sync_spec hK.ok hW h fun w hD h => ?_
      rw [e2] at hD h ⊢
      simp only at hD h ⊢
      refine r_ite_f rfl ?_
      have hK2 : KI (16 + bitsOf .and .i64 size 1023) ((Z.take n).map Prod.snd) n Db Wb q p (catF p).length there :=
        ⟨hD, ⟨by rw [ha2]; exact hK.free.left, by rw [ha2]; exact hK.free.down⟩, hI2, by rw [hn2, hK.name], by rw [hs2, hK.size], by rw [hr2, hK.recs], ⟨p.length, Nat.le_refl _, by rw [List.take_length], by
          have := congrArg List.length (hK.recs.symm.trans hK.log.recs)
          rw [hlen, List.length_append] at this
          omega⟩, by rw [ha2]; exact hK.room, by rw [hU2]; exact hK.used, by rw [hL2]; exact hK.few, fun _ => hd2⟩
      refine wal_Records_spec (hK2.okW (by omega)) hK2.smallR h fun sg w h => ?_
      obtain ⟨rs, hrs, h⟩ := RecR.opens h
      have hrn := rec_n h
      have hsg : (sg.n : Int) = (n : Int) := by
        have : rs.length = Wb.recs.length := by rw [← hrs]; simp
        rw [hK2.recs, hlen] at this
        omega
      rw [hsg]
      replace h := P6 h
      replace h := P4 h
      replace h := P4 h
      replace h := P6 h
      replace h := P6 h
      replace h := D5 h
      replace h := D5 h
      try simp only [N1, N2, N3, N4, N5, N6, N7] at h
      exact s6 n Db Wb _ w hK2 h
    · unfold law04_WalKeeps.s7
      exact r_ite_f rfl (s6 _ _ _ _ _ hK h)
  · simp only [decide_eq_false_iff_not] at hb
    replace h := P4 h
    replace h := P4 h
    replace h := P4 h
    replace h := P3 h
    replace h := D4 h
    try simp only [N1, N2, N3, N4, N5, N6, N7] at h
    exact keeps_s2 hks (fun y hy => hZb y (List.mem_of_mem_take hy)) (by simp; omega) hK h hk
end
end Go.Proofs.Ytdpepgjbambinaa

namespace Go.Proofs.Ytdpepgjbambinaa
open Go Go.Sep Go.RowKit
theorem WalKeeps_walk (W : World) (cs : Array Value) (y0 : Rdy W Sh_ty_argosylaw04_Kept (Value.agg cs).cells.toList) (hsz : cs.size = 3) (x : Int) (_ : (Lit.int .i64 x).wf = true) :
    Calls Try.prog 5 #[.agg cs, .int .i64 x] W (Ret fun v w' => v = .bool true ∧ Below W.heap.size W w') := by
  obtain ⟨l⟩ := cs
  match l, hsz with
  | [u, v, z], _ =>
    obtain ⟨⟨s, e0, _, _, h1, h2⟩, ⟨s', e1, _, _, h3, h4⟩, ⟨s2, e2, _, _, h5, h6⟩, _⟩ := y0
    have hu : u = s.val := by
      have : [u] = [s.val] := e0
      exact (List.cons.inj this).1
    have hv : v = s'.val := by
      have : [v] = [s'.val] := e1
      exact (List.cons.inj this).1
    have hz : z = s2.val := by
      have : [z] = [s2.val] := e2
      exact (List.cons.inj this).1
    subst hu; subst hv; subst hz
    obtain ⟨L, _, hL, hd⟩ := rd_list (fun x : Sl × List UInt8 => [x.1.val]) (fun x => RdB W x.1 x.2) (fun _ => rfl) h1 h2 fun cs hc hr => by
      obtain ⟨s, e, _, _, g1, g2⟩ := hr
      subst e
      obtain ⟨xs, _, h3⟩ := rd_bytes g1 g2
      exact ⟨(s, xs), rfl, h3⟩
    obtain ⟨M, _, hM, hd2⟩ := rd_list (fun x : Sl × List UInt8 => [x.1.val]) (fun x => RdB W x.1 x.2) (fun _ => rfl) h3 h4 fun cs hc hr => by
      obtain ⟨s, e, _, _, g1, g2⟩ := hr
      subst e
      obtain ⟨xs, _, h3⟩ := rd_bytes g1 g2
      exact ⟨(s, xs), rfl, h3⟩
    rw [flat1] at hL hM
    obtain ⟨E, _, hE, _⟩ := rd_ints h5 h6
    exact law_call (law04_WalKeeps_spec hL hd hM hd2 hE (Holds.start W) fun w h => ⟨rfl, h⟩)
end Go.Proofs.Ytdpepgjbambinaa
