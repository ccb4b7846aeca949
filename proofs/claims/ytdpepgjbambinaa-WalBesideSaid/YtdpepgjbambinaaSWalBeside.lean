/- WalBeside. -/
import Derived.Test.YtdpepgjbambinaaSWalK
import Derived.Test.YtdpepgjbambinaaIRLaw04WalBeside
import Derived.Test.YtdpepgjbambinaaShapes
import Derived.Test.YtdpepgjbambinaaRow
namespace Go.Proofs.Ytdpepgjbambinaa
open Go Go.Sep
set_option linter.unusedSimpArgs false
set_option linter.unusedVariables false
set_option maxRecDepth 100000
abbrev OTHER : List UInt8 := [111, 116, 104, 101, 114]
abbrev FILE : List UInt8 := [102, 105, 108, 101]
theorem LogI.other {W : WalD} {D D' : DiskD} {q : List (List (List UInt8))} {p : List (List UInt8)} {lk : Nat} {there : Bool} (h : LogI W D q p lk there) (ho : ∀ i, i ≤ 9 → mget (fileW W.name i) D'.files = mget (fileW W.name i) D.files) : LogI W D' q p lk there :=
  ⟨h.name, h.size, fun i x hx => by
    have hi : i < q.length := (List.getElem?_eq_some_iff.1 hx).1
    have := h.qlen
    rw [ho i (by omega)]; exact h.qf i x hx, by rw [ho _ h.qlen]; exact h.pf, h.new, fun i h1 h2 => by rw [ho i h2]; exact h.no i h1 h2, h.qlen, h.part, h.used, h.recs, h.dirty, h.mark, h.small⟩
/-- One log of two, on a disk. -/
structure OneL (nm : List UInt8) (D : DiskD) (W : WalD) (p : List (List UInt8)) (lk : Nat) (t : Bool) : Prop where
  log : LogI W D [] p lk t
  name : W.name = nm
  size : W.size = 65536
  small : ∀ r ∈ p, r.length ≤ 1000
  fresh : t = false → W.dirty = false
structure BI (n1 n2 : List UInt8) (D : DiskD) (W1 : WalD) (p1 : List (List UInt8)) (lk1 : Nat) (t1 : Bool) (W2 : WalD) (p2 : List (List UInt8)) (lk2 : Nat) (t2 : Bool) : Prop where
  ok : OkD D
  free : Free D
  l1 : OneL n1 D W1 p1 lk1 t1
  l2 : OneL n2 D W2 p2 lk2 t2
  oth : mget OTHER D.files = some ⟨FILE, 4⟩
  room : D.a.room = 1048576
  used : usedL D.files ≤ 4 + 1006 * (p1.length + p2.length)
  few : D.files.length ≤ 1 + (cntL [] t1 + cntL [] t2)
theorem BI.symm {n1 n2 : List UInt8} {D : DiskD} {W1 : WalD} {p1 : List (List UInt8)} {lk1 : Nat} {t1 : Bool} {W2 : WalD} {p2 : List (List UInt8)} {lk2 : Nat} {t2 : Bool} (h : BI n1 n2 D W1 p1 lk1 t1 W2 p2 lk2 t2) : BI n2 n1 D W2 p2 lk2 t2 W1 p1 lk1 t1 :=
  ⟨h.ok, h.free, h.l2, h.l1, h.oth, h.room, by have := h.used; omega, by have := h.few; omega⟩
/-- The names are apart. -/
structure Ap (n1 n2 : List UInt8) : Prop where
  ab : ∀ i j, i ≤ 9 → j ≤ 9 → fileW n1 i ≠ fileW n2 j
  o1 : ∀ i, i ≤ 9 → OTHER ≠ fileW n1 i
theorem OneL.used {nm : List UInt8} {D : DiskD} {W : WalD} {p : List (List UInt8)} {lk : Nat} {t : Bool} (h : OneL nm D W p lk t) (hp : p.length ≤ 20) : W.used ≤ 20120 := by
  rw [h.log.used]
  have := catF_len_le p 1000 h.small
  omega
theorem OneL.okW {nm : List UInt8} {D : DiskD} {W : WalD} {p : List (List UInt8)} {lk : Nat} {t : Bool} (h : OneL nm D W p lk t) (hp : p.length ≤ 20) : OkW W :=
  h.log.okW (by have := h.used hp; omega) (by rw [h.log.recs]; simp; omega)
theorem OneL.recs {nm : List UInt8} {D : DiskD} {W : WalD} {p : List (List UInt8)} {lk : Nat} {t : Bool} (h : OneL nm D W p lk t) : W.recs = p := by rw [h.log.recs]; rfl
section
variable {n1 n2 : List UInt8} {D : DiskD} {W1 : WalD} {p1 : List (List UInt8)} {lk1 : Nat} {t1 : Bool} {W2 : WalD} {p2 : List (List UInt8)} {lk2 : Nat} {t2 : Bool}
theorem bi_app (hA : Ap n1 n2) (h : BI n1 n2 D W1 p1 lk1 t1 W2 p2 lk2 t2) {r : List UInt8} (hr : r.length ≤ 1000) (h1 : p1.length < 20) (h2 : p2.length ≤ 20) : ∃ D' W', W1.app D r = (D', W', 0) ∧ (OkD D' → BI n1 n2 D' W' (p1 ++ [r]) lk1 true W2 p2 lk2 t2) := by
  have hus := h.l1.used (by omega)
  have hfl := frameL_len r
  have hu := h.used
  have hf := h.few
  have hc1 : cntL [] t1 ≤ 1 := by unfold cntL; split <;> simp
  have hc2 : cntL [] t2 ≤ 1 := by unfold cntL; split <;> simp
  obtain ⟨D', W', e1, hI, hn, hs, hr2, hB, hL, hc⟩ := logI_put h.l1.log h.free (r := r) (by omega) (by omega) (by rw [h.room]; omega)
  refine ⟨D', W', ?_, fun hD => ⟨hD, ⟨by rw [hB.a]; exact h.free.left, by rw [hB.a]; exact h.free.down⟩, ⟨hI, by rw [hn, h.l1.name], by rw [hs, h.l1.size], fun x hx => ?_, fun hf => by cases hf⟩, ⟨h.l2.log.other fun i hi => hB.others _ fun j hj => ?_, h.l2.name, h.l2.size, h.l2.small, h.l2.fresh⟩, ?_, by rw [hB.a]; exact h.room, ?_, ?_⟩⟩
  · unfold WalD.app
    rw [if_neg (by rintro ⟨_, h9⟩; rw [h.l1.size] at h9; omega), e1]
  · rcases List.mem_append.1 hx with hx | hx
    · exact h.l1.small x hx
    · simp only [List.mem_singleton] at hx
      subst hx; exact hr
  · rw [h.l2.name, h.l1.name]
    exact (hA.ab j i hj hi).symm
  · rw [hB.others _ fun j hj => by rw [h.l1.name]; exact hA.o1 j hj]
    exact h.oth
  · have := hB.used
    rw [List.length_append, List.length_singleton]
    omega
  · omega
theorem bi_sync (hA : Ap n1 n2) (h : BI n1 n2 D W1 p1 lk1 t1 W2 p2 lk2 t2) : ∃ D' W', W1.syncW D = (D', W', 0) ∧ (OkD D' → BI n1 n2 D' W' p1 (catF p1).length t1 W2 p2 lk2 t2) := by
  have ht : t1 = true ∨ W1.dirty = false := by
    cases hth : t1 with
    | true => exact .inl rfl
    | false => exact .inr (h.l1.fresh hth)
  obtain ⟨Db, Wb, e2, hI2, hd2, hn2, hs2, hr2, hp2, hus2, ha2, hU2, hL2, hO⟩ := logI_sync h.l1.log h.free ht
  have hpt : W1.part ≤ 9 := by have := h.l1.log.part; have := h.l1.log.qlen; omega
  refine ⟨Db, Wb, e2, fun hD => ⟨hD, ⟨by rw [ha2]; exact h.free.left, by rw [ha2]; exact h.free.down⟩, ⟨hI2, by rw [hn2, h.l1.name], by rw [hs2, h.l1.size], h.l1.small, fun _ => hd2⟩, ⟨h.l2.log.other fun i hi => hO _ ?_, h.l2.name, h.l2.size, h.l2.small, h.l2.fresh⟩, ?_, by rw [ha2]; exact h.room, by rw [hU2]; exact h.used, by rw [hL2]; exact h.few⟩⟩
  · rw [h.l2.name, h.l1.name]
    exact (hA.ab _ i hpt hi).symm
  · rw [hO _ (by rw [h.l1.name]; exact hA.o1 _ hpt)]
    exact h.oth
/-- A log is opened on a disk that was left by a crash without Keeps: all is there. -/
theorem one_open {nm : List UInt8} {E : DiskD} {p : List (List UInt8)} {m : Nat} {t : Bool} (hn : 1 ≤ nm.length ∧ nm.length ≤ 8) (hF : Free E) (hT : ToOpen nm E [] p m t) (hm : (catF p).length ≤ m) (hs : ∀ r ∈ p, r.length ≤ 1000) :
    ∃ E' W', (newW nm 65536).load E = (E', W', 0) ∧ OneL nm E' W' p (catF p).length t ∧ Free E' ∧ (∀ n, (∀ i, i ≤ 9 → n ≠ fileW nm i) → mget n E'.files = mget n E.files) ∧ usedL E'.files ≤ usedL E.files ∧ E'.files.length = E.files.length ∧ E'.a = E.a := by
  obtain ⟨E', W', k, e, g1, g2, g3, hI, hnm, hsz, hd, ha, hl, hu, hO⟩ := open_log (size := 65536) hn ⟨by decide, by decide⟩ hF hT
  have hk : p.take k = p := by
    by_cases hk : k < p.length
    · have := g3 hk
      have := catF_take_le p (k + 1)
      omega
    · exact List.take_of_length_le (by omega)
  rw [hk] at hI
  exact ⟨E', W', e, ⟨hI, hnm, hsz, hs, fun _ => hd⟩, ⟨by rw [ha]; exact hF.left, by rw [ha]; exact hF.down⟩, hO, hu, hl, ha⟩
end
theorem apXY : Ap [120] [121] := ⟨fun i j _ _ h => by unfold fileW at h; simp at h, fun i _ h => by unfold fileW at h; simp at h⟩
theorem apYX : Ap [121] [120] := ⟨fun i j _ _ h => by unfold fileW at h; simp at h, fun i _ h => by unfold fileW at h; simp at h⟩
theorem ToOpen.other {nm : List UInt8} {E E' : DiskD} {p : List (List UInt8)} {m : Nat} {t : Bool} (h : ToOpen nm E [] p m t) (ho : ∀ i, i ≤ 9 → mget (fileW nm i) E'.files = mget (fileW nm i) E.files) : ToOpen nm E' [] p m t :=
  ⟨fun i x hx => by simp at hx, by rw [ho _ (by simp)]; exact h.pf, h.new, fun i h1 h2 => by rw [ho i h2]; exact h.no i h1 h2, h.qlen, h.le, h.small⟩
def dO : DiskD := ⟨⟨1048576, -1, false⟩, [(OTHER, ⟨FILE, 4⟩)]⟩
theorem dO_none {nm : List UInt8} (hA : ∀ i, i ≤ 9 → OTHER ≠ fileW nm i) {i : Nat} (hi : i ≤ 9) : mget (fileW nm i) dO.files = none :=
  if_neg fun e => hA i hi e.symm
theorem dO_open {nm : List UInt8} (hA : ∀ i, i ≤ 9 → OTHER ≠ fileW nm i) : ToOpen nm dO [] [] 0 false :=
  ⟨fun i x hx => by simp at hx, dO_none hA (by simp), fun _ => ⟨rfl, rfl⟩, fun i _ hi => dO_none hA hi, by simp, Nat.zero_le _, ⟨by intro r hr; simp at hr, by intro x hx; simp at hx⟩⟩
section
variable {B w : World} {Γ : List HProp}
/-- Records of two logs are the same. -/
theorem two_recs {k : Bool → K} {l1 d1 l2 d2 : Nat} {Wa Wb : WalD} {R : List (List UInt8)} (hW1 : OkW Wa) (hW2 : OkW Wb) (h1 : Wa.recs = R) (h2 : Wb.recs = R) (hs : ∀ r ∈ R, r.length ≤ 1000) (hl : R.length ≤ 1000)
    (h : Holds B (WalR l1 d1 Wa :: WalR l2 d2 Wb :: Γ) w) (hk : ∀ w, Holds B (WalR l1 d1 Wa :: WalR l2 d2 Wb :: Γ) w → k true w) :
    wal_Log_Records.call (some ⟨l1, 0, none⟩) (fun t => wal_Log_Records.call (some ⟨l2, 0, none⟩) fun u => ref04_Same.call t u k) w := by
  refine wal_Records_spec hW1 (by rw [h1]; intro r hr; have := hs r hr; omega) h fun a w h => ?_
  replace h := P1 h
  replace h := P1 h
  replace h := P2 h
  try simp only [N1, N2, N3, N4, N5, N6, N7] at h
  refine wal_Records_spec hW2 (by rw [h2]; intro r hr; have := hs r hr; omega) h fun b w h => ?_
  rw [h1, h2] at h
  obtain ⟨rb, hrb, h⟩ := RecR.opens h
  replace h := P4 h
  replace h := P3 h
  replace h := P3 h
  replace h := P3 h
  replace h := P4 h
  try simp only [N1, N2, N3, N4, N5, N6, N7] at h
  refine same_recs (L2 := rb) (by omega) hrb.symm h (fun w h => ⟨h.rdC (E := ty_s_uint8) List.mem_cons_self, fun x hx => stars_rd (f := recB) 1 h at1 hx rfl⟩) fun w h => ?_
  replace h := P2 h
  replace h := P3 h
  replace h := D2 h
  replace h := D2 h
  try simp only [N1, N2, N3, N4, N5, N6, N7] at h
  exact hk _ h

theorem law04_WalBeside_spec {k : Bool → K} {a b : Sl} {LX LY : RecL} (hXr : RdC B a 1 (LX.map recV)) (hXb : ∀ x ∈ LX, RdB B x.1 x.2) (hYr : RdC B b 1 (LY.map recV)) (hYb : ∀ x ∈ LY, RdB B x.1 x.2)
    (h : Holds B Γ w) (hk : ∀ w, Holds B Γ w → k true w) : law04_WalBeside.call a b k w := by
  have han : LX.length = a.n := by have := hXr.len; simpa using this
  have hbn : LY.length = b.n := by have := hYr.len; simpa using this
  refine law04_WalBeside_ok _ _ _ _ ?_
  unfold law04_WalBeside
  refine law04_speaks_spec h fun w h => ?_
  refine r_ite_f rfl ?_
  unfold law04_WalBeside.s1
  refine r_ite (fun _ => r_ite_t rfl (hk _ h)) (fun hn1 => ?_)
  simp only [decide_eq_false_iff_not] at hn1
  refine r_ite (fun _ => hk _ h) (fun hn2 => ?_)
  simp only [decide_eq_false_iff_not] at hn2
  refine new_spec h (fun hb => by omega) fun d w _ _ h => ?_
  refine r_ite_f rfl ?_
  refine r_new h ?_
  clear h
  intro t36 w h
  try simp only [add_mk, Nat.zero_add, Nat.reduceAdd]
  refine r_mark (by kernel_rfl) h rfl fun w h => ?_
  refine append_spec (n := OTHER) (x := FILE) (new_ok4 (by decide) (by decide)) (by decide) h.swap (fun w h => h.rdC (E := 5) List.mem_cons_self) fun w hD h => ?_
  have e1 : (DiskD.new 1048576).append OTHER FILE = (⟨⟨1048576, -1, false⟩, [(OTHER, ⟨FILE, 0⟩)]⟩, 0) := rfl
  rw [e1] at hD h
  refine sync_spec (n := OTHER) hD h fun w hD h => ?_
  have e2 : (⟨⟨1048576, -1, false⟩, [(OTHER, ⟨FILE, 0⟩)]⟩ : DiskD).sync OTHER = (dO, 0) := rfl
  rw [e2] at hD h
  obtain ⟨EX, WX, eX, hX, hFX, hOX, hUX, hLX, hAX⟩ := one_open (nm := [120]) (p := []) (m := 0) (t := false) ⟨by decide, by decide⟩ (E := dO) ⟨rfl, rfl⟩ (dO_open apXY.o1) (Nat.le_refl _) (by intro r hr; simp at hr)
  refine wal_Open_spec (name := [120]) ⟨by decide, by decide⟩ ⟨by decide, by decide⟩ hD h (fun _ lx w hD h => ?_) (fun he => absurd (by rw [eX]) he)
  rw [eX] at hD h
  simp only at hD h
  obtain ⟨EY, WY, eY, hY, hFY, hOY, hUY, hLY, hAY⟩ := one_open (nm := [121]) (p := []) (m := 0) (t := false) ⟨by decide, by decide⟩ (E := EX) hFX ((dO_open apYX.o1).other fun i hi => hOX _ fun j hj => (apXY.ab j i hj hi).symm) (Nat.le_refl _) (by intro r hr; simp at hr)
  replace h := P1 h
  replace h := D2 h
  try simp only [N1, N2, N3, N4, N5, N6, N7] at h
  refine wal_Open_spec (name := [121]) ⟨by decide, by decide⟩ ⟨by decide, by decide⟩ hD h (fun _ ly w hD h => ?_) (fun he => absurd (by rw [eY]) he)
  rw [eY] at hD h
  simp only at hD h
  have hB0 : BI [120] [121] EY WX [] 0 false WY [] 0 false := ⟨hD, hFY, ⟨hX.log.other fun i hi => hOY _ fun j hj => by rw [hX.name]; exact apXY.ab i j hi hj, hX.name, hX.size, hX.small, hX.fresh⟩, hY, by rw [hOY _ fun j hj => apYX.o1 j hj, hOX _ fun j hj => apXY.o1 j hj]; rfl, by rw [hAY, hAX]; rfl, by
      have : usedL dO.files = 4 := rfl
      simp only [List.length_nil]; omega, by
      have : dO.files.length = 1 := rfl
      have : cntL [] false = 0 := rfl
      omega⟩
  refine r_ite_f rfl ?_
  unfold law04_WalBeside.s2
  refine r_ite_f rfl ?_
  replace h := P1 h
  replace h := P1 h
  replace h := P2 h
  try simp only [N1, N2, N3, N4, N5, N6, N7] at h
  refine LoopK.of (fun t w => ∃ (i : Nat) (D : DiskD) (W1 : WalD) (p1 : List (List UInt8)) (lk1 : Nat) (t1 : Bool) (W2 : WalD) (p2 : List (List UInt8)) (lk2 : Nat) (t2 : Bool), t = (i : Int) ∧ i ≤ 20 ∧ p1.length ≤ i ∧ p2.length ≤ i ∧ BI [120] [121] D W1 p1 lk1 t1 W2 p2 lk2 t2 ∧
      Holds B (WalR lx d W1 :: WalR ly d W2 :: DiskR d D :: Γ) w) (fun t _ => ((20 : Int) - t).toNat) ⟨0, EY, WX, [], 0, false, WY, [], 0, false, rfl, by omega, by simp, by simp, hB0, h⟩ ?_
  clear h hB0 hX hY hD
  rintro t w ⟨i, D, W1, p1, lk1, t1, W2, p2, lk2, t2, rfl, hi, hp1, hp2, hB, h⟩
  unfold law04_WalBeside.b3
  -- one more round
  have s5 : ∀ (D : DiskD) (W1 : WalD) (p1 : List (List UInt8)) (lk1 : Nat) (t1 : Bool) (W2 : WalD) (p2 : List (List UInt8)) (lk2 : Nat) (t2 : Bool) w, i < 20 → p1.length ≤ i + 1 → p2.length ≤ i + 1 → BI [120] [121] D W1 p1 lk1 t1 W2 p2 lk2 t2 → Holds B (WalR lx d W1 :: WalR ly d W2 :: DiskR d D :: Γ) w →
      law04_WalBeside.s5 k (fun t w' => (∃ (i : Nat) (D : DiskD) (W1 : WalD) (p1 : List (List UInt8)) (lk1 : Nat) (t1 : Bool) (W2 : WalD) (p2 : List (List UInt8)) (lk2 : Nat) (t2 : Bool), t = (i : Int) ∧ i ≤ 20 ∧ p1.length ≤ i ∧ p2.length ≤ i ∧ BI [120] [121] D W1 p1 lk1 t1 W2 p2 lk2 t2 ∧
      Holds B (WalR lx d W1 :: WalR ly d W2 :: DiskR d D :: Γ) w') ∧ ((20 : Int) - t).toNat < ((20 : Int) - (i : Int)).toNat) a b (some ⟨d, 0, none⟩) (some ⟨lx, 0, none⟩) (some ⟨ly, 0, none⟩) (i : Int) false w := by
    clear h hB hp1 hp2
    intro D W1 p1 lk1 t1 W2 p2 lk2 t2 w hi2 hp1 hp2 hB h
    unfold law04_WalBeside.s5
    refine r_ite_f rfl ?_
    refine r_add64 (by omega) (by omega) ?_
    exact ⟨⟨i + 1, D, W1, p1, lk1, t1, W2, p2, lk2, t2, by omega, by omega, hp1, hp2, hB, h⟩, by omega⟩
  generalize hX3 : (fun (t : Int) w' => (∃ (i : Nat) (D : DiskD) (W1 : WalD) (p1 : List (List UInt8)) (lk1 : Nat) (t1 : Bool) (W2 : WalD) (p2 : List (List UInt8)) (lk2 : Nat) (t2 : Bool), t = (i : Int) ∧ i ≤ 20 ∧ p1.length ≤ i ∧ p2.length ≤ i ∧ BI [120] [121] D W1 p1 lk1 t1 W2 p2 lk2 t2 ∧
      Holds B (WalR lx d W1 :: WalR ly d W2 :: DiskR d D :: Γ) w') ∧ ((20 : Int) - t).toNat < ((20 : Int) - (i : Int)).toNat) = X3 at s5 ⊢
  clear hX3
  have yy : ∀ (D : DiskD) (W1 : WalD) (p1 : List (List UInt8)) (lk1 : Nat) (t1 : Bool) w, i < 20 → p1.length ≤ i + 1 → BI [120] [121] D W1 p1 lk1 t1 W2 p2 lk2 t2 → Holds B (WalR lx d W1 :: WalR ly d W2 :: DiskR d D :: Γ) w →
      Ite (decide ((i : Int) < (b.n : Int)))
        (Idx b (i : Int) 1 fun t98 =>
        Ld t98 Sl.val fun t99 =>
        Ite (decide ((t99.n : Int) ≤ 1000))
          (Idx b (i : Int) 1 fun t107 =>
          Ld t107 Sl.val fun t108 =>
          wal_Log_Append.call (some ⟨ly, 0, none⟩) t108 fun t109 =>
          law04_WalBeside.s5 k X3 a b (some ⟨d, 0, none⟩) (some ⟨lx, 0, none⟩) (some ⟨ly, 0, none⟩) (i : Int) (decide (t109 ≠ 0)))
          (law04_WalBeside.s5 k X3 a b (some ⟨d, 0, none⟩) (some ⟨lx, 0, none⟩) (some ⟨ly, 0, none⟩) (i : Int) false))
        (law04_WalBeside.s5 k X3 a b (some ⟨d, 0, none⟩) (some ⟨lx, 0, none⟩) (some ⟨ly, 0, none⟩) (i : Int) false) w := by
    clear h hB hp1
    intro D W1 p1 lk1 t1 w hi2 hp1 hB h
    refine r_ite (fun hlt => ?_) (fun _ => s5 _ _ _ _ _ _ _ _ _ _ hi2 hp1 (by omega) hB h)
    simp only [decide_eq_true_eq] at hlt
    have hx : LY[i]? = some LY[i] := List.getElem?_eq_getElem (by omega)
    generalize LY[i] = x at hx
    have hxb := hYb x (List.mem_of_getElem? hx)
    have hxn : x.2.length = x.1.n := by have := hxb.len; simpa using this
    have hrv : RdC w b 1 ((LY.map Prod.fst).map Sl.val) := by
      have h9 : RdC w b 1 (LY.map recV) := hYr.old h
      rw [List.map_map]; exact h9
    refine r_idx1 (c := Sl.val) hrv (x := x.1) (by rw [List.getElem?_map, hx]; rfl) ?_
    refine r_ite (fun hle => ?_) (fun _ => s5 _ _ _ _ _ _ _ _ _ _ hi2 hp1 (by omega) hB h)
    simp only [decide_eq_true_eq] at hle
    refine r_idx1 (c := Sl.val) hrv (x := x.1) (by rw [List.getElem?_map, hx]; rfl) ?_
    obtain ⟨D', W', eA, hB'⟩ := bi_app apYX hB.symm (r := x.2) (by omega) (by omega) (by omega)
    replace h := P2 h
    replace h := P2 h
    try simp only [N1, N2, N3, N4, N5, N6, N7] at h
    refine wal_Append_spec (r := x.2) hB.ok (hB.l2.okW (by omega)) (by omega) (fun w h => hxb.old h) h fun w hD h => ?_
    rw [eA] at hD h ⊢
    simp only at hD h ⊢
    replace h := P1 h
    replace h := P1 h
    replace h := P2 h
    try simp only [N1, N2, N3, N4, N5, N6, N7] at h
    exact s5 _ _ _ _ _ _ _ _ _ _ hi2 hp1 (by simp; omega) (hB' hD).symm h
  have go : i < 20 → law04_WalBeside.s4 k X3 a b (some ⟨d, 0, none⟩) (some ⟨lx, 0, none⟩) (some ⟨ly, 0, none⟩) (i : Int) true w := fun hi2 => by
    unfold law04_WalBeside.s4
    refine r_ite_t rfl ?_
    refine r_ite (fun hlt => ?_) (fun _ => yy _ _ _ _ _ _ hi2 (by omega) hB h)
    simp only [decide_eq_true_eq] at hlt
    have hx : LX[i]? = some LX[i] := List.getElem?_eq_getElem (by omega)
    generalize LX[i] = x at hx
    have hxb := hXb x (List.mem_of_getElem? hx)
    have hxn : x.2.length = x.1.n := by have := hxb.len; simpa using this
    have hrv : RdC w a 1 ((LX.map Prod.fst).map Sl.val) := by
      have h9 : RdC w a 1 (LX.map recV) := hXr.old h
      rw [List.map_map]; exact h9
    refine r_idx1 (c := Sl.val) hrv (x := x.1) (by rw [List.getElem?_map, hx]; rfl) ?_
    refine r_ite (fun hle => ?_) (fun _ => yy _ _ _ _ _ _ hi2 (by omega) hB h)
    simp only [decide_eq_true_eq] at hle
    refine r_idx1 (c := Sl.val) hrv (x := x.1) (by rw [List.getElem?_map, hx]; rfl) ?_
    obtain ⟨D', W', eA, hB'⟩ := bi_app apXY hB (r := x.2) (by omega) (by omega) (by omega)
    replace h := P1 h
    replace h := P2 h
    replace h := P2 h
    try simp only [N1, N2, N3, N4, N5, N6, N7] at h
    refine wal_Append_spec (r := x.2) hB.ok (hB.l1.okW (by omega)) (by omega) (fun w h => hxb.old h) h fun w hD h => ?_
    rw [eA] at hD h ⊢
    simp only at hD h ⊢
    refine r_ite_f rfl ?_
    replace h := P1 h
    replace h := P2 h
    replace h := P2 h
    try simp only [N1, N2, N3, N4, N5, N6, N7] at h
    exact yy _ _ _ _ _ _ hi2 (by simp; omega) (hB' hD) h
  refine r_ite (fun hlt => go (by simp only [decide_eq_true_eq] at hlt; omega)) (fun hge => ?_)
  simp only [decide_eq_false_iff_not] at hge
  by_cases hlb : (i : Int) < (b.n : Int)
  · rw [decide_eq_true hlb]
    exact go (by omega)
  rw [decide_eq_false hlb]
  unfold law04_WalBeside.s4
  refine r_ite_f rfl ?_
  obtain ⟨Da, Wa, ea, ha⟩ := bi_sync apXY hB
  replace h := P1 h
  replace h := P2 h
  replace h := P2 h
  try simp only [N1, N2, N3, N4, N5, N6, N7] at h
  refine wal_Sync_spec hB.ok (hB.l1.okW (by omega)) h fun w hD h => ?_
  rw [ea] at hD h
  simp only at hD h
  have hBa := ha hD
  obtain ⟨Dc, Wc, ec, hc⟩ := bi_sync apYX hBa.symm
  replace h := P1 h
  replace h := P2 h
  try simp only [N1, N2, N3, N4, N5, N6, N7] at h
  refine wal_Sync_spec hBa.ok (hBa.l2.okW (by omega)) h fun w hD h => ?_
  rw [ec] at hD h
  simp only at hD h
  have hBc := hc hD
  replace h := P2 h
  replace h := P1 h
  replace h := P2 h
  try simp only [N1, N2, N3, N4, N5, N6, N7] at h
  refine crash_spec (ks := []) hD h (fun w h => RdC.none') fun o w h => ?_
  refine r_ite_f rfl ?_
  obtain ⟨mx, mx1, _, hTx⟩ := crash_toOpen hD hBc.l2.log []
  obtain ⟨my, my1, _, hTy⟩ := crash_toOpen hD hBc.l1.log []
  rw [hBc.l2.name] at hTx
  rw [hBc.l1.name] at hTy
  obtain ⟨E1, Wp, e5, hP, hF1, hO1, _⟩ := one_open (nm := [120]) ⟨by decide, by decide⟩ (free_crash (D := Dc) (ks := [])) hTx mx1 hBc.l2.small
  refine wal_Open_spec (name := [120]) ⟨by decide, by decide⟩ ⟨by decide, by decide⟩ (hD.crash []) h (fun _ lp w hE h => ?_) (fun he => absurd (by rw [e5]) he)
  rw [e5] at hE h
  simp only at hE h
  obtain ⟨E2, Wq, e6, hQ, hF2, hO2, _⟩ := one_open (nm := [121]) ⟨by decide, by decide⟩ hF1 (hTy.other fun i hi => hO1 _ fun j hj => (apXY.ab j i hj hi).symm) my1 hBc.l1.small
  replace h := P4 h
  replace h := P4 h
  replace h := P4 h
  replace h := P3 h
  replace h := P4 h
  try simp only [N1, N2, N3, N4, N5, N6, N7] at h
  refine wal_Open_spec (name := [121]) ⟨by decide, by decide⟩ ⟨by decide, by decide⟩ hE h (fun _ lq w hE2 h => ?_) (fun he => absurd (by rw [e6]) he)
  rw [e6] at hE2 h
  simp only at hE2 h
  have hoth : mget OTHER E2.files = some ⟨FILE, 4⟩ := by
    rw [hO2 _ fun j hj => apYX.o1 j hj, hO1 _ fun j hj => apXY.o1 j hj]
    obtain ⟨j, hj⟩ := mget_crash hD [] hBc.oth
    rw [hj, crashF_same [] j rfl]
  have hrd : E2.read OTHER = (FILE, 0) := by rw [read_free hF2, hoth]
  replace h := P5 h
  replace h := P5 h
  replace h := P5 h
  replace h := P5 h
  replace h := P4 h
  replace h := P5 h
  try simp only [N1, N2, N3, N4, N5, N6, N7] at h
  refine read_spec (n := OTHER) hE2 h fun sr w h => ?_
  rw [hrd] at h ⊢
  refine r_ite_t rfl (r_ite_t rfl ?_)
  replace h := P5 h
  replace h := P3 h
  replace h := P2 h
  replace h := P6 h
  replace h := P5 h
  replace h := D5 h
  replace h := D5 h
  try simp only [N1, N2, N3, N4, N5, N6, N7] at h
  refine two_recs (hP.okW (by omega)) (hBc.l2.okW (by omega)) hP.recs hBc.l2.recs hBc.l2.small (by omega) h fun w h => ?_
  refine r_ite_t rfl ?_
  replace h := P2 h
  replace h := P4 h
  replace h := P4 h
  replace h := D3 h
  replace h := D3 h
  try simp only [N1, N2, N3, N4, N5, N6, N7] at h
  refine two_recs (hQ.okW (by omega)) (hBc.l1.okW (by omega)) hQ.recs hBc.l1.recs hBc.l1.small (by omega) h fun w h => ?_
  refine r_ite_t rfl ?_
  refine r_str (by kernel_rfl) (Bytes.rd (s := sr) (xs := FILE) h (List.mem_cons_of_mem _ (List.mem_cons_of_mem _ List.mem_cons_self))) ?_
  refine r_ite_t (by simp) ?_
  unfold law04_WalBeside.s6
  exact hk _ h.tail.tail.tail
end
end Go.Proofs.Ytdpepgjbambinaa

namespace Go.Proofs.Ytdpepgjbambinaa
open Go Go.Sep Go.RowKit
theorem rd_bssB {w : World} {s : Sl} (y : Rdy w Sh_ty_s_s_uint8 (Sl.val s).cells.toList) : ∃ L : RecL, RdC w s 1 (L.map recV) ∧ ∀ x ∈ L, RdB w x.1 x.2 := by
  obtain ⟨h1, h2⟩ := rdy_sl y
  obtain ⟨L, _, hL, hd⟩ := rd_list (fun x : Sl × List UInt8 => [x.1.val]) (fun x => RdB w x.1 x.2) (fun _ => rfl) h1 h2 fun cs hc hr => by
    obtain ⟨s, e, _, _, g1, g2⟩ := hr
    subst e
    obtain ⟨xs, _, h3⟩ := rd_bytes g1 g2
    exact ⟨(s, xs), rfl, h3⟩
  rw [flat1] at hL
  exact ⟨L, hL, hd⟩
theorem WalBeside_walk (W : World) (s : Sl) (y0 : Rdy W Sh_ty_s_s_uint8 (Sl.val s).cells.toList) (d : Sl) (y1 : Rdy W Sh_ty_s_s_uint8 (Sl.val d).cells.toList) :
    Calls Try.prog 6 #[s.val, d.val] W (Ret fun v w' => v = .bool true ∧ Below W.heap.size W w') := by
  obtain ⟨L, h1, h2⟩ := rd_bssB y0
  obtain ⟨M, h3, h4⟩ := rd_bssB y1
  exact law_call (law04_WalBeside_spec h1 h2 h3 h4 (Holds.start W) fun w h => ⟨rfl, h⟩)
end Go.Proofs.Ytdpepgjbambinaa
