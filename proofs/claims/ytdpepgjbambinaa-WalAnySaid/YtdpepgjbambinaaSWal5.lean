/- The log: Open, lists of records, the example. -/
import Derived.Test.YtdpepgjbambinaaSWal4
import Derived.Test.YtdpepgjbambinaaSWalN
import Derived.Test.YtdpepgjbambinaaIRRef04
import Derived.Test.YtdpepgjbambinaaIRLaw04
--! use SWal
namespace Go.Proofs.Ytdpepgjbambinaa
open Go Go.Sep
set_option linter.unusedSimpArgs false
set_option linter.unusedVariables false
set_option maxRecDepth 100000
section
variable {B w : World} {Γ : List HProp} {l d : Nat} {W : WalD} {s : Sl} {rs : RecL} {D : DiskD}
theorem wal_Open_spec {name : List UInt8} {size : Int} {k : Option Addr → Int → K} (hn : 1 ≤ name.length ∧ name.length ≤ 8) (hsz : 16 ≤ size ∧ size ≤ 65536) (hD : OkD D) (h : Holds B (DiskR d D :: Γ) w)
    (hok : ((newW name size).load D).2.2 = 0 → ∀ l w, OkD ((newW name size).load D).1 → Holds B (WalR l d ((newW name size).load D).2.1 :: DiskR d ((newW name size).load D).1 :: Γ) w → k (some ⟨l, 0, none⟩) 0 w)
    (herr : ((newW name size).load D).2.2 ≠ 0 → ∀ w, OkD ((newW name size).load D).1 → Holds B (DiskR d ((newW name size).load D).1 :: Γ) w → k none ((newW name size).load D).2.2 w) : wal_Open.call (some ⟨d, 0, none⟩) (bs name) size k w := by
  refine wal_Open_ok _ _ _ _ _ ?_
  unfold wal_Open
  have hsz' : ((bs name).size : Int) = name.length := by simp [bs, ByteArray.size]
  refine r_ite_f ?_ ?_
  · rw [str_toList]
    have e0 : (⟨#[]⟩ : ByteArray).toList = [] := str_toList []
    rw [e0]
    have : name ≠ [] := fun e => by rw [e] at hn; simp at hn
    simpa using this
  refine r_ite_f (by simp only [decide_eq_false_iff_not]; omega) ?_
  refine r_ite_f (by simp only [decide_eq_false_iff_not]; omega) ?_
  unfold wal_Open.s1
  refine r_ite_f (by simp only [decide_eq_false_iff_not]; omega) ?_
  refine r_new h ?_
  clear h
  intro l w h
  try simp only [add_mk, Nat.zero_add, Nat.reduceAdd]
  replace h := (h.starsNil).nilSl ty_s_uint8 1
  replace h := P3 h
  replace h := P2 h
  replace h := P2 h
  replace h := P3 h
  try simp only [N1, N2, N3, N4, N5, N6, N7] at h
  have h2 := WalR.shuts (W := newW name size) (rs := []) rfl h
  refine wal_load_spec hD hn.2 rfl h2 fun w hD' h => ?_
  refine r_ite (fun hq => ?_) (fun hq => ?_)
  · exact herr (by simpa using hq) w hD' h.tail
  · exact hok (by simpa using hq) l w hD' h

theorem ref04_Same_spec {a b : Sl} {L1 L2 : RecL} {k : Bool → K} (hl : L1.length ≤ 100000000) (he : L1.map Prod.snd = L2.map Prod.snd) (h : Holds B Γ w) (ha : ∀ w, Holds B Γ w → RdC w a 1 (L1.map recV) ∧ ∀ p ∈ L1, RdB w p.1 p.2) (hb : ∀ w, Holds B Γ w → RdC w b 1 (L2.map recV) ∧ ∀ p ∈ L2, RdB w p.1 p.2)
    (hk : ∀ w, Holds B Γ w → k true w) : ref04_Same.call a b k w := by
  have han : L1.length = a.n := by have := (ha w h).1.len; simpa using this
  have hbn : L2.length = b.n := by have := (hb w h).1.len; simpa using this
  have hll : L1.length = L2.length := by have := congrArg List.length he; simpa using this
  refine ref04_Same_ok _ _ _ _ ?_
  unfold ref04_Same
  refine r_ite_f (by simp only [decide_eq_false_iff_not, Decidable.not_not]; omega) ?_
  refine LoopK.of (fun t w => ∃ j : Nat, t = (j : Int) ∧ j ≤ L1.length ∧ Holds B Γ w) (fun t _ => ((a.n : Int) - t).toNat) ⟨0, rfl, by omega, h⟩ ?_
  clear h
  rintro t w ⟨j, rfl, hj, h⟩
  unfold ref04_Same.b1
  refine r_ite (fun hlt => ?_) (fun hge => hk w h)
  simp only [decide_eq_true_eq] at hlt
  refine r_dr h ?_
  clear h
  intro w h
  have hx : L1[j]? = some L1[j] := List.getElem?_eq_getElem (by omega)
  have hy : L2[j]? = some L2[j] := List.getElem?_eq_getElem (by omega)
  generalize L1[j] = x at hx
  generalize L2[j] = y at hy
  have hxy : x.2 = y.2 := by
    have := congrArg (·[j]?) he
    simpa [List.getElem?_map, hx, hy] using this
  obtain ⟨ha1, ha2⟩ := ha w h
  obtain ⟨hb1, hb2⟩ := hb w h
  have hra : RdC w a 1 ((L1.map Prod.fst).map Sl.val) := by rw [List.map_map]; exact ha1
  have hrb : RdC w b 1 ((L2.map Prod.fst).map Sl.val) := by rw [List.map_map]; exact hb1
  refine r_idx1 (c := Sl.val) hra (x := x.1) (by rw [List.getElem?_map, hx]; rfl) ?_
  refine r_str (by kernel_rfl) (ha2 x (List.mem_of_getElem? hx)) ?_
  refine r_idx1 (c := Sl.val) hrb (x := y.1) (by rw [List.getElem?_map, hy]; rfl) ?_
  refine r_str (by kernel_rfl) (hb2 y (List.mem_of_getElem? hy)) ?_
  simp only [str_toList]
  refine r_ite_f (by rw [hxy]; simp) ?_
  refine r_add64 (by omega) (by omega) ?_
  exact ⟨⟨j + 1, by omega, by omega, h⟩, by omega⟩
theorem RecR.opens {recs : List (List UInt8)} (h : Holds B (RecR s recs :: Γ) w) : ∃ rs : RecL, rs.map Prod.snd = recs ∧ Holds B (SlC ty_s_uint8 1 s (rs.map recV) :: stars (rs.map recB) :: Γ) w := by
  obtain ⟨rs, h⟩ := Holds.ex.1 h
  obtain ⟨h1, h2⟩ := Holds.pur.1 (Holds.flat.1 h)
  exact ⟨rs, h1, h2⟩
/-- Records that one has just got are those of another list. -/
theorem same_recs {a b : Sl} {L2 : RecL} {recs : List (List UInt8)} {k : Bool → K} (hl : recs.length ≤ 100000000) (he : recs = L2.map Prod.snd) (h : Holds B (RecR a recs :: Γ) w) (hb : ∀ w, Holds B Γ w → RdC w b 1 (L2.map recV) ∧ ∀ p ∈ L2, RdB w p.1 p.2)
    (hk : ∀ w, Holds B Γ w → k true w) : ref04_Same.call a b k w := by
  obtain ⟨rs, h1, h⟩ := RecR.opens h
  have hrl : rs.length = recs.length := by rw [← h1]; simp
  refine ref04_Same_spec (L1 := rs) (L2 := L2) (by omega) (by rw [h1, he]) h (fun w h => ⟨h.rdC (E := ty_s_uint8) List.mem_cons_self, fun p hp => stars_rd (f := recB) 1 h at1 hp rfl⟩) (fun w h => hb w h.tail.tail) fun w h => hk w h.tail.tail
theorem new_ok4 {room : Int} (h1 : 1 ≤ room) (h2 : room ≤ 1048576) : OkD (.new room) := ⟨h1, h2, by show ((0 : Nat) : Int) ≤ room; omega, by simp [DiskD.new], ⟨show (-9223372036854775808 : Int) < -1 by decide, show (-1 : Int) ≤ 9223372036854775807 by decide⟩, by simp [DiskD.new], by simp [DiskD.new]⟩
theorem LogI.okW {q : List (List (List UInt8))} {p : List (List UInt8)} {lk : Nat} {there : Bool} (hI : LogI W D q p lk there) (hu : W.used ≤ 10000000) (hf : W.recs.length ≤ 10000000) : OkW W :=
  ⟨hI.name, hI.size, by have := hI.part; have := hI.qlen; omega, hu, hf⟩
def one : List UInt8 := [111, 110, 101]
def two : List UInt8 := [116, 119, 111]
theorem keep3 (j : Nat) : keepOf [3] j ⟨catF [one, two], (catF [one]).length⟩ ≤ 3 := by
  unfold keepOf
  match j with
  | 0 => exact Nat.le_of_eq rfl
  | j + 1 => exact Nat.zero_le _
theorem law04_speaks_spec {k : Bool → K} (h : Holds B Γ w) (hk : ∀ w, Holds B Γ w → k true w) : law04_speaks.call k w := by
  refine law04_speaks_ok _ _ ?_
  unfold law04_speaks
  refine new_spec h (fun hb => by omega) fun d w _ _ h => ?_
  refine r_ite_f rfl ?_
  obtain ⟨DA, W0, k0, e0, a1, a2, a3, hI0, hn0, hs0, hd0, ha0, hl0, hu0, _⟩ := open_log (name := [119]) (size := 100) ⟨by decide, by decide⟩ ⟨by decide, by decide⟩ (free_new (room := 1000)) toOpen_new
  have hF0 : Free DA := ⟨by rw [ha0]; rfl, by rw [ha0]; rfl⟩
  have hu0' : usedL DA.files = 0 := Nat.le_zero.1 hu0
  have hl0' : DA.files.length = 0 := hl0
  have hR0 : DA.a.room = 1000 := by rw [ha0]; rfl
  refine wal_Open_spec (name := [119]) ⟨by decide, by decide⟩ ⟨by decide, by decide⟩ (new_ok4 (by decide) (by decide)) h (fun _ l w hD h => ?_) (fun he => absurd (by rw [e0]) he)
  rw [e0] at hD h
  simp only at hD h
  simp only [List.take_nil] at hI0
  have hW0 : OkW W0 := hI0.okW (by rw [hI0.used]; simp [catF_nil]) (by rw [hI0.recs]; simp)
  refine r_ite_f rfl ?_
  unfold law04_speaks.s1
  refine r_ite_f rfl ?_
  refine r_new h ?_
  clear h
  intro t26 w h
  try simp only [add_mk, Nat.zero_add, Nat.reduceAdd]
  refine r_mark (by kernel_rfl) h rfl fun w h => ?_
  replace h := P2 h
  replace h := P2 h
  try simp only [N1, N2, N3, N4, N5, N6, N7] at h
  -- one
  obtain ⟨DB, W1, e1, hI1, hn1, hs1, hr1, hB1, hL1, hc1⟩ := logI_put hI0 hF0 (r := one) (by decide) (by omega) (by rw [hu0', hR0]; decide)
  have hA1 : W0.app DA one = (DB, W1, 0) := by
    unfold WalD.app
    rw [if_neg (by rw [hI0.used, catF_nil]; simp), e1]
  refine wal_Append_spec (r := one) hD hW0 (by decide) (fun w h => h.rdC (E := 5) List.mem_cons_self) h fun w hD h => ?_
  rw [hA1] at hD h
  simp only at hD h
  have hF1 : Free DB := ⟨by rw [hB1.a]; exact hF0.left, by rw [hB1.a]; exact hF0.down⟩
  have hW1 : OkW W1 := hI1.okW (by rw [hI1.used]; decide) (by rw [hI1.recs]; decide)
  -- Sync
  obtain ⟨DC, W2, e2, hI2, hd2, hn2, hs2, hr2, hp2, hus2, ha2, hU2, hL2, _⟩ := logI_sync hI1 hF1 (.inl rfl)
  refine wal_Sync_spec hD hW1 h fun w hD h => ?_
  rw [e2] at hD h
  simp only at hD h
  have hF2 : Free DC := ⟨by rw [ha2]; exact hF1.left, by rw [ha2]; exact hF1.down⟩
  have hW2 : OkW W2 := hI2.okW (by rw [hI2.used]; decide) (by rw [hI2.recs]; decide)
  have hb1 := hB1.used
  have hb2 := hB1.few
  have hb3 : one.length = 3 := rfl
  -- two
  refine r_new h ?_
  clear h
  intro t32 w h
  try simp only [add_mk, Nat.zero_add, Nat.reduceAdd]
  refine r_mark (by kernel_rfl) h rfl fun w h => ?_
  replace h := P2 h
  replace h := P2 h
  replace h := D3 h
  try simp only [N1, N2, N3, N4, N5, N6, N7] at h
  obtain ⟨DE, W3, e3, hI3, hn3, hs3, hr3, hB3, _, _⟩ := logI_put hI2 hF2 (r := two) (by decide) (by omega) (by rw [hU2, ha2, hB1.a, hR0, show two.length = 3 from rfl]; omega)
  have hA3 : W2.app DC two = (DE, W3, 0) := by
    unfold WalD.app
    rw [if_neg (by
      rintro ⟨_, h9⟩
      rw [hI2.used, hs2, hs1, hs0] at h9
      exact absurd h9 (by decide)), e3]
  refine wal_Append_spec (r := two) hD hW2 (by decide) (fun w h => h.rdC (E := 5) List.mem_cons_self) h fun w hD h => ?_
  rw [hA3] at hD h
  simp only at hD h
  -- the crash
  refine r_new h ?_
  clear h
  intro t36 w h
  try simp only [add_mk, Nat.zero_add, Nat.reduceAdd]
  have hkr : RdC w (Sl.mk (some ⟨t36, 0, none⟩) 1 1) 1 (([3] : List Int).map (Value.int .i64)) := RdC.of_blk (n := 1) (esz := 1) h List.mem_cons_self rfl rfl 1
  replace h := P2 h
  replace h := D2 h
  replace h := D2 h
  try simp only [N1, N2, N3, N4, N5, N6, N7] at h
  refine crash_spec (ks := [3]) hD h (fun w h => RdC.of_blk (n := 1) (esz := 1) h List.mem_cons_self rfl rfl 1) fun o w h => ?_
  refine r_ite_f rfl ?_
  obtain ⟨m, m1, m2, hT⟩ := crash_toOpen hD hI3 [3]
  have hname : W3.name = [119] := by rw [hn3, hn2, hn1, hn0]
  rw [hname] at hT
  obtain ⟨DG, W4, k4, e4, g1, g2, g3, hI4, hn4, hs4, hd4, ha4, hl4, hu4, _⟩ := open_log (name := [119]) (size := 100) ⟨by decide, by decide⟩ ⟨by decide, by decide⟩ (free_crash (D := DE) (ks := [3])) hT
  replace h := D1 h
  replace h := D1 h
  try simp only [N1, N2, N3, N4, N5, N6, N7] at h
  refine wal_Open_spec (name := [119]) ⟨by decide, by decide⟩ ⟨by decide, by decide⟩ (hD.crash [3]) h (fun _ l2 w hD h => ?_) (fun he => absurd (by rw [e4]) he)
  rw [e4] at hD h
  simp only at hD h
  refine r_ite_t rfl ?_
  refine r_ite_t rfl ?_
  have hrec : W4.recs = [one] := by
    have hk4 : k4 = 1 := by
      have hm3 : m ≤ (catF [one]).length + 3 := by
        rcases m2 with m2 | ⟨j, m2⟩
        · rw [m2]; exact Nat.le_add_right _ _
        · rw [m2]; exact Nat.add_le_add_left (keep3 j) _
      have hlt : k4 < 2 := by
        by_cases hlt : k4 < 2
        · exact hlt
        · have h2 : k4 = 2 := by have : k4 ≤ 2 := g1; omega
          subst h2
          have : (catF [one, two]).length ≤ m := g2
          have e9 : (catF [one, two]).length = 18 := rfl
          have e8 : (catF [one]).length = 9 := rfl
          omega
      have hgt : 0 < k4 := by
        by_cases hgt : 0 < k4
        · exact hgt
        · have h2 : k4 = 0 := by omega
          subst h2
          have := g3 (by decide)
          have e8 : (catF [one]).length ≤ m := m1
          have e9 : m < (catF [one]).length := this
          omega
      omega
    rw [hI4.recs, hk4]
    rfl
  have hW4 : OkW W4 := hI4.okW (by rw [hI4.used]; have := catF_take_le ([] ++ [one] ++ [two]) k4; have e9 : (catF ([] ++ [one] ++ [two])).length = 18 := rfl; omega) (by rw [hrec]; decide)
  refine wal_Records_spec hW4 (by rw [hrec]; intro r hr; simp only [List.mem_singleton] at hr; subst hr; decide) h fun s w h => ?_
  refine r_new h ?_
  clear h
  intro t54 w h
  try simp only [add_mk, Nat.zero_add, Nat.reduceAdd]
  refine r_mark (by kernel_rfl) h rfl fun w h => ?_
  refine r_new h ?_
  clear h
  intro t56 w h
  try simp only [add_mk, Nat.zero_add, Nat.reduceAdd]
  replace h := P1 h
  replace h := P1 h
  replace h := P2 h
  replace h := D3 h
  try simp only [N1, N2, N3, N4, N5, N6, N7] at h
  refine same_recs (L2 := [(Sl.mk (some ⟨t54, 0, none⟩) 3 3, one)]) (by rw [hrec]; decide) (by rw [hrec]; rfl) h (fun w h => ⟨RdC.of_blk (n := 1) (esz := 1) h List.mem_cons_self rfl rfl 1, fun p hp => ?_⟩) fun w h => ?_
  · simp only [List.mem_singleton] at hp
    subst hp
    exact h.rdC (E := 5) (List.mem_cons_of_mem _ List.mem_cons_self)
  unfold law04_speaks.s2
  exact hk _ h.tail.tail.tail
end
end Go.Proofs.Ytdpepgjbambinaa
