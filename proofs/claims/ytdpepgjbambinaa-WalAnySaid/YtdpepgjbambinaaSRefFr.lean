/- The document's frames. -/
import Derived.Test.YtdpepgjbambinaaSUnf
import Derived.Test.YtdpepgjbambinaaSRefSum
namespace Go.Proofs.Ytdpepgjbambinaa
open Go Go.Sep
set_option linter.unusedSimpArgs false
set_option linter.unusedVariables false
set_option maxRecDepth 100000

theorem u8_mod (n : Nat) : u8 (n % 256) = u8 n := by
  apply UInt8.toNat_inj.1
  rw [u8N, u8N]; omega
theorem u8_toNat (b : UInt8) : u8 b.toNat = b := by
  apply UInt8.toNat_inj.1
  rw [u8N]; have := b.toNat_lt; omega
def seal4 (b : List UInt8) : List UInt8 := [u8 (sealL b).toNat, u8 ((sealL b >>> 8).toNat), u8 ((sealL b >>> 16).toNat), u8 ((sealL b >>> 24).toNat)]
theorem seal4_at (b : List UInt8) : ∀ k, k < 4 → (seal4 b)[k]? = some (u8 ((sealL b >>> (8 * k)).toNat))
  | 0, _ => by simp [seal4]
  | 1, _ => rfl
  | 2, _ => rfl
  | 3, _ => rfl

section
variable {B w : World} {Γ : List HProp}
theorem tdivN (n d : Nat) : Int.tdiv (n : Int) (d : Int) = ((n / d : Nat) : Int) := rfl
theorem tmodN (n d : Nat) : Int.tmod (n : Int) (d : Int) = ((n % d : Nat) : Int) := rfl
theorem ref01_Frame_spec {s : Sl} {b : List UInt8} {k : Sl → Int → K} (hl : b.length ≤ 4096) (h : Holds B Γ w) (hr : ∀ w, Holds B Γ w → RdB w s b) (hk : ∀ f w, Holds B (Bytes ty_uint8 f (frameL b) :: Γ) w → k f 0 w) : ref01_Frame.call s k w := by
  have hn : b.length = s.n := by have := (hr w h).len; simpa using this
  refine ref01_Frame_ok _ _ _ ?_
  unfold ref01_Frame
  refine r_ite_f (by simp only [decide_eq_false_iff_not]; omega) ?_
  refine r_cd (by decide) ?_
  rw [← hn]
  refine r_ar (e' := ((b.length / 256 : Nat) : Int)) (by rw [show (256 : Int) = ((256 : Nat) : Int) from rfl, tdivN]; exact wrap64 (by omega) (by omega)) ?_
  refine r_ar (wrapB _) ?_
  refine r_cd (by decide) ?_
  refine r_ar (e' := ((b.length % 256 : Nat) : Int)) (by rw [show (256 : Int) = ((256 : Nat) : Int) from rfl, tmodN]) ?_
  refine r_ar (wrapB _) ?_
  rw [u8_mod]
  refine r_new h ?_
  clear h
  intro t19 w h
  try simp only [add_mk, Nat.zero_add, Nat.reduceAdd]
  replace h := bytes_new (xs := hd2 b.length) (n := 2) (by rfl) rfl h
  refine r_new h ?_
  clear h
  intro t20 w h
  try simp only [add_mk, Nat.zero_add, Nat.reduceAdd]
  replace h := bytes_new (xs := []) (n := 0) (by rfl) rfl h
  refine r_appB h (Bytes.rd (s := ⟨some ⟨t19, 0, none⟩, 2, 2⟩) (xs := hd2 b.length) h.tail List.mem_cons_self) (by simp [hd2]) fun t22 w h _ _ => ?_
  refine r_appB h (hr _ h.tail.tail) (by simp [hd2]; omega) fun t24 w h _ _ => ?_
  simp only [List.nil_append] at h
  refine ref01_Sum_spec (by simp [hd2]; omega) h (fun w h => Bytes.rd h List.mem_cons_self) fun w h => ?_
  replace h := h.tail
  show LoopK _ _ w
  refine LoopK.of (fun t w => ∃ j : Nat, t.2 = (j : Int) ∧ j ≤ 4 ∧ Holds B (Bytes ty_uint8 t.1 (hd2 b.length ++ (seal4 b).take j) :: Γ) w) (fun t _ => ((4 : Int) - t.2).toNat) ⟨0, rfl, by omega, by simpa using h⟩ ?_
  clear h
  rintro ⟨g, t⟩ w ⟨j, ht, hj, h⟩
  simp only at ht h
  subst ht
  dsimp only
  unfold ref01_Frame.b1
  refine r_ite (fun hb => ?_) (fun hb => ?_)
  · simp only [decide_eq_true_eq] at hb
    refine r_ar (e' := ((8 * j : Nat) : Int)) (by rw [wrap64 (by omega) (by omega)]; omega) ?_
    refine r_ar (wrapU64 (by omega) (by omega)) ?_
    refine r_cd (by omega) ?_
    refine r_ar (shr32 (sealL b) (8 * j) (by omega)) ?_
    refine r_ar (wrapB _) ?_
    refine r_new h ?_
    clear h
    intro t37 w h
    try simp only [add_mk, Nat.zero_add, Nat.reduceAdd]
    replace h := bytes_new (xs := [u8 ((sealL b >>> (8 * j)).toNat)]) (n := 1) (by rfl) rfl h
    have hsl : ((seal4 b).take j).length ≤ 4 := by simp; omega
    refine r_appB h.swap (Bytes.rd h List.mem_cons_self) (by simp [hd2]; omega) fun t38 w h _ _ => ?_
    refine r_add64 (by omega) (by omega) ?_
    refine ⟨⟨j + 1, by simp, by omega, ?_⟩, by omega⟩
    have e := (List.getElem?_eq_some_iff.1 (seal4_at b j (by omega))).2
    rw [List.take_succ_eq_append_getElem (by show j < 4; omega), e, ← List.append_assoc]
    exact h.del 1 at1
  · simp only [decide_eq_false_iff_not] at hb
    have : j = 4 := by omega
    subst this
    refine r_appB h (hr _ h.tail) (by simp [hd2, seal4]; omega) fun t41 w h _ _ => ?_
    exact hk _ _ h

theorem ref01_Unframe_spec {s : Sl} {d : List UInt8} {k : Sl → Int → Int → K} (hl : d.length ≤ 100000000) (h : Holds B Γ w) (hr : ∀ w, Holds B Γ w → RdB w s d) (hcap : s.n ≤ s.c)
    (hk : ∀ f w, Holds B (Bytes ty_uint8 f (unframeL d).1 :: Γ) w → k f ((unframeL d).2.1 : Int) ((unframeL d).2.2 : Int) w) : ref01_Unframe.call s k w := by
  have hn : d.length = s.n := by have := (hr w h).len; simpa using this
  have hempty : ∀ (w : World) (t : Nat), Holds B (blk t (.cells #[] ty_uint8 (0, 0)) :: Γ) w → Holds B (Bytes ty_uint8 ⟨some ⟨t, 0, none⟩, 0, 0⟩ [] :: Γ) w := fun w t h => bytes_new (xs := []) (n := 0) (by rfl) rfl h
  refine ref01_Unframe_ok _ _ _ ?_
  unfold ref01_Unframe
  unfold unframeL at hk
  refine r_ite (fun hb => ?_) (fun hb => ?_)
  · simp only [decide_eq_true_eq] at hb
    rw [if_pos (by omega)] at hk
    refine r_new h ?_
    clear h
    intro t11 w h
    try simp only [add_mk, Nat.zero_add, Nat.reduceAdd]
    exact hk _ _ (hempty _ _ h)
  simp only [decide_eq_false_iff_not] at hb
  rw [if_neg (by omega)] at hk
  have hsp := rd_spot (hr w h) (fun e => by rw [e] at hn; simp at hn; omega)
  refine r_dr h ?_
  clear h
  intro w h
  have h0 : d[0]? = some (d.getD 0 0) := by
    have : 0 < d.length := by omega
    simp [List.getD, List.getElem?_eq_getElem this]
  have h1 : d[1]? = some (d.getD 1 0) := by
    have : 1 < d.length := by omega
    simp [List.getD, List.getElem?_eq_getElem this]
  have hx := (d.getD 0 0).toNat_lt
  have hy := (d.getD 1 0).toNat_lt
  generalize d.getD 0 0 = x at h0 hx hk
  generalize d.getD 1 0 = y at h1 hy hk
  refine r_byte (j := 0) (hr w h) h0 ?_
  refine r_ar (wrap64 (by omega) (by omega)) ?_
  refine r_ar (wrap64 (by omega) (by omega)) ?_
  refine r_byte (j := 1) (hr w h) h1 ?_
  refine r_ar (wrap64 (by omega) (by omega)) ?_
  refine r_ar (e' := ((256 * x.toNat + y.toNat : Nat) : Int)) (by rw [wrap64 (by omega) (by omega)]; omega) ?_
  generalize 256 * x.toNat + y.toNat = n at hk
  simp only at hk
  refine r_ite (fun hb2 => ?_) (fun hb2 => ?_)
  · simp only [decide_eq_true_eq] at hb2
    rw [if_pos (by omega)] at hk
    refine r_new h ?_
    clear h
    intro t24 w h
    try simp only [add_mk, Nat.zero_add, Nat.reduceAdd]
    exact hk _ _ (hempty _ _ h)
  simp only [decide_eq_false_iff_not] at hb2
  rw [if_neg (by omega)] at hk
  refine r_ar (wrap64 (by omega) (by omega)) ?_
  refine r_ite (fun hb3 => ?_) (fun hb3 => ?_)
  · simp only [decide_eq_true_eq] at hb3
    rw [if_pos (by omega)] at hk
    refine r_new h ?_
    clear h
    intro t30 w h
    try simp only [add_mk, Nat.zero_add, Nat.reduceAdd]
    exact hk _ _ (hempty _ _ h)
  simp only [decide_eq_false_iff_not] at hb3
  rw [if_neg (by omega)] at hk
  refine r_ar (e' := ((6 + n : Nat) : Int)) (by rw [wrap64 (by omega) (by omega)]; omega) ?_
  refine ⟨_, by omega, by omega, by omega, by omega, rfl, ?_⟩
  simp only [Int.toNat_natCast, show (6 : Int).toNat = 6 from rfl]
  have hd6 : ∀ w, Holds B Γ w → RdB w ⟨cutA s.a 6 s.c 1, 6 + n - 6, s.c - 6⟩ ((d.drop 6).take n) := fun w h => by
    have h1 := (hr w h).drop (l := 6) (c := s.c) (by omega) hcap hsp
    have h2 := h1.take (m := n) (c := s.c - 6) (by simp only; omega)
    have e : 6 + n - 6 = n := by omega
    rw [e]
    show RdC w _ 1 (((d.drop 6).take n).map byteV)
    rw [List.map_take, List.map_drop]
    simpa using h2
  have hdl : ((d.drop 6).take n).length = n := by simp; omega
  refine ref01_Frame_spec (b := (d.drop 6).take n) (by omega) h hd6 fun f w h => ?_
  refine r_dr h ?_
  clear h
  intro w h
  refine r_str (by kernel_rfl) (Bytes.rd h List.mem_cons_self) ?_
  refine r_ar (e' := ((6 + n : Nat) : Int)) (by rw [wrap64 (by omega) (by omega)]; omega) ?_
  refine ⟨_, by omega, by omega, by omega, by omega, rfl, ?_⟩
  simp only [Int.toNat_natCast, show (0 : Int).toNat = 0 from rfl, cut0 hsp, Nat.sub_zero]
  have ht : RdB w ⟨s.a, 6 + n, s.c⟩ (d.take (6 + n)) := by
    have h1 := (hr w h.tail).take (m := 6 + n) (c := s.c) (by omega)
    show RdC w _ 1 ((d.take (6 + n)).map byteV)
    rw [List.map_take]
    simpa using h1
  refine r_str (by kernel_rfl) ht ?_
  rw [str_toList, str_toList]
  by_cases he : frameL ((d.drop 6).take n) = d.take (6 + n)
  · rw [if_pos he] at hk
    refine r_ite_f (by rw [he]; simp) ?_
    refine r_new h ?_
    clear h
    intro t48 w h
    try simp only [add_mk, Nat.zero_add, Nat.reduceAdd]
    replace h := bytes_new (xs := []) (n := 0) (by rfl) rfl h
    refine r_ar (e' := ((6 + n : Nat) : Int)) (by rw [wrap64 (by omega) (by omega)]; omega) ?_
    refine ⟨_, by omega, by omega, by omega, by omega, rfl, ?_⟩
    simp only [Int.toNat_natCast, show (6 : Int).toNat = 6 from rfl]
    refine r_appB h (hd6 _ h.tail.tail) (by rw [hdl]; simp; omega) fun t53 w h _ _ => ?_
    refine r_ar (e' := ((6 + n : Nat) : Int)) (by rw [wrap64 (by omega) (by omega)]; omega) ?_
    exact hk _ _ (h.del 1 at1)
  · rw [if_neg he] at hk
    refine r_ite_t (by simp [he]) ?_
    refine r_new h ?_
    clear h
    intro t47 w h
    try simp only [add_mk, Nat.zero_add, Nat.reduceAdd]
    exact hk _ _ (hempty _ _ (h.del 1 at1))

end
end Go.Proofs.Ytdpepgjbambinaa
