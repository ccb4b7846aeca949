/- Numbers as bytes; reading frames. -/
import Derived.Test.YtgnkminakongkaaSFrame
namespace Go.Proofs.Ytgnkminakongkaa
open Go Go.Sep
set_option linter.unusedSimpArgs false
set_option linter.unusedVariables false
set_option maxRecDepth 100000

def numL (n : Nat) : List UInt8 := if h : n < 128 then [u8 n] else u8 (n % 128 + 128) :: numL (n / 128)
termination_by n
decreasing_by omega
theorem numL_small {n : Nat} (h : n < 128) : numL n = [u8 n] := by rw [numL, dif_pos h]
theorem numL_big {n : Nat} (h : ¬ n < 128) : numL n = u8 (n % 128 + 128) :: numL (n / 128) := by rw [numL, dif_neg h]
theorem numL_len : ∀ (k n : Nat), n < 128 ^ (k + 1) → (numL n).length ≤ k + 1
  | 0, n, h => by rw [numL_small (by omega)]; simp
  | k + 1, n, h => by
    by_cases hn : n < 128
    · rw [numL_small hn]; simp
    · rw [numL_big hn]
      have : n / 128 < 128 ^ (k + 1) := Nat.div_lt_of_lt_mul (by rw [Nat.pow_succ] at h; omega)
      have := numL_len k _ this
      simp only [List.length_cons]; omega
theorem or128 (n : Nat) : bitsOf .or .u8 (IntKind.wrap .u8 (n : Int)) 128 = ((u8 (n % 128 + 128)).toNat : Int) := by
  rw [wrapB]
  unfold bitsOf
  simp only
  have key : ∀ x : BitVec 8, (x ||| 128#8).toNat = x.toNat % 128 + 128 := by decide
  have h2 : (BitVec.ofInt (IntKind.bits .u8) ((u8 n).toNat : Int) ||| BitVec.ofInt (IntKind.bits .u8) 128).toNat = (BitVec.ofInt (IntKind.bits .u8) ((u8 n).toNat : Int)).toNat % 128 + 128 := key (BitVec.ofInt 8 ((u8 n).toNat : Int))
  have h3 : (BitVec.ofInt (IntKind.bits .u8) ((u8 n).toNat : Int)).toNat = (u8 n).toNat := by
    show (BitVec.ofInt 8 ((u8 n).toNat : Int)).toNat = _
    rw [BitVec.ofInt_natCast, BitVec.toNat_ofNat, Nat.mod_eq_of_lt (by have := (u8 n).toNat_lt; omega)]
  rw [h2, h3, wrapB]
  simp only [u8N]
  omega
theorem shrU64 (n : Nat) (k : Nat) (hk : k < 64) : shrOf .u64 (n : Int) (k : Int) = ((n / 2 ^ k : Nat) : Int) := by
  unfold shrOf
  have : min ((k : Int).toNat) (IntKind.bits .u64) = k := by simp [IntKind.bits]; omega
  rw [this, Int.fdiv_eq_ediv_of_nonneg _ (Int.le_of_lt (Int.pow_pos (by decide))), Int.natCast_ediv, Int.natCast_pow]
  rfl

section
variable {B w : World} {Γ : List HProp}
theorem code_Pen_Num_spec {p : Nat} {g : Sl} {xs : List UInt8} {n : Nat} {k : K} (hl : xs.length + n ≤ 1000000) (h : Holds B (blk p (.cells #[g.val] ty_code_Pen (0, 0)) :: Bytes ty_uint8 g xs :: Γ) w)
    (hk : ∀ g' w, Holds B (blk p (.cells #[g'.val] ty_code_Pen (0, 0)) :: Bytes ty_uint8 g' (xs ++ numL n) :: Γ) w → k w) : code_Pen_Num.call (some ⟨p, 0, none⟩) (n : Int) k w := by
  refine code_Pen_Num_ok _ _ _ _ ?_
  unfold code_Pen_Num
  refine LoopK.of (fun t w => ∃ (m : Nat) (ys : List UInt8) (g' : Sl), t = (m : Int) ∧ xs ++ numL n = ys ++ numL m ∧ ys.length + m ≤ 1000000 ∧ Holds B (blk p (.cells #[g'.val] ty_code_Pen (0, 0)) :: Bytes ty_uint8 g' ys :: Γ) w) (fun t _ => t.toNat) ⟨n, xs, g, rfl, rfl, hl, h⟩ ?_
  clear h
  rintro t w ⟨m, ys, g', rfl, he, hm, h⟩
  unfold code_Pen_Num.b1
  refine r_ite (fun hb => ?_) (fun hb => ?_)
  · simp only [decide_eq_true_eq] at hb
    refine r_nn rfl ?_
    refine r_ld (x := g') h rfl (by first | with_reducible exact M0 | with_reducible exact M1 | with_reducible exact M2 | with_reducible exact M3 | with_reducible exact M4 | with_reducible exact M5 | with_reducible exact M6 | with_reducible exact M7 | with_reducible exact M8 | with_reducible exact M9 | with_reducible exact M10 | with_reducible exact M11 | with_reducible exact M12) ?_ ?_
    · exact rfl
    refine r_ar rfl ?_
    refine r_ar (or128 m) ?_
    refine r_new h ?_
    clear h
    intro t16 w h
    try simp only [add_mk, Nat.zero_add, Nat.reduceAdd]
    replace h := bytes_new (xs := [u8 (m % 128 + 128)]) (n := 1) (by rfl) rfl h
    replace h := P1 h
    replace h := P1 h
    replace h := P2 h
    try simp only [N1, N2, N3, N4, N5, N6, N7] at h
    refine r_appB h (Bytes.rd h.tail List.mem_cons_self) (by simp; omega) fun t17 w h _ _ => ?_
    replace h := P2 h
    replace h := D2 h
    try simp only [N1, N2, N3, N4, N5, N6, N7] at h
    first | refine S0 h rfl ?_ rfl ?_ | refine S1 h rfl ?_ rfl ?_ | refine S2 h rfl ?_ rfl ?_ | refine S3 h rfl ?_ rfl ?_ | refine S4 h rfl ?_ rfl ?_ | refine S5 h rfl ?_ rfl ?_ | refine S6 h rfl ?_ rfl ?_ | refine S7 h rfl ?_ rfl ?_ | refine S8 h rfl ?_ rfl ?_
    · first | exact Nat.lt_of_ble_eq_true rfl | (simp; done) | (simp; omega)
    clear h
    intro w h
    try simp only [N1, N2, N3, N4, N5, N6, N7] at h
    refine r_cd (by decide) ?_
    refine r_ar (shrU64 m 7 (by decide)) ?_
    refine ⟨⟨m / 128, ys ++ [u8 (m % 128 + 128)], t17, rfl, ?_, by simp; omega, h⟩, by omega⟩
    rw [he, numL_big (by omega)]
    simp
  · simp only [decide_eq_false_iff_not] at hb
    refine r_nn rfl ?_
    refine r_ld (x := g') h rfl (by first | with_reducible exact M0 | with_reducible exact M1 | with_reducible exact M2 | with_reducible exact M3 | with_reducible exact M4 | with_reducible exact M5 | with_reducible exact M6 | with_reducible exact M7 | with_reducible exact M8 | with_reducible exact M9 | with_reducible exact M10 | with_reducible exact M11 | with_reducible exact M12) ?_ ?_
    · exact rfl
    refine r_ar (wrapB m) ?_
    refine r_new h ?_
    clear h
    intro t27 w h
    try simp only [add_mk, Nat.zero_add, Nat.reduceAdd]
    replace h := bytes_new (xs := [u8 m]) (n := 1) (by rfl) rfl h
    replace h := P1 h
    replace h := P1 h
    replace h := P2 h
    try simp only [N1, N2, N3, N4, N5, N6, N7] at h
    refine r_appB h (Bytes.rd h.tail List.mem_cons_self) (by simp; omega) fun t17 w h _ _ => ?_
    replace h := P2 h
    replace h := D2 h
    try simp only [N1, N2, N3, N4, N5, N6, N7] at h
    first | refine S0 h rfl ?_ rfl ?_ | refine S1 h rfl ?_ rfl ?_ | refine S2 h rfl ?_ rfl ?_ | refine S3 h rfl ?_ rfl ?_ | refine S4 h rfl ?_ rfl ?_ | refine S5 h rfl ?_ rfl ?_ | refine S6 h rfl ?_ rfl ?_ | refine S7 h rfl ?_ rfl ?_ | refine S8 h rfl ?_ rfl ?_
    · first | exact Nat.lt_of_ble_eq_true rfl | (simp; done) | (simp; omega)
    clear h
    intro w h
    try simp only [N1, N2, N3, N4, N5, N6, N7] at h
    refine hk t17 _ ?_
    rw [he, numL_small (by omega)]
    exact h

theorem code_Pen_Data_spec {p : Nat} {g : Sl} {xs : List UInt8} {k : Sl → K} (hl : xs.length ≤ 1000000) (h : Holds B (blk p (.cells #[g.val] ty_code_Pen (0, 0)) :: Bytes ty_uint8 g xs :: Γ) w)
    (hk : ∀ s w, Holds B (Bytes ty_uint8 s xs :: Γ) w → k s w) : code_Pen_Data.call (some ⟨p, 0, none⟩) k w := by
  refine code_Pen_Data_ok _ _ _ ?_
  unfold code_Pen_Data
  refine r_nn rfl ?_
  refine r_ld (x := g) h rfl (by first | with_reducible exact M0 | with_reducible exact M1 | with_reducible exact M2 | with_reducible exact M3 | with_reducible exact M4 | with_reducible exact M5 | with_reducible exact M6 | with_reducible exact M7 | with_reducible exact M8 | with_reducible exact M9 | with_reducible exact M10 | with_reducible exact M11 | with_reducible exact M12) ?_ ?_
  · exact rfl
  refine slices_Clone_spec h (fun w h => Bytes.rd h (List.mem_cons_of_mem _ List.mem_cons_self)) (by omega) fun s w h _ => ?_
  replace h := D1 h
  replace h := D1 h
  try simp only [N1, N2, N3, N4, N5, N6, N7] at h
  exact hk _ _ h

/-- What bytes begin with as a frame: its body, its length, and the error's number. -/
def unframeL (d : List UInt8) : List UInt8 × Nat × Nat :=
  if d.length < 6 then ([], 0, 30)
  else
    let n := 256 * (d.getD 0 0).toNat + (d.getD 1 0).toNat
    if 4096 < n then ([], 0, 31)
    else if d.length - 6 < n then ([], 0, 30)
    else if frameL ((d.drop 6).take n) = d.take (6 + n) then ((d.drop 6).take n, 6 + n, 0) else ([], 0, 33)

theorem shl8 (x : Nat) (hx : x < 256) : shlOf .i64 (x : Int) 8 = ((x * 256 : Nat) : Int) := by
  unfold shlOf
  have : min ((8 : Int).toNat) (IntKind.bits .i64) = 8 := rfl
  rw [this]
  rw [wrap64 (by omega) (by omega)]
  omega
theorem or16 (x y : Nat) (hx : x < 256) (hy : y < 256) : bitsOf .or .i64 ((x * 256 : Nat) : Int) (y : Int) = ((256 * x + y : Nat) : Int) := by
  unfold bitsOf
  simp only
  have h1 : (BitVec.ofInt (IntKind.bits .i64) ((x * 256 : Nat) : Int) ||| BitVec.ofInt (IntKind.bits .i64) (y : Int)).toNat = 256 * x + y := by
    show (BitVec.ofInt 64 ((x * 256 : Nat) : Int) ||| BitVec.ofInt 64 (y : Int)).toNat = _
    rw [BitVec.toNat_or, BitVec.ofInt_natCast, BitVec.ofInt_natCast, BitVec.toNat_ofNat, BitVec.toNat_ofNat, Nat.mod_eq_of_lt (by omega), Nat.mod_eq_of_lt (by omega)]
    have h4 := Nat.two_pow_add_eq_or_of_lt (i := 8) (b := y) (by omega) x
    have h5 : 2 ^ 8 * x = x * 256 := by omega
    rw [h5] at h4
    omega
  rw [h1, wrap64 (by omega) (by omega)]

theorem code_Unframe_spec {s : Sl} {d : List UInt8} {k : Sl → Int → Int → K} (hl : d.length ≤ 100000000) (h : Holds B Γ w) (hr : ∀ w, Holds B Γ w → RdB w s d) (hcap : s.n ≤ s.c)
    (hk : ∀ f w, Holds B (Bytes ty_uint8 f (unframeL d).1 :: Γ) w → k f ((unframeL d).2.1 : Int) ((unframeL d).2.2 : Int) w) : code_Unframe.call s k w := by
  have hn : d.length = s.n := by have := (hr w h).len; simpa using this
  refine code_Unframe_ok _ _ _ ?_
  unfold code_Unframe
  unfold unframeL at hk
  refine r_ite (fun hb => ?_) (fun hb => ?_)
  · simp only [decide_eq_true_eq] at hb
    rw [if_pos (by omega)] at hk
    exact hk _ _ (h.nilSl _ _)
  simp only [decide_eq_false_iff_not] at hb
  rw [if_neg (by omega)] at hk
  have hsp := rd_spot (hr w h) (fun e => by rw [e] at hn; simp at hn; omega)
  refine r_dr h ?_
  clear h
  intro w h
  have h0 : d[0]? = some (d.getD 0 0) := by
    have : 0 < d.length := by omega
    simp [List.getD, List.getElem?_eq_getElem this]
  have h1 : d[1]? = some (d.getD 1 0) := by
    have : 1 < d.length := by omega
    simp [List.getD, List.getElem?_eq_getElem this]
  have hx := (d.getD 0 0).toNat_lt
  have hy := (d.getD 1 0).toNat_lt
  generalize d.getD 0 0 = x at h0 hx hk
  generalize d.getD 1 0 = y at h1 hy hk
  refine r_byte (j := 0) (hr w h) h0 ?_
  refine r_ar (wrap64 (by omega) (by omega)) ?_
  refine r_cd (by decide) ?_
  refine r_ar (shl8 _ (by omega)) ?_
  refine r_byte (j := 1) (hr w h) h1 ?_
  refine r_ar (wrap64 (by omega) (by omega)) ?_
  refine r_ar (or16 _ _ (by omega) (by omega)) ?_
  generalize 256 * x.toNat + y.toNat = n at hk
  simp only at hk
  refine r_ite (fun hb2 => ?_) (fun hb2 => ?_)
  · simp only [decide_eq_true_eq] at hb2
    rw [if_pos (by omega)] at hk
    exact hk _ _ (h.nilSl _ _)
  simp only [decide_eq_false_iff_not] at hb2
  rw [if_neg (by omega)] at hk
  refine r_ar (wrap64 (by omega) (by omega)) ?_
  refine r_ite (fun hb3 => ?_) (fun hb3 => ?_)
  · simp only [decide_eq_true_eq] at hb3
    rw [if_pos (by omega)] at hk
    exact hk _ _ (h.nilSl _ _)
  simp only [decide_eq_false_iff_not] at hb3
  rw [if_neg (by omega)] at hk
  have e6 : (6 : Int) + (n : Int) = ((6 + n : Nat) : Int) := by omega
  refine r_ar (e' := ((6 + n : Nat) : Int)) (by rw [wrap64 (by omega) (by omega)]; omega) ?_
  refine ⟨_, by omega, by omega, by omega, by omega, rfl, ?_⟩
  simp only [Int.toNat_natCast, show (6 : Int).toNat = 6 from rfl]
  have hd6 : ∀ w, Holds B Γ w → RdB w ⟨cutA s.a 6 s.c 1, 6 + n - 6, s.c - 6⟩ ((d.drop 6).take n) := fun w h => by
    have h1 := (hr w h).drop (l := 6) (c := s.c) (by omega) hcap hsp
    have h2 := h1.take (m := n) (c := s.c - 6) (by simp only; omega)
    have e : 6 + n - 6 = n := by omega
    rw [e]
    show RdC w _ 1 (((d.drop 6).take n).map byteV)
    rw [List.map_take, List.map_drop]
    simpa using h2
  have hdl : ((d.drop 6).take n).length = n := by simp; omega
  refine code_Frame_spec (b := (d.drop 6).take n) (by omega) h hd6 fun f w h => ?_
  refine r_ar (e' := ((6 + n : Nat) : Int)) (by rw [wrap64 (by omega) (by omega)]; omega) ?_
  refine ⟨_, by omega, by omega, by omega, by omega, rfl, ?_⟩
  simp only [Int.toNat_natCast, show (0 : Int).toNat = 0 from rfl, cut0 hsp, Nat.sub_zero]
  have hfl := frameL_len ((d.drop 6).take n)
  refine slices_Equal_spec (xs := frameL ((d.drop 6).take n)) (ys := d.take (6 + n)) (by omega) h (fun w h => Bytes.rd h List.mem_cons_self) (fun w h => by
    have h1 := (hr w h.tail).take (m := 6 + n) (c := s.c) (by omega)
    show RdC w _ 1 ((d.take (6 + n)).map byteV)
    rw [List.map_take]
    simpa using h1) fun w h => ?_
  by_cases he : frameL ((d.drop 6).take n) = d.take (6 + n)
  · rw [if_pos he] at hk
    rw [decide_eq_true he]
    refine r_ite_f rfl ?_
    have hfn := Bytes.len h
    have hfc := h.slCap
    refine ⟨_, by omega, by omega, by omega, by omega, rfl, ?_⟩
    simp only [Int.toNat_natCast, show (6 : Int).toNat = 6 from rfl]
    have h2 := h.imp (SlC.dropF (l := 6) (by omega))
    have e2 : ((frameL ((d.drop 6).take n)).map byteV).drop (6 * 1) = ((d.drop 6).take n).map byteV := by
      rw [← List.map_drop]
      congr 1
    rw [e2] at h2
    have e3 : f.n = 6 + n := by omega
    have := hk _ _ h2
    rw [e3] at this ⊢
    exact this
  · rw [if_neg he] at hk
    rw [decide_eq_false he]
    refine r_ite_t rfl ?_
    exact hk _ _ (h.tail.nilSl _ _)
end
end Go.Proofs.Ytgnkminakongkaa
