/- Texts of the claim EvalOthers, one behind the other. -/
import Derived.Test.YtfjjocopmknhgaaEvalOthersM4
/- The example of the law's chapter on transactions. -/
namespace Go.Proofs.Ytfjjocopmknhgaa
open Go Go.Sep Go.Sep.Bt
set_option linter.unusedSimpArgs false
set_option linter.unusedVariables false
set_option maxRecDepth 100000

def exOps : List OpX := [(⟨6, [110], [], 5⟩, ⟨none, 0, 0⟩), (⟨1, [110], [], 0⟩, ⟨none, 0, 0⟩)]
def exTx (a b : Nat) : TxX := ⟨1, [], [[110]], exOps, 0, ⟨none, 0, 0⟩, ⟨some ⟨a, 0, none⟩, 1, 1⟩, ⟨some ⟨b, 0, none⟩, 2, 2⟩⟩
theorem exRun (a b : Nat) : runW 1 [] (exTx a b) = ([([110], ⟨true, [0, 0, 0, 0, 0, 0, 0, 5], 0, 0⟩)], [(true, [0, 0, 0, 0, 0, 0, 0, 5])], 0) := by
  have hv : partV (uOf 5) 8 = [0, 0, 0, 0, 0, 0, 0, 5] := by decide
  have hh : homeOf [110] 1 = 0 := by decide
  have hn : nowM 1 [] [] [110] = ⟨false, [], 0, 0⟩ := by simp [nowM, mget, sGet, getM, hh]
  have hs1 : stepW 1 [] [] [] ⟨6, [110], [], 5⟩ = ([([110], ⟨true, [0, 0, 0, 0, 0, 0, 0, 5], 0, 0⟩)], [], 0) := by
    simp [stepW, addW, hn, overS, setW, mset, hv]
  have hn2 : nowM 1 [] [([110], ⟨true, [0, 0, 0, 0, 0, 0, 0, 5], 0, 0⟩)] [110] = ⟨true, [0, 0, 0, 0, 0, 0, 0, 5], 0, 0⟩ := by simp [nowM, mget]
  have hs2 : stepW 1 [] [([110], ⟨true, [0, 0, 0, 0, 0, 0, 0, 5], 0, 0⟩)] [] ⟨1, [110], [], 0⟩ = ([([110], ⟨true, [0, 0, 0, 0, 0, 0, 0, 5], 0, 0⟩)], [(true, [0, 0, 0, 0, 0, 0, 0, 5])], 0) := by
    simp [stepW, hn2]
  unfold runW
  rw [if_neg (by simp [exTx])]
  show opsW 1 [] exOps [] [] = _
  unfold exOps
  rw [opsW_cons, hs1, if_neg (by simp), opsW_cons, hs2, if_neg (by simp), opsW_nil]
section
variable {B : World} {Γ Δ : List HProp}
theorem speaks7 {q : Bool → K} (h : HG B Γ (q true)) : HG B Γ (law07_speaks.call q) := fun w hw => by
  refine law07_speaks_ok _ _ ?_
  refine hg hw ?_
  clear hw w
  unfold law07_speaks
  refine storeNew_spec (n := 1) (by omega) (by omega) fun st => ?_
  refine s_f ?_
  refine s_new fun t13 => ?_
  refine s_bldF (cs := exOps.flatMap opF) ?_
  refine s_new fun t16 => ?_
  refine s_own st ?_
  refine eval_Run_hg (t := exTx t13 t16) ?_ ?_ (fun hb => ?_) fun _ os O rows R hO hR _ => ?_
  · exact ⟨by simp [exTx], by simp [exTx, exOps, OpM.ok], by simp [exTx, exOps], by simp [exTx], by simp [exTx], by simp [exTx]⟩
  · intro w hw
    refine ⟨RdC.none', ?_, ?_, ?_⟩
    · exact RdC.of_blk (E := ty_string) (b := t13) (vs := [strV [110]]) (cs := #[strV [110]]) hw (by simp) rfl rfl 1
    · exact RdC.of_blk (E := ty_api_Op) (b := t16) (n := 2) (vs := exOps.flatMap opF) (cs := (exOps.flatMap opF).toArray) hw (by simp) (by simp) rfl 2
    · intro x hx
      simp only [exTx, exOps, List.mem_cons, List.not_mem_nil, or_false] at hx
      rcases hx with rfl | rfl <;> exact RdC.none'
  · exact absurd (by rw [exRun]) hb
  · rw [exRun] at hO hR
    have hO1 : ∃ s, O = [((true, [0, 0, 0, 0, 0, 0, 0, 5]), s)] := by
      match O, hO with
      | [(x, s)], hO => exact ⟨s, by simp at hO; rw [hO]⟩
      | _ :: _ :: _, hO => simp at hO
    obtain ⟨s, rfl⟩ := hO1
    have hRl : R.length = 1 := by
      have := congrArg List.length hR
      simpa [sortW] using this
    refine s_cap os fun a1 a2 a3 a4 => ?_
    refine s_cap rows fun b1 b2 b3 b4 => ?_
    rw [flatMap_len _ 2 oF_len] at a1
    rw [flatMap_len _ 5 rowF_len] at b1
    simp only [List.length_cons, List.length_nil] at a1
    have hon : os.n = 1 := by omega
    have hrn : rows.n = 1 := by omega
    refine s_new fun r3 => ?_
    refine s_stN (b := r3) (l' := [.int .i64 0, os.val]) ?_
    refine s_ld (b := r3) (x := 0) ?_
    refine s_t ?_
    refine s_ld (b := r3) (x := os) ?_
    refine s_t ?_
    refine s_ld (b := r3) (x := os) ?_
    refine s_idx (s := os) (i := 0) ?_
    refine s_ldE (s := os) (x := s) rfl ?_
    refine fun w hw => r_str (xs := [0, 0, 0, 0, 0, 0, 0, 5]) (by kernel_rfl) ?_ ?_
    · exact rdB_of (Γ := Γ) (Holds.flat.1 (hw.drops (Δ := Sep.stars (List.map oB [((true, [0, 0, 0, 0, 0, 0, 0, 5]), s)]) :: Γ)))
    refine hg hw ?_
    clear hw w
    refine s_t ?_
    unfold law07_speaks.s1
    rw [show decide ((rows.n : Int) = 1) = true by simp [hrn]]
    exact s_end h
end
end Go.Proofs.Ytfjjocopmknhgaa
/- How the arguments of laws read. -/
namespace Go.Proofs.Ytfjjocopmknhgaa
open Go Go.Sep
def Sh_ty_int64 : Sh := (.int .i64)
theorem sh_2 : mkSh Try.prog 9 2 = Sh_ty_int64 := by kernel_rfl
def Sh_ty_int : Sh := (.int .i64)
theorem sh_3 : mkSh Try.prog 9 3 = Sh_ty_int := by kernel_rfl
def Sh_ty_string : Sh := .str
theorem sh_9 : mkSh Try.prog 9 9 = Sh_ty_string := by kernel_rfl
def Sh_ty_s_argosylaw10_Move : Sh := (.sl (.fld 0 1 .str (.fld 1 1 (.int .i64) .nil)) 2)
theorem sh_22 : mkSh Try.prog 9 22 = Sh_ty_s_argosylaw10_Move := by kernel_rfl
def Sh_ty_s_uint8 : Sh := (.sl (.int .u8) 1)
theorem sh_33 : mkSh Try.prog 9 33 = Sh_ty_s_uint8 := by kernel_rfl
def Sh_ty_api_Txn : Sh := (.fld 0 1 (.int .i64) (.fld 1 1 (.sl .str 1) (.fld 2 1 (.sl .str 1) (.fld 3 1 (.sl (.fld 0 1 (.int .i64) (.fld 1 1 .str (.fld 2 1 (.sl (.int .u8) 1) (.fld 3 1 (.int .i64) .nil)))) 4) (.fld 4 1 (.int .i64) .nil)))))
theorem sh_50 : mkSh Try.prog 9 50 = Sh_ty_api_Txn := by kernel_rfl
def Sh_ty_s_argosylaw07_Cell : Sh := (.sl (.fld 0 1 .str (.fld 1 1 (.sl (.int .u8) 1) (.fld 2 1 .bool (.fld 3 1 (.int .i64) .nil)))) 4)
theorem sh_70 : mkSh Try.prog 9 70 = Sh_ty_s_argosylaw07_Cell := by kernel_rfl
def Sh_ty_s_s_string : Sh := (.sl (.sl .str 1) 1)
theorem sh_93 : mkSh Try.prog 9 93 = Sh_ty_s_s_string := by kernel_rfl
def Sh_ty_s_int : Sh := (.sl (.int .i64) 1)
theorem sh_94 : mkSh Try.prog 9 94 = Sh_ty_s_int := by kernel_rfl
def Sh_ty_s_uint64 : Sh := (.sl (.int .u64) 1)
theorem sh_97 : mkSh Try.prog 9 97 = Sh_ty_s_uint64 := by kernel_rfl
end Go.Proofs.Ytfjjocopmknhgaa
/- Stores that are filled: the document's Put; the law's great and filled. -/
namespace Go.Proofs.Ytfjjocopmknhgaa
open Go Go.Sep Go.Sep.Bt
set_option linter.unusedSimpArgs false
set_option linter.unusedVariables false
set_option maxRecDepth 100000

structure CellM where
  key : ByteArray
  val : List UInt8
  has : Bool
  moves : Int
abbrev CellX := CellM × Sl
abbrev cellF (x : CellX) : List Value := [.string x.1.key, x.2.val, .bool x.1.has, .int .i64 x.1.moves]
theorem cellF_len (x : CellX) : (cellF x).length = 4 := rfl
abbrev CGreat (L : List CellX) : Prop := 40 < L.length ∨ ∃ x ∈ L, 200 < x.1.key.size ∨ 200 < x.1.val.length
theorem and3 (n : Int) : 0 ≤ bitsOf .and .i64 n 3 ∧ bitsOf .and .i64 n 3 ≤ 3 := by
  unfold bitsOf
  simp only
  have h1 : ((BitVec.ofInt IntKind.i64.bits n &&& BitVec.ofInt IntKind.i64.bits 3).toNat) ≤ 3 := by
    rw [BitVec.toNat_and]
    exact Nat.le_trans Nat.and_le_right (by decide)
  rw [wrap64 (by omega) (by omega)]
  omega
section
variable {B : World} {Γ Δ : List HProp} {k : K} {st sd n : Nat} {M : Recs} {P : Pool}
theorem s_pool {s : Sl} {xs : List UInt8} (h : HG B (poolR (P ++ [(s, xs)]) :: Γ) k) : HG B (Bytes ty_uint8 s xs :: poolR P :: Γ) k := by
  have := s_unmid (F := fun p : Sl × List UInt8 => Bytes ty_uint8 p.1 p.2) (A := P) (C := []) (x := (s, xs)) h
  rwa [List.append_nil] at this
theorem put6_hg {k : ByteArray} {v : Sl} {xs : List UInt8} {Q : K} (hk : k.size < 1000000000000) (hL : M.length < 1000000) (hr : ∀ w, Holds B Γ w → RdB w v xs) (hx : xs.length ≤ 90000000)
    (h : ∀ P', HG B (Ref6 sd n (sPut n M k xs) P' :: poolR P' :: Γ) Q) : HG B (Ref6 sd n M P :: poolR P :: Γ) (ref06_Store_Put.call (some ⟨sd, 0, none⟩) k v Q) := fun w hw => by
  refine ref06_Store_Put_ok _ _ _ _ _ ?_
  have hvn : v.n = xs.length := by have := (hr w hw.drops).len; simpa using this.symm
  refine hg hw ?_
  clear hw w
  unfold ref06_Store_Put
  refine get6_hg hk (by omega) fun sl hok hv => ?_
  have hsp : sPut n M k xs = setM M k { sGet n M k with has := true, val := xs } := rfl
  rw [hsp] at h
  generalize sGet n M k = r at *
  refine s_new fun r6 => ?_
  refine s_stN (b := r6) (l' := recL r sl) ?_
  repeat refine s_nx ?_
  refine s_new fun t12 => ?_
  repeat refine s_nx ?_
  refine s_conv (A' := SlC ty_uint8 1 ⟨some ⟨t12, 0, none⟩, 0, 0⟩ []) (blk_SlC (vs := []) rfl (by simp)) ?_
  refine s_append (s := ⟨some ⟨t12, 0, none⟩, 0, 0⟩) (us := xs.map byteV) (fun w hw => hr w hw.drops) (byteV_flat _) (by simp only; omega) fun s' hs' => ?_
  rw [List.nil_append]
  repeat refine s_nx ?_
  show HG B (Bytes ty_uint8 s' xs :: _) _
  refine s_end (Δ := Bytes ty_uint8 s' xs :: poolR P :: Ref6 sd n M P :: Γ) ?_
  refine s_pool ?_
  refine s_own sd ?_
  refine s_ref6P (P' := P ++ [(s', xs)]) (fun x hx => List.mem_append_left _ hx) ?_
  obtain ⟨o1, o2, o3⟩ := hok
  refine set6_hg (r := { r with has := true, val := xs }) ⟨o1, o2, by simp only; omega⟩ (.inr (by simp)) (by omega) ?_
  have h2 := h (P ++ [(s', xs)])
  exact s_end h2
theorem great7_hg {s : Sl} {L : List CellX} {Q : Bool → K} (hr : ∀ w, Holds B Γ w → RdC w s 4 (L.flatMap cellF)) (hv : ∀ x ∈ L, ∀ w, Holds B Γ w → RdB w x.2 x.1.val) (h : HG B Γ (Q (decide (CGreat L)))) : HG B Γ (law07_great.call s Q) := fun w hw => by
  refine law07_great_ok _ _ _ ?_
  have hn := rd_len cellF_len (by omega) (hr w hw)
  have hvn : ∀ x ∈ L, x.2.n = x.1.val.length := fun x hx => by have := (hv x hx w hw).len; simpa using this.symm
  refine hg hw ?_
  clear hw w
  have yes : CGreat L → HG B Γ (Q true) := fun hg => by rw [decide_eq_true hg] at h; exact h
  unfold law07_great
  refine s_ite (fun hb => yes (.inl (by simp only [decide_eq_true_eq] at hb; omega))) fun hb => ?_
  have hL40 : L.length ≤ 40 := by simp only [decide_eq_false_iff_not] at hb; omega
  refine s_loopC (α := Int) (fun x => ∃ i : Nat, x = (i : Int) ∧ i ≤ L.length ∧ ∀ x ∈ L.take i, x.1.key.size ≤ 200 ∧ x.1.val.length ≤ 200) (fun x => L.length - x.toNat) ⟨0, rfl, Nat.zero_le _, by simp⟩ fun k' x hx hk => ?_
  obtain ⟨i, rfl, hi, ha⟩ := hx
  unfold law07_great.b1
  refine s_ite (fun hlt => ?_) fun hlt => ?_
  · have hil : i < L.length := by simp only [decide_eq_true_eq] at hlt; omega
    have hge : L[i]? = some L[i] := List.getElem?_eq_getElem hil
    have hmem : L[i] ∈ L := List.getElem_mem hil
    have htk : L.take (i + 1) = L.take i ++ [L[i]] := List.take_succ_eq_append_getElem hil
    generalize L[i] = x at hge hmem htk
    have hxn := hvn x hmem
    refine s_idxN cellF cellF_len (fun w hw => hr w hw) hge ?_
    refine s_new fun c4 => ?_
    have S2 : ∀ b, (b = true ↔ 200 < x.1.key.size ∨ 200 < x.1.val.length) → HG B (blk c4 (.cells (cellF x).toArray 126 (0, 0)) :: Γ) (law07_great.s2 Q k' s (s.n : Int) (i : Int) b) := fun b hb => by
      unfold law07_great.s2
      refine s_ite (fun hb1 => s_end (yes (.inr ⟨x, hmem, hb.1 hb1⟩))) fun hb1 => ?_
      have hnb : ¬ (200 < x.1.key.size ∨ 200 < x.1.val.length) := fun h => by rw [hb.2 h] at hb1; cases hb1
      refine s_ai ?_
      refine s_end (hk ((i : Int) + 1) ⟨i + 1, by simp, hil, fun y hy => ?_⟩ (by omega))
      rw [htk] at hy
      rcases List.mem_append.1 hy with hy | hy
      · exact ha y hy
      · rw [List.mem_singleton.1 hy]; omega
    refine s_stN (b := c4) (l' := cellF x) ?_
    repeat refine s_nx ?_
    refine s_ite (fun hc => ?_) fun hc => ?_
    · exact S2 _ (by have : 200 < x.1.key.size := by simp only [decide_eq_true_eq] at hc; omega
                     simp [this])
    have hc' : ¬ 200 < x.1.key.size := by simp only [decide_eq_false_iff_not] at hc; omega
    repeat refine s_nx ?_
    exact S2 _ (by simp only [hc', false_or, decide_eq_true_eq]; omega)
  · have hil : i = L.length := by simp only [decide_eq_false_iff_not] at hlt; omega
    rw [hil, List.take_length] at ha
    rw [decide_eq_false (show ¬ CGreat L from by
      rintro (h | ⟨x, hx, h⟩)
      · simp only [decide_eq_false_iff_not] at hb; omega
      · have := ha x hx; omega)] at h
    exact h
theorem filled_hg {s : Sl} {L : List CellX} {Q : Option Addr → Option Addr → K} (hr : ∀ w, Holds B Γ w → RdC w s 4 (L.flatMap cellF)) (hv : ∀ x ∈ L, ∀ w, Holds B Γ w → RdB w x.2 x.1.val) (hg : ¬ CGreat L)
    (h : ∀ st sd M P, M.length ≤ 200 → HG B (StoreR st 3 M :: Ref6 sd 3 M P :: poolR P :: Γ) (Q (some ⟨st, 0, none⟩) (some ⟨sd, 0, none⟩))) : HG B Γ (law07_filled.call s Q) := fun w hw => by
  refine law07_filled_ok _ _ _ ?_
  have hn := rd_len cellF_len (by omega) (hr w hw)
  refine Sep.hg hw ?_
  clear hw w
  have hL : L.length ≤ 40 := by simp only [CGreat, not_or] at hg; omega
  have hLs : ∀ x ∈ L, x.1.key.size ≤ 200 ∧ x.1.val.length ≤ 200 := fun x hx => by
    constructor
    · exact Nat.le_of_not_lt fun h => hg (.inr ⟨x, hx, .inl h⟩)
    · exact Nat.le_of_not_lt fun h => hg (.inr ⟨x, hx, .inr h⟩)
  unfold law07_filled
  refine storeNew_spec (n := 3) (by omega) (by omega) fun st => ?_
  refine new6_hg (n := 3) (P := []) (by omega) (by omega) fun sd => ?_
  refine s_f ?_
  refine fun w hw => Sep.hg (show Holds B (poolR ([] : Pool) :: _) w from hw.starsNil) ?_
  clear hw w
  refine s_end (Δ := StoreR st 3 [] :: Ref6 sd 3 [] [] :: poolR [] :: Γ) ?_
  refine s_loop (α := Int) (ι := Nat × Recs × Pool) (fun x i => x = (i.1 : Int) ∧ i.1 ≤ L.length ∧ i.2.1.length ≤ 5 * i.1) (fun x i => StoreR st 3 i.2.1 :: Ref6 sd 3 i.2.1 i.2.2 :: poolR i.2.2 :: Γ) (fun x i => L.length - i.1) (0, [], []) ⟨rfl, Nat.zero_le _, Nat.le_refl _⟩ ?_
  rintro k' _ ⟨i, M, P⟩ ⟨rfl, hi, hMl⟩ hk'
  simp only at hi hMl hk' ⊢
  unfold law07_filled.b1
  refine s_ite (fun hb => ?_) fun hb => ?_
  · have hil : i < L.length := by simp only [decide_eq_true_eq] at hb; omega
    have hge : L[i]? = some L[i] := List.getElem?_eq_getElem hil
    have hmem : L[i] ∈ L := List.getElem_mem hil
    generalize L[i] = x at hge hmem
    obtain ⟨hk1, hk2⟩ := hLs x hmem
    refine s_idxN cellF cellF_len (fun w hw => hr w hw.drops) hge ?_
    refine s_new fun c8 => ?_
    refine s_stN (b := c8) (l' := cellF x) ?_
    have mv : ∀ N P', N.length ≤ 5 * i + 1 → HG B (blk c8 (.cells (cellF x).toArray 126 (0, 0)) :: StoreR st 3 N :: Ref6 sd 3 N P' :: poolR P' :: Γ) (law07_filled.s2 Q k' (some ⟨st, 0, none⟩) (some ⟨sd, 0, none⟩) ⟨c8, 0, none⟩ s (s.n : Int) (i : Int)) := fun N P' hN => by
      unfold law07_filled.s2
      refine s_loop (α := Int) (ι := Nat × Recs) (fun x i => x = (i.1 : Int) ∧ i.1 ≤ 3 ∧ i.2.length ≤ N.length + i.1) (fun _ i => blk c8 (.cells (cellF x).toArray 126 (0, 0)) :: StoreR st 3 i.2 :: Ref6 sd 3 i.2 P' :: poolR P' :: Γ) (fun x i => 3 - i.1) (0, N) ⟨rfl, Nat.zero_le _, Nat.le_refl _⟩ ?_
      rintro k2 _ ⟨j, N2⟩ ⟨rfl, hj, hN2⟩ hk2
      simp only at hj hN2 hk2 ⊢
      obtain ⟨m1, m2⟩ := and3 x.1.moves
      unfold law07_filled.b3
      repeat refine s_nx ?_
      refine s_ar (e' := bitsOf .and .i64 x.1.moves 3) rfl ?_
      refine s_ite (fun hc => ?_) fun hc => ?_
      · have hj3 : j < 3 := by simp only [decide_eq_true_eq] at hc; omega
        repeat refine s_nx ?_
        refine s_own st ?_
        refine storeMove_spec (M := N2) (by omega) (by omega) ?_
        repeat refine s_nx ?_
        refine s_own sd ?_
        refine move6_hg (by omega) (by omega) ?_
        refine s_ai ?_
        have := sMove_len2 3 N2 x.1.key (j : Int)
        exact s_end (hk2 ((j : Int) + 1) (j + 1, (sMove 3 N2 x.1.key (j : Int)).1) ⟨by simp, hj3, by simp only; omega⟩ (by simp only; omega))
      · refine s_ai ?_
        exact s_end (hk' ((i : Int) + 1) (i + 1, N2, P') ⟨by simp, hil, by simp only; omega⟩ (by simp only; omega))
    repeat refine s_nx ?_
    refine s_ite (fun hc => ?_) fun hc => ?_
    · repeat refine s_nx ?_
      refine s_own st ?_
      refine storePutV_spec (M := M) (xs := x.1.val) (by omega) (by omega) (fun w hw => hv x hmem w hw.drops) (by omega) ?_
      rw [show setM M x.1.key { sGet 3 M x.1.key with has := true, val := x.1.val } = sPut 3 M x.1.key x.1.val from rfl]
      have hl := setM_len M x.1.key { sGet 3 M x.1.key with has := true, val := x.1.val }
      repeat refine s_nx ?_
      refine s_end (Δ := Ref6 sd 3 M P :: poolR P :: blk c8 (.cells (cellF x).toArray 126 (0, 0)) :: StoreR st 3 (sPut 3 M x.1.key x.1.val) :: Γ) ?_
      refine put6_hg (xs := x.1.val) (by omega) (by omega) (fun w hw => hv x hmem w hw.drops) (by omega) fun P' => ?_
      exact s_end (mv (sPut 3 M x.1.key x.1.val) P' (by unfold sPut; omega))
    · exact mv M P (by omega)
  · exact h st sd M P (by omega)
end
end Go.Proofs.Ytfjjocopmknhgaa

namespace Go.Proofs.Ytfjjocopmknhgaa
open Go Go.Sep Go.RowKit
theorem rdy_cell {w : World} {cs : List Value} (hc : cs.length = 4) (y : Rdy w (.fld 0 1 .str (.fld 1 1 (.sl (.int .u8) 1) (.fld 2 1 .bool (.fld 3 1 (.int .i64) .nil)))) cs) : ∃ x : CellX, cs = cellF x ∧ RdB w x.2 x.1.val := by
  match cs, hc with
  | [a, b, c, d], _ =>
    obtain ⟨⟨x0, e0, _⟩, ⟨s, e1, _, _, h1, h2⟩, ⟨x2, e2⟩, ⟨x3, e3, _⟩, _⟩ := y
    cases e0; cases e1; cases e2; cases e3
    obtain ⟨xs, _, h3⟩ := rd_bytes h1 h2
    exact ⟨(⟨x0, xs, x2, x3⟩, s), rfl, h3⟩
theorem rdy_cells {W : World} {s : Sl} (y0 : Rdy W Sh_ty_s_argosylaw07_Cell (Sl.val s).cells.toList) : ∃ L : List CellX, RdC W s 4 (L.flatMap cellF) ∧ ∀ x ∈ L, RdB W x.2 x.1.val := by
  obtain ⟨h1, h2⟩ := rdy_sl y0
  obtain ⟨L, _, hL, hd⟩ := rd_list cellF (fun x => RdB W x.2 x.1.val) cellF_len h1 h2 fun cs hc hr => rdy_cell hc hr
  exact ⟨L, hL, hd⟩
end Go.Proofs.Ytfjjocopmknhgaa
/- The document's transactions: which are right. -/
namespace Go.Proofs.Ytfjjocopmknhgaa
open Go Go.Sep
set_option linter.unusedSimpArgs false
set_option linter.unusedVariables false
set_option maxRecDepth 100000

def opRight (t : TxX) (o : OpM) : Bool :=
  if 32 < o.val.length ∨ o.kind < 1 ∨ 7 < o.kind then false
  else if o.kind = 7 then decide (o.key = []) && decide (o.n = 0)
  else if o.key ∉ t.writes ∧ (o.key ∉ t.reads ∨ o.kind = 2 ∨ o.kind = 3 ∨ o.kind = 6) then false
  else if o.kind ≠ 6 ∧ o.n ≠ 0 then false
  else decide (o.kind = 2) || (decide (o.kind = 4) || decide (o.val.length = 0))
abbrev Rises (L : List TX) : Prop := L.Pairwise (· < ·)
abbrev headBad (n : Int) (t : TxX) : Prop := n < 1 ∨ 3 < n ∨ ¬ Rises t.reads ∨ ¬ Rises t.writes ∨ 8 < t.reads.length ∨ 8 < t.writes.length ∨ 8 < t.reads.length + t.writes.length
abbrev keysBad (t : TxX) : Prop := (∃ k ∈ t.reads ++ t.writes, k.length < 1 ∨ 16 < k.length) ∨ ∃ k ∈ t.reads, k ∈ t.writes
def rightT (n : Int) (t : TxX) : Bool :=
  if headBad n t then false
  else if keysBad t then false
  else if t.kind = 2 then decide (t.reads.length = 0) && (decide (t.ops.length = 0) && (decide (t.writes.length = 1) && (decide (0 ≤ t.to) && decide (t.to < n))))
  else if t.kind ≠ 1 ∨ t.to ≠ 0 ∨ 16 < t.ops.length then false
  else t.ops.all fun x => opRight t x.1
theorem flatMap_1 {α β : Type} (f : α → β) (L : List α) : L.flatMap (fun x => [f x]) = L.map f := by induction L <;> simp_all
section
variable {B : World} {Γ Δ : List HProp} {k : K}
theorem s_ldA0 {α : Type} {a : Addr} {cs : List Value} {c : α → Value} {x : α} {k : α → K} (hn : ∀ w, Holds B Γ w → RdN w a cs.toArray) (hv : cs[0]? = some (c x)) (h : HG B Γ (k x)) : HG B Γ (Ld a c k) := fun w hw => ⟨x, by
  have := hn w hw 0 (by have := (List.getElem?_eq_some_iff.1 hv).1; simpa using this)
  rw [add0] at this
  rw [this]; simpa using hv, h w hw⟩
theorem s_ldSA {Γ0 : List HProp} {α : Type} {a : Addr} {off : Nat} {cs : List Value} {c : α → Value} {x : α} {k : α → K} (hn : ∀ w, Holds B Γ0 w → RdN w a cs.toArray) (hv : cs[off]? = some (c x)) (h : HG B Γ (k x)) : HG B Γ (LdS (Holds B Γ0) (a.add off) c k) := fun w hw => ⟨x, fun w' hw' => by
  have := hn w' hw' off (by have := (List.getElem?_eq_some_iff.1 hv).1; simpa using this)
  rw [this]; simpa using hv, h w hw⟩
theorem s_ldSA0 {Γ0 : List HProp} {α : Type} {a : Addr} {cs : List Value} {c : α → Value} {x : α} {k : α → K} (hn : ∀ w, Holds B Γ0 w → RdN w a cs.toArray) (hv : cs[0]? = some (c x)) (h : HG B Γ (k x)) : HG B Γ (LdS (Holds B Γ0) a c k) := by
  have := s_ldSA (off := 0) hn hv h
  rwa [add0] at this
theorem s_ldNSA {Γ0 : List HProp} {a : Addr} {n : Nat} {cs : List Value} {k : Array Value → K} (hn : ∀ w, Holds B Γ0 w → RdN w a cs.toArray) (hl : cs.length = n) (h : HG B Γ (k cs.toArray)) : HG B Γ (LdNS (Holds B Γ0) a n k) := fun w hw => ⟨cs.toArray, by simpa using hl, fun w' hw' => hn w' hw', h w hw⟩
/-- An element's place, in every state. -/
theorem s_idxFA {α : Type} (f : α → List Value) {esz : Nat} {L : List α} {s : Sl} {j : Nat} {jj : Int} {x : α} {k : Addr → K} (hf : ∀ x, (f x).length = esz) (he : 0 < esz) (hr : ∀ w, Holds B Γ w → RdC w s esz (L.flatMap f)) (hx : L[j]? = some x) (h : ∀ t, (∀ w, RdC w s esz (L.flatMap f) → RdN w t (f x).toArray) → HG B Γ (k t)) (hj : jj = (j : Int) := by first | rfl | omega) :
    HG B Γ (Idx s jj esz k) := fun w hw => by
  subst hj
  have hrw := hr w hw
  have hj : j < L.length := (List.getElem?_eq_some_iff.1 hx).1
  have hn : L.length = s.n := by
    have := hrw.len; rw [flatMap_len f esz hf] at this
    exact Nat.eq_of_mul_eq_mul_right he this
  cases ha : s.a with
  | none => have := hrw.nil ha; omega
  | some a =>
    refine ⟨a, _, ha, by omega, by omega, rfl, h _ (fun w' hw' => ?_) w hw⟩
    simp only [Int.toNat_natCast]
    exact flat_at f esz hf hw' ha hx
theorem rising05_hg {s : Sl} {L : List TX} {Q : Bool → K} (hL : L.length < 1000000000) (hr : ∀ w, Holds B Γ w → RdC w s 1 (L.map strV)) (h : HG B Γ (Q (decide (Rises L)))) : HG B Γ (ref05_Rising.call s Q) := fun w hw => by
  refine ref05_Rising_ok _ _ _ ?_
  have hn : s.n = L.length := by have := (hr w hw).len; simpa using this.symm
  refine Sep.hg hw ?_
  clear hw w
  unfold ref05_Rising
  refine s_loopC (α := Int) (fun x => ∃ i : Nat, x = (i : Int) ∧ 1 ≤ i ∧ i ≤ L.length + 1 ∧ Rises (L.take i)) (fun x => L.length + 1 - x.toNat) ⟨1, rfl, Nat.le_refl _, by omega, ?_⟩ fun k' x hx hk' => ?_
  · match L with
    | [] => exact List.Pairwise.nil
    | x :: L => exact List.pairwise_singleton _ _
  obtain ⟨i, rfl, hi1, hi, hp⟩ := hx
  unfold ref05_Rising.b1
  refine s_ite (fun hb => ?_) fun hb => ?_
  · have hil : i < L.length := by simp only [decide_eq_true_eq] at hb; omega
    obtain ⟨j, rfl⟩ : ∃ j, i = j + 1 := ⟨i - 1, by omega⟩
    have g1 : L[j]? = some L[j] := List.getElem?_eq_getElem (by omega)
    have g2 : L[j + 1]? = some L[j + 1] := List.getElem?_eq_getElem hil
    have t1 : L.take (j + 1) = L.take j ++ [L[j]] := List.take_succ_eq_append_getElem (by omega)
    have t2 : L.take (j + 1 + 1) = L.take (j + 1) ++ [L[j + 1]] := List.take_succ_eq_append_getElem hil
    have hpi : Rises L → L[j] < L[j + 1] := fun h => (List.pairwise_iff_getElem.1 h) j (j + 1) (by omega) hil (by omega)
    generalize L[j] = x at g1 t1 hpi
    generalize L[j + 1] = y at g2 t2 hpi
    refine s_dr ?_
    refine s_ai ?_
    refine s_idxS hr g1 ?_ (by omega)
    refine s_idxS hr g2 ?_ (by omega)
    rw [bs_list, bs_list, bytesLess_dec]
    refine s_ite (fun hc => ?_) fun hc => ?_
    · have hxy : ¬ x < y := by simpa using hc
      rw [show decide (Rises L) = false from decide_eq_false fun h => hxy (hpi h)] at h
      exact h
    · have hxy : x < y := by simpa using hc
      refine s_ai ?_
      refine hk' _ ⟨j + 2, by simp; omega, by omega, by omega, ?_⟩ (by omega)
      rw [show j + 2 = j + 1 + 1 from rfl, t2]
      refine List.pairwise_append.2 ⟨hp, List.pairwise_singleton _ _, fun a ha b hb => ?_⟩
      rw [List.mem_singleton.1 hb]
      rw [t1] at ha hp
      rcases List.mem_append.1 ha with ha | ha
      · exact List.lt_trans ((List.pairwise_append.1 hp).2.2 a ha x (by simp)) hxy
      · rw [List.mem_singleton.1 ha]; exact hxy
  · have hil : L.length ≤ i := by simp only [decide_eq_false_iff_not] at hb; omega
    rw [List.take_of_length_le hil] at hp
    rw [show decide (Rises L) = true from decide_eq_true hp] at h
    exact h
theorem op05_hg {t : TxX} {x : OpX} {Q : Bool → K} (hr : ∀ w, Holds B Γ w → txRd w t) (hl : t.reads.length < 100000000 ∧ t.writes.length < 100000000) (hx : ∀ w, Holds B Γ w → RdB w x.2 x.1.val) (h : HG B Γ (Q (opRight t x.1))) : HG B Γ (ref05_op.call (txL t).toArray (opF x).toArray Q) := fun w hw => by
  refine ref05_op_ok _ _ _ _ ?_
  have hxl : x.2.n = x.1.val.length := by have := (hx w hw).len; simpa using this.symm
  refine Sep.hg hw ?_
  clear hw w
  unfold ref05_op
  refine s_new fun t2 => ?_
  refine s_new fun o3 => ?_
  have fin : HG B (blk o3 (.cells (opF x).toArray ty_api_Op (0, 0)) :: blk t2 (.cells (txL t).toArray ty_api_Txn (0, 0)) :: Γ) (Q (opRight t x.1)) := s_end h
  generalize hR : opRight t x.1 = R at fin
  unfold opRight at hR
  have S4 : ∀ b, (b = true ↔ x.1.kind ≠ 6 ∧ x.1.n ≠ 0) → (if x.1.kind ≠ 6 ∧ x.1.n ≠ 0 then false else decide (x.1.kind = 2) || (decide (x.1.kind = 4) || decide (x.1.val.length = 0))) = R → HG B (blk o3 (.cells (opF x).toArray ty_api_Op (0, 0)) :: blk t2 (.cells (txL t).toArray ty_api_Txn (0, 0)) :: Γ) (ref05_op.s4 Q ⟨o3, 0, none⟩ b) := fun b hb hR => by
    unfold ref05_op.s4 ref05_op.s5
    refine s_ite (fun hb1 => ?_) fun hb1 => ?_
    · rw [if_pos (hb.1 hb1)] at hR
      rw [hR]; exact fin
    · rw [if_neg fun h => by rw [hb.2 h] at hb1; cases hb1] at hR
      repeat refine s_nx ?_
      refine s_ite (fun hc => ?_) fun hc => ?_
      · rw [hc] at hR
        rw [show true = R by rw [← hR]; rfl]; exact fin
      · repeat refine s_nx ?_
        rw [hc] at hR
        refine s_ite (fun hd => ?_) fun hd => ?_
        · rw [hd] at hR
          rw [show true = R by rw [← hR]; rfl]; exact fin
        · repeat refine s_nx ?_
          rw [hd] at hR
          rw [show decide ((x.2.n : Int) = 0) = R by rw [← hR, hxl]; simp only [Bool.false_or]; exact decide_eq_decide.2 (by omega)]
          exact fin
  have S3 : ∀ b, (b = true ↔ x.1.key ∉ t.writes ∧ (x.1.key ∉ t.reads ∨ x.1.kind = 2 ∨ x.1.kind = 3 ∨ x.1.kind = 6)) → (if x.1.key ∉ t.writes ∧ (x.1.key ∉ t.reads ∨ x.1.kind = 2 ∨ x.1.kind = 3 ∨ x.1.kind = 6) then false else if x.1.kind ≠ 6 ∧ x.1.n ≠ 0 then false else decide (x.1.kind = 2) || (decide (x.1.kind = 4) || decide (x.1.val.length = 0))) = R → HG B (blk o3 (.cells (opF x).toArray ty_api_Op (0, 0)) :: blk t2 (.cells (txL t).toArray ty_api_Txn (0, 0)) :: Γ) (ref05_op.s3 Q ⟨o3, 0, none⟩ b) := fun b hb hR => by
    unfold ref05_op.s3
    refine s_ite (fun hb1 => ?_) fun hb1 => ?_
    · rw [if_pos (hb.1 hb1)] at hR
      rw [hR]; exact fin
    · rw [if_neg fun h => by rw [hb.2 h] at hb1; cases hb1] at hR
      repeat refine s_nx ?_
      refine s_ite (fun hc => ?_) fun hc => ?_
      · have hc' : x.1.kind ≠ 6 := by simpa using hc
        repeat refine s_nx ?_
        exact S4 _ (by simp [hc']) hR
      · have hc' : x.1.kind = 6 := by simpa using hc
        exact S4 _ (by simp [hc']) hR
  have S1 : ∀ b, (b = true ↔ 32 < x.1.val.length ∨ x.1.kind < 1 ∨ 7 < x.1.kind) → HG B (blk o3 (.cells (opF x).toArray ty_api_Op (0, 0)) :: blk t2 (.cells (txL t).toArray ty_api_Txn (0, 0)) :: Γ) (ref05_op.s1 Q ⟨t2, 0, none⟩ ⟨o3, 0, none⟩ b) := fun b hb => by
    unfold ref05_op.s1 ref05_op.s2
    refine s_ite (fun hb1 => ?_) fun hb1 => ?_
    · rw [if_pos (hb.1 hb1)] at hR
      rw [hR]; exact fin
    · rw [if_neg fun h => by rw [hb.2 h] at hb1; cases hb1] at hR
      repeat refine s_nx ?_
      refine s_ite (fun hc => ?_) fun hc => ?_
      · have hc' : x.1.kind = 7 := by simpa using hc
        rw [if_pos hc'] at hR
        repeat refine s_nx ?_
        rw [bs_list]
        refine s_ite (fun hd => ?_) fun hd => ?_
        · have hd' : x.1.key = [] := by simpa using hd
          repeat refine s_nx ?_
          rw [show decide (x.1.n = 0) = R by rw [← hR, hd']; rfl]
          exact fin
        · have hd' : x.1.key ≠ [] := by simpa using hd
          rw [show false = R by rw [← hR, decide_eq_false hd']; rfl]
          exact fin
      · have hc' : x.1.kind ≠ 7 := by simpa using hc
        rw [if_neg hc'] at hR
        repeat refine s_nx ?_
        refine in05_hg (L := t.writes) (key := x.1.key) (by omega) (fun w hw => (hr w hw.drops).2.1) ?_
        by_cases hw1 : x.1.key ∈ t.writes
        · rw [decide_eq_true hw1]
          refine s_f ?_
          exact S3 _ (by simp [hw1]) hR
        rw [decide_eq_false hw1]
        refine s_t ?_
        repeat refine s_nx ?_
        refine in05_hg (L := t.reads) (key := x.1.key) (by omega) (fun w hw => (hr w hw.drops).1) ?_
        by_cases hr1 : x.1.key ∈ t.reads
        · rw [decide_eq_true hr1]
          refine s_f ?_
          repeat refine s_nx ?_
          refine s_ite (fun hd => ?_) fun hd => ?_
          · exact S3 _ (by have : x.1.kind = 2 := by simpa using hd
                           simp [hw1, this]) hR
          repeat refine s_nx ?_
          refine s_ite (fun he => ?_) fun he => ?_
          · exact S3 _ (by have : x.1.kind = 3 := by simpa using he
                           simp [hw1, this]) hR
          repeat refine s_nx ?_
          refine S3 _ ?_ hR
          have h2 : ¬ x.1.kind = 2 := by simpa using hd
          have h3 : ¬ x.1.kind = 3 := by simpa using he
          simp [hw1, hr1, h2, h3]
        · rw [decide_eq_false hr1]
          refine s_t ?_
          exact S3 _ (by simp [hw1, hr1]) hR
  repeat refine s_nx ?_
  refine s_ite (fun hb => ?_) fun hb => ?_
  · exact S1 _ (by have : 32 < x.1.val.length := by simp only [decide_eq_true_eq] at hb; omega
                   simp [this])
  have h32 : ¬ 32 < x.1.val.length := by simp only [decide_eq_false_iff_not] at hb; omega
  repeat refine s_nx ?_
  refine s_ite (fun hc => ?_) fun hc => ?_
  · exact S1 _ (by have : x.1.kind < 1 := by simpa using hc
                   simp [this])
  have h1 : ¬ x.1.kind < 1 := by simpa using hc
  repeat refine s_nx ?_
  refine S1 _ ?_
  simp [h32, h1]
theorem right05_hg {t : TxX} {n : Int} {Q : Bool → K} (hr : ∀ w, Holds B Γ w → txRd w t) (hl : t.reads.length < 10000000 ∧ t.writes.length < 10000000 ∧ t.ops.length < 10000000) (h : HG B Γ (Q (rightT n t))) : HG B Γ (ref05_Right.call (txL t).toArray n Q) := fun w hw => by
  refine ref05_Right_ok _ _ _ _ ?_
  obtain ⟨n1, n2, n3⟩ := tx_lens (hr w hw)
  refine Sep.hg hw ?_
  clear hw w
  unfold ref05_Right
  refine s_new fun t2 => ?_
  have fin : HG B (blk t2 (.cells (txL t).toArray ty_api_Txn (0, 0)) :: Γ) (Q (rightT n t)) := s_end h
  generalize hR : rightT n t = R at fin
  unfold rightT at hR
  have S1 : ∀ b, (b = true ↔ headBad n t) → HG B (blk t2 (.cells (txL t).toArray ty_api_Txn (0, 0)) :: Γ) (ref05_Right.s1 Q n ⟨t2, 0, none⟩ b) := fun b hb => by
    unfold ref05_Right.s1
    refine s_ite (fun hb1 => ?_) fun hb1 => ?_
    · rw [if_pos (hb.1 hb1)] at hR
      rw [hR]; exact fin
    rw [if_neg fun h => by rw [hb.2 h] at hb1; cases hb1] at hR
    refine s_dr ?_
    refine s_wsD [blk t2 (.cells (txL t).toArray ty_api_Txn (0, 0))] ?_
    repeat refine s_nx ?_
    refine s_new fun t9 => ?_
    refine s_conv (A' := SlC ty_string 1 ⟨some ⟨t9, 0, none⟩, 0, 0⟩ []) (blk_SlC (vs := []) rfl (by simp)) ?_
    repeat refine s_nx ?_
    refine s_append (s := ⟨some ⟨t9, 0, none⟩, 0, 0⟩) (us := t.reads.map strV) (fun w hw => (hr w hw.drops).1) (fun v hv => by obtain ⟨y, _, rfl⟩ := List.mem_map.1 hv; rfl) (by simp only; omega) fun a1 ha1 => ?_
    repeat refine s_nx ?_
    refine s_append (s := a1) (us := t.writes.map strV) (fun w hw => (hr w hw.drops).2.1) (fun v hv => by obtain ⟨y, _, rfl⟩ := List.mem_map.1 hv; rfl) (by simp only at ha1; omega) fun all hall => ?_
    rw [show [] ++ t.reads.map strV ++ t.writes.map strV = (t.reads ++ t.writes).map strV by simp]
    have hln : (t.reads ++ t.writes).length = t.reads.length + t.writes.length := List.length_append
    have halln : all.n = t.reads.length + t.writes.length := by simp only at ha1; omega
    have fin2 : HG B (SlS all (t.reads ++ t.writes) :: blk t2 (.cells (txL t).toArray ty_api_Txn (0, 0)) :: Γ) (Q R) := s_end fin
    refine s_loopC (α := Int) (fun x => ∃ i : Nat, x = (i : Int) ∧ i ≤ (t.reads ++ t.writes).length ∧ (∀ k ∈ (t.reads ++ t.writes).take i, 1 ≤ k.length ∧ k.length ≤ 16) ∧ ∀ k ∈ t.reads.take i, k ∉ t.writes) (fun x => (t.reads ++ t.writes).length - x.toNat) ⟨0, rfl, Nat.zero_le _, by simp, by simp⟩ fun k1 x hx hk1 => ?_
    obtain ⟨i, rfl, hi, hs1, hs2⟩ := hx
    unfold ref05_Right.b2
    refine s_ite (fun hc => ?_) fun hc => ?_
    · have hil : i < (t.reads ++ t.writes).length := by simp only [decide_eq_true_eq] at hc; omega
      have hge : (t.reads ++ t.writes)[i]? = some (t.reads ++ t.writes)[i] := List.getElem?_eq_getElem hil
      have hmem : (t.reads ++ t.writes)[i] ∈ t.reads ++ t.writes := List.getElem_mem hil
      have htk : (t.reads ++ t.writes).take (i + 1) = (t.reads ++ t.writes).take i ++ [(t.reads ++ t.writes)[i]] := List.take_succ_eq_append_getElem hil
      have hrt : t.reads.take (i + 1) = t.reads.take i ++ if i < t.reads.length then [(t.reads ++ t.writes)[i]] else [] := by
        by_cases hir : i < t.reads.length
        · rw [if_pos hir, List.take_succ_eq_append_getElem hir, List.getElem_append_left hir]
        · rw [if_neg hir, List.take_of_length_le (by omega), List.take_of_length_le (by omega), List.append_nil]
      generalize (t.reads ++ t.writes)[i] = x at hge hmem htk hrt
      have hsz : (bs x).size = x.length := rfl
      have S3 : ∀ b, (b = true ↔ (x.length < 1 ∨ 16 < x.length) ∨ (i < t.reads.length ∧ x ∈ t.writes)) → HG B (SlS all (t.reads ++ t.writes) :: blk t2 (.cells (txL t).toArray ty_api_Txn (0, 0)) :: Γ) (ref05_Right.s3 Q k1 n ⟨t2, 0, none⟩ all (i : Int) b) := fun b hb => by
        unfold ref05_Right.s3
        refine s_ite (fun hb1 => ?_) fun hb1 => ?_
        · have : keysBad t := by
            rcases hb.1 hb1 with h | ⟨h, h'⟩
            · exact .inl ⟨x, hmem, h⟩
            · refine .inr ⟨x, ?_, h'⟩
              rw [List.getElem?_append_left h] at hge
              exact List.mem_of_getElem? hge
          rw [if_pos this] at hR
          rw [hR]; exact fin2
        · have hnb : ¬ ((x.length < 1 ∨ 16 < x.length) ∨ (i < t.reads.length ∧ x ∈ t.writes)) := fun h => by rw [hb.2 h] at hb1; cases hb1
          refine s_ai ?_
          refine hk1 _ ⟨i + 1, by simp, hil, fun y hy => ?_, fun y hy => ?_⟩ (by omega)
          · rw [htk] at hy
            rcases List.mem_append.1 hy with hy | hy
            · exact hs1 y hy
            · rw [List.mem_singleton.1 hy]; omega
          · rw [hrt] at hy
            rcases List.mem_append.1 hy with hy | hy
            · exact hs2 y hy
            · split at hy
              · rename_i hir
                rw [List.mem_singleton.1 hy]
                exact fun hxw => hnb (.inr ⟨hir, hxw⟩)
              · cases hy
      refine s_dr ?_
      refine s_idxS (L := t.reads ++ t.writes) (fun w hw => (own_rd (s := all) hw).1) hge ?_
      refine s_ite (fun hd => ?_) fun hd => ?_
      · exact S3 _ (by have : x.length < 1 := by simp only [decide_eq_true_eq] at hd; omega
                       simp [this])
      refine s_idxS (L := t.reads ++ t.writes) (fun w hw => (own_rd (s := all) hw).1) hge ?_
      have hd' : ¬ x.length < 1 := by simp only [decide_eq_false_iff_not] at hd; omega
      refine s_ite (fun he => ?_) fun he => ?_
      · exact S3 _ (by have : 16 < x.length := by simp only [decide_eq_true_eq] at he; omega
                       simp [this])
      have he' : ¬ 16 < x.length := by simp only [decide_eq_false_iff_not] at he; omega
      repeat refine s_nx ?_
      refine s_ite (fun hf => ?_) fun hf => ?_
      · have hir : i < t.reads.length := by simp only [decide_eq_true_eq] at hf; omega
        refine s_idxFA (fun x : TX => [strV x]) (L := t.reads ++ t.writes) (esz := 1) (fun _ => rfl) (by omega) (fun w hw => by rw [flatMap_1]; exact (own_rd (s := all) hw).1) hge (fun t86 ht86 => ?_) rfl
        repeat refine s_nx ?_
        refine s_ldA0 (cs := [strV x]) (x := bs x) (fun w hw => ht86 w (by rw [flatMap_1]; exact (own_rd (s := all) hw).1)) rfl ?_
        refine in05_hg (L := t.writes) (key := x) (by omega) (fun w hw => (hr w hw.drops).2.1) ?_
        exact S3 _ (by rw [decide_eq_true_eq]; constructor
                       · exact fun h => .inr ⟨hir, h⟩
                       · rintro ((h | h) | h)
                         · exact absurd h hd'
                         · exact absurd h he'
                         · exact h.2)
      · have hir : ¬ i < t.reads.length := by simp only [decide_eq_false_iff_not] at hf; omega
        exact S3 _ (by constructor
                       · exact fun h => by cases h
                       · rintro ((h | h) | h)
                         · exact absurd h hd'
                         · exact absurd h he'
                         · exact absurd h.1 hir)
    have hil : i = (t.reads ++ t.writes).length := by simp only [decide_eq_false_iff_not] at hc; omega
    rw [hil, List.take_length] at hs1
    rw [List.take_of_length_le (by omega)] at hs2
    rw [if_neg (by
      rintro (⟨k, hk, h⟩ | ⟨k, hk, h⟩)
      · have := hs1 k hk; omega
      · exact hs2 k hk h)] at hR
    have S4 : ∀ b, b = R → HG B (SlS all (t.reads ++ t.writes) :: blk t2 (.cells (txL t).toArray ty_api_Txn (0, 0)) :: Γ) (ref05_Right.s4 Q k1 b) := fun b hb => by
      unfold ref05_Right.s4
      rw [hb]; exact fin2
    repeat refine s_nx ?_
    refine s_ite (fun hd => ?_) fun hd => ?_
    · have hk2 : t.kind = 2 := by simpa using hd
      rw [if_pos hk2] at hR
      repeat refine s_nx ?_
      refine s_ite (fun he => ?_) fun he => ?_
      rotate_left
      · refine S4 _ ?_
        rw [← hR, show decide (t.reads.length = 0) = false from decide_eq_false (by simp only [decide_eq_false_iff_not] at he; omega)]; rfl
      rw [show decide (t.reads.length = 0) = true from decide_eq_true (by simp only [decide_eq_true_eq] at he; omega), Bool.true_and] at hR
      repeat refine s_nx ?_
      refine s_ite (fun he2 => ?_) fun he2 => ?_
      rotate_left
      · refine S4 _ ?_
        rw [← hR, show decide (t.ops.length = 0) = false from decide_eq_false (by simp only [decide_eq_false_iff_not] at he2; omega)]; rfl
      rw [show decide (t.ops.length = 0) = true from decide_eq_true (by simp only [decide_eq_true_eq] at he2; omega), Bool.true_and] at hR
      repeat refine s_nx ?_
      refine s_ite (fun he3 => ?_) fun he3 => ?_
      rotate_left
      · refine S4 _ ?_
        rw [← hR, show decide (t.writes.length = 1) = false from decide_eq_false (by simp only [decide_eq_false_iff_not] at he3; omega)]; rfl
      rw [show decide (t.writes.length = 1) = true from decide_eq_true (by simp only [decide_eq_true_eq] at he3; omega), Bool.true_and] at hR
      repeat refine s_nx ?_
      refine s_ite (fun he4 => ?_) fun he4 => ?_
      rotate_left
      · refine S4 _ ?_
        rw [← hR, he4]; rfl
      rw [he4, Bool.true_and] at hR
      repeat refine s_nx ?_
      exact S4 _ hR
    have hk2 : ¬ t.kind = 2 := by simpa using hd
    rw [if_neg hk2] at hR
    have S5 : ∀ b, (b = true ↔ t.kind ≠ 1 ∨ t.to ≠ 0 ∨ 16 < t.ops.length) → HG B (SlS all (t.reads ++ t.writes) :: blk t2 (.cells (txL t).toArray ty_api_Txn (0, 0)) :: Γ) (ref05_Right.s5 Q k1 ⟨t2, 0, none⟩ b) := fun b hb => by
      unfold ref05_Right.s5
      refine s_ite (fun hb1 => ?_) fun hb1 => ?_
      · rw [if_pos (hb.1 hb1)] at hR
        rw [hR]; exact fin2
      rw [if_neg fun h => by rw [hb.2 h] at hb1; cases hb1] at hR
      refine s_loopC (α := Int) (fun x => ∃ i : Nat, x = (i : Int) ∧ i ≤ t.ops.length ∧ ((t.ops.take i).all fun x => opRight t x.1) = true) (fun x => t.ops.length - x.toNat) ⟨0, rfl, Nat.zero_le _, by simp⟩ fun k6 x hx hk6 => ?_
      obtain ⟨m, rfl, hm, hs3⟩ := hx
      unfold ref05_Right.b6
      repeat refine s_nx ?_
      refine s_ite (fun hc6 => ?_) fun hc6 => ?_
      · have hml : m < t.ops.length := by simp only [decide_eq_true_eq] at hc6; omega
        have hge : t.ops[m]? = some t.ops[m] := List.getElem?_eq_getElem hml
        have hmem : t.ops[m] ∈ t.ops := List.getElem_mem hml
        have htk : t.ops.take (m + 1) = t.ops.take m ++ [t.ops[m]] := List.take_succ_eq_append_getElem hml
        generalize t.ops[m] = x at hge hmem htk
        repeat refine s_nx ?_
        refine s_idxN opF opF_len (fun w hw => (hr w hw.drops).2.2.1) hge ?_
        refine op05_hg (t := t) (x := x) (fun w hw => hr w hw.drops) ⟨by omega, by omega⟩ (fun w hw => (hr w hw.drops).2.2.2 x hmem) ?_
        by_cases ho : opRight t x.1 = true
        · rw [ho]
          refine s_f ?_
          refine s_ai ?_
          refine hk6 _ ⟨m + 1, by simp, hml, ?_⟩ (by omega)
          rw [htk, List.all_append, hs3]; simpa using ho
        · have ho' : opRight t x.1 = false := by simpa using ho
          rw [ho']
          refine s_t ?_
          rw [show false = R by rw [← hR]; symm; rw [List.all_eq_false]; exact ⟨x, hmem, by simpa using ho'⟩]
          exact fin2
      · have hml : m = t.ops.length := by simp only [decide_eq_false_iff_not] at hc6; omega
        rw [hml, List.take_length] at hs3
        rw [show true = R by rw [← hR, hs3]]
        exact fin2
    repeat refine s_nx ?_
    refine s_ite (fun he => ?_) fun he => ?_
    · exact S5 _ (by have : t.kind ≠ 1 := by simpa using he
                     simp [this])
    have hk1' : t.kind = 1 := by simpa using he
    repeat refine s_nx ?_
    refine s_ite (fun hf => ?_) fun hf => ?_
    · exact S5 _ (by have : t.to ≠ 0 := by simpa using hf
                     simp [this])
    have hto : t.to = 0 := by simpa using hf
    repeat refine s_nx ?_
    refine S5 _ ?_
    simp [hk1', hto]
    omega
  refine s_ite (fun hb => S1 _ (by have : n < 1 := by simpa using hb
                                   simp [headBad, this])) fun hb => ?_
  have hn1 : ¬ n < 1 := by simpa using hb
  refine s_ite (fun hb => S1 _ (by have : 3 < n := by simpa using hb
                                   simp [headBad, this])) fun hb => ?_
  have hn3 : ¬ 3 < n := by simpa using hb
  repeat refine s_nx ?_
  refine rising05_hg (L := t.reads) (by omega) (fun w hw => (hr w hw.drops).1) ?_
  by_cases hr1 : Rises t.reads
  rotate_left
  · rw [decide_eq_false hr1]
    exact s_t (S1 _ (by simp [headBad, hr1]))
  rw [decide_eq_true hr1]
  refine s_f ?_
  repeat refine s_nx ?_
  refine rising05_hg (L := t.writes) (by omega) (fun w hw => (hr w hw.drops).2.1) ?_
  by_cases hr2 : Rises t.writes
  rotate_left
  · rw [decide_eq_false hr2]
    exact s_t (S1 _ (by simp [headBad, hr2]))
  rw [decide_eq_true hr2]
  refine s_f ?_
  repeat refine s_nx ?_
  refine s_ite (fun hb => S1 _ (by have : 8 < t.reads.length := by simp only [decide_eq_true_eq] at hb; omega
                                   simp [headBad, this])) fun hb => ?_
  have h8 : ¬ 8 < t.reads.length := by simp only [decide_eq_false_iff_not] at hb; omega
  repeat refine s_nx ?_
  refine s_ite (fun hb => S1 _ (by have : 8 < t.writes.length := by simp only [decide_eq_true_eq] at hb; omega
                                   simp [headBad, this])) fun hb => ?_
  have h9 : ¬ 8 < t.writes.length := by simp only [decide_eq_false_iff_not] at hb; omega
  repeat refine s_nx ?_
  refine s_ar (e' := (t.reads.length + t.writes.length : Int)) (by rw [wrap64 (by omega) (by omega)]; omega) ?_
  refine S1 _ ?_
  simp only [headBad, hn1, hn3, hr1, hr2, h8, h9, not_true, false_or, decide_eq_true_eq]
  omega
end
end Go.Proofs.Ytfjjocopmknhgaa
/- The document's Same of results and of rows, where they are one. -/
namespace Go.Proofs.Ytfjjocopmknhgaa
open Go Go.Sep Go.Sep.Bt
set_option linter.unusedSimpArgs false
set_option linter.unusedVariables false
set_option maxRecDepth 100000
section
variable {B : World} {Γ Δ : List HProp} {Q : Bool → K}
theorem sameRec_hg {r : Rec} {a b : Sl} (ha : ∀ w, Holds B Γ w → RdB w a r.val) (hb : ∀ w, Holds B Γ w → RdB w b r.val) (h : HG B Γ (Q true)) : HG B Γ (ref06_SameRecord.call (recL r a).toArray (recL r b).toArray Q) := fun w hw => by
  refine ref06_SameRecord_ok _ _ _ _ ?_
  refine Sep.hg hw ?_
  clear hw w
  unfold ref06_SameRecord
  refine s_new fun a2 => ?_
  refine s_new fun b3 => ?_
  repeat refine s_nx ?_
  refine s_t ?_ (by simp)
  repeat refine s_nx ?_
  refine s_str (xs := r.val) (fun w hw => ha w hw.drops) ?_
  repeat refine s_nx ?_
  refine s_str (xs := r.val) (fun w hw => hb w hw.drops) ?_
  refine s_t ?_ (by simp)
  repeat refine s_nx ?_
  refine s_t ?_ (by simp)
  repeat refine s_nx ?_
  unfold ref06_SameRecord.s1
  rw [show decide (r.cnt = r.cnt) = true by simp]
  exact s_end h
/-- Two lists of rows that are one. -/
theorem same6_hg {a b : Sl} {X Y : List RecX} (hX : X.length < 100000000) (hXY : X.map recM = Y.map recM) (ha : ∀ w, Holds B Γ w → RdC w a 5 (X.flatMap rowF6)) (hb : ∀ w, Holds B Γ w → RdC w b 5 (Y.flatMap rowF6))
    (hva : ∀ x ∈ X, ∀ w, Holds B Γ w → RdB w x.2.2 x.2.1.val) (hvb : ∀ x ∈ Y, ∀ w, Holds B Γ w → RdB w x.2.2 x.2.1.val) (h : HG B Γ (Q true)) : HG B Γ (ref06_Same.call a b Q) := fun w hw => by
  refine ref06_Same_ok _ _ _ _ ?_
  have han := rd_len rowF6_len (by omega) (ha w hw)
  have hbn := rd_len rowF6_len (by omega) (hb w hw)
  have hlen : X.length = Y.length := by have := congrArg List.length hXY; simpa using this
  refine Sep.hg hw ?_
  clear hw w
  unfold ref06_Same
  refine s_f ?_ (by simp; omega)
  refine s_loopC (α := Int) (fun x => ∃ i : Nat, x = (i : Int) ∧ i ≤ X.length) (fun x => X.length - x.toNat) ⟨0, rfl, Nat.zero_le _⟩ fun k' x hx hk' => ?_
  obtain ⟨i, rfl, hi⟩ := hx
  unfold ref06_Same.b1
  refine s_ite (fun hc => ?_) fun hc => h
  have hil : i < X.length := by simp only [decide_eq_true_eq] at hc; omega
  have g1 : X[i]? = some X[i] := List.getElem?_eq_getElem hil
  have g2 : Y[i]? = some Y[i] := List.getElem?_eq_getElem (by omega)
  have m1 : X[i] ∈ X := List.getElem_mem hil
  have m2 : Y[i] ∈ Y := List.getElem_mem (by omega)
  have he : recM X[i] = recM Y[i] := by
    have := congrArg (·[i]?) hXY
    simp only [List.getElem?_map, g1, g2, Option.map_some, Option.some.injEq] at this
    exact this
  generalize X[i] = x at g1 m1 he
  generalize Y[i] = y at g2 m2 he
  obtain ⟨xk, xr, xs⟩ := x
  obtain ⟨yk, yr, ys⟩ := y
  obtain ⟨rfl, rfl⟩ : xk = yk ∧ xr = yr := by simpa using he
  refine s_dr ?_
  refine s_idxFA rowF6 rowF6_len (by omega) ha g1 fun t1 ht1 => ?_
  refine s_idxFA rowF6 rowF6_len (by omega) hb g2 fun t2 ht2 => ?_
  refine s_ldA0 (cs := rowF6 (xk, xr, xs)) (x := xk) (fun w hw => ht1 w (ha w hw)) rfl ?_
  refine s_ldA0 (cs := rowF6 (xk, xr, ys)) (x := xk) (fun w hw => ht2 w (hb w hw)) rfl ?_
  refine s_f ?_ (by simp)
  refine s_idxFA rowF6 rowF6_len (by omega) ha g1 fun t3 ht3 => ?_
  refine s_idxFA rowF6 rowF6_len (by omega) hb g2 fun t4 ht4 => ?_
  have part : ∀ {t : Addr} {z : RecX} {s : Sl} {Z : List RecX} {k : Array Value → K}, (∀ w, RdC w s 5 (Z.flatMap rowF6) → RdN w t (rowF6 z).toArray) → (∀ w, Holds B Γ w → RdC w s 5 (Z.flatMap rowF6)) → HG B Γ (k (recL z.2.1 z.2.2).toArray) → HG B Γ (LdN (t.add 1) 4 k) := fun {t z s Z k} ht hz hk w hw => ⟨_, rfl, fun i hi => by
    have := ht w (hz w hw) (1 + i) (by simp at hi ⊢; omega)
    have e : (t.add 1).add i = t.add (1 + i) := by simp [Addr.add, Nat.add_assoc]
    rw [e, this]
    simp [Nat.add_comm 1 i], hk w hw⟩
  refine part (z := (xk, xr, xs)) ht3 ha ?_
  refine part (z := (xk, xr, ys)) ht4 hb ?_
  refine sameRec_hg (hva _ m1) (hvb _ m2) ?_
  unfold ref06_Same.s2
  refine s_f ?_
  refine s_ai ?_
  exact hk' _ ⟨i + 1, by simp, hil⟩ (by omega)
/-- Two results that are one. -/
theorem same7_hg {a b : Sl} {c : Int} {X Y : OX} (hX : X.length < 100000000) (hXY : X.map Prod.fst = Y.map Prod.fst) (ha : ∀ w, Holds B Γ w → RdC w a 2 (X.flatMap oF)) (hb : ∀ w, Holds B Γ w → RdC w b 2 (Y.flatMap oF))
    (hva : ∀ x ∈ X, ∀ w, Holds B Γ w → RdB w x.2 x.1.2) (hvb : ∀ x ∈ Y, ∀ w, Holds B Γ w → RdB w x.2 x.1.2) (h : HG B Γ (Q true)) : HG B Γ (ref07_Same.call #[.int .i64 c, a.val] #[.int .i64 c, b.val] Q) := fun w hw => by
  refine ref07_Same_ok _ _ _ _ ?_
  have han := rd_len oF_len (by omega) (ha w hw)
  have hbn := rd_len oF_len (by omega) (hb w hw)
  have hlen : X.length = Y.length := by have := congrArg List.length hXY; simpa using this
  refine Sep.hg hw ?_
  clear hw w
  unfold ref07_Same
  refine s_new fun a2 => ?_
  refine s_new fun b3 => ?_
  repeat refine s_nx ?_
  refine s_f ?_ (by simp)
  repeat refine s_nx ?_
  rw [show decide ((a.n : Int) ≠ (b.n : Int)) = false by simp; omega]
  unfold ref07_Same.s1
  refine s_f ?_
  refine s_loopC (α := Int) (fun x => ∃ i : Nat, x = (i : Int) ∧ i ≤ X.length) (fun x => X.length - x.toNat) ⟨0, rfl, Nat.zero_le _⟩ fun k' x hx hk' => ?_
  obtain ⟨i, rfl, hi⟩ := hx
  unfold ref07_Same.b2
  repeat refine s_nx ?_
  refine s_ite (fun hc => ?_) fun hc => s_end h
  have hil : i < X.length := by simp only [decide_eq_true_eq] at hc; omega
  have g1 : X[i]? = some X[i] := List.getElem?_eq_getElem hil
  have g2 : Y[i]? = some Y[i] := List.getElem?_eq_getElem (by omega)
  have m1 : X[i] ∈ X := List.getElem_mem hil
  have m2 : Y[i] ∈ Y := List.getElem_mem (by omega)
  have he : X[i].1 = Y[i].1 := by
    have := congrArg (·[i]?) hXY
    simp only [List.getElem?_map, g1, g2, Option.map_some, Option.some.injEq] at this
    exact this
  generalize X[i] = x at g1 m1 he
  generalize Y[i] = y at g2 m2 he
  obtain ⟨⟨x1, x2⟩, xs⟩ := x
  obtain ⟨⟨y1, y2⟩, ys⟩ := y
  obtain ⟨rfl, rfl⟩ : x1 = y1 ∧ x2 = y2 := by simpa using he
  repeat refine s_nx ?_
  refine s_idxF0 oF (c := Value.bool) (v := x1) oF_len (fun w hw => ha w hw.drops) g1 rfl ?_
  repeat refine s_nx ?_
  refine s_idxF0 oF (c := Value.bool) (v := x1) oF_len (fun w hw => hb w hw.drops) g2 rfl ?_
  refine s_f ?_ (by simp)
  repeat refine s_nx ?_
  refine s_idxF1 oF (off := 1) (c := Sl.val) (v := xs) oF_len (fun w hw => ha w hw.drops) g1 rfl ?_
  refine s_str (xs := x2) (fun w hw => hva _ m1 w hw.drops) ?_
  repeat refine s_nx ?_
  refine s_idxF1 oF (off := 1) (c := Sl.val) (v := ys) oF_len (fun w hw => hb w hw.drops) g2 rfl ?_
  refine s_str (xs := x2) (fun w hw => hvb _ m2 w hw.drops) ?_
  unfold ref07_Same.s3
  refine s_f ?_ (by simp)
  refine s_ai ?_
  exact hk' _ ⟨i + 1, by simp, hil⟩ (by omega)
end
theorem rows_rec (R : WX) : R.flatMap rowF = (R.map fun x => ((bs x.1, x.2) : RecX)).flatMap rowF6 := by
  rw [List.flatMap_map]; rfl
end Go.Proofs.Ytfjjocopmknhgaa
/- A transaction that a law is given can be read. -/
namespace Go.Proofs.Ytfjjocopmknhgaa
open Go Go.Sep Go.RowKit
set_option linter.unusedSimpArgs false
set_option linter.unusedVariables false
theorem flatMap1 {α β : Type} (f : α → β) (L : List α) : L.flatMap (fun x => [f x]) = L.map f := by induction L <;> simp_all
theorem rdy_op {w : World} {cs : List Value} (hc : cs.length = 4) (y : Rdy w (.fld 0 1 (.int .i64) (.fld 1 1 .str (.fld 2 1 (.sl (.int .u8) 1) (.fld 3 1 (.int .i64) .nil)))) cs) :
    ∃ x : OpX, cs = opF x ∧ RdB w x.2 x.1.val ∧ -9223372036854775808 ≤ x.1.n ∧ x.1.n ≤ 9223372036854775807 := by
  match cs, hc with
  | [a, b, c, d], _ =>
    obtain ⟨⟨x0, e0, _⟩, ⟨x1, e1, _⟩, ⟨s, e2, _, _, h1, h2⟩, ⟨x3, e3, w3⟩, _⟩ := y
    cases e0; cases e1; cases e2; cases e3
    simp [Lit.wf, IntKind.min, IntKind.max, IntKind.signed, IntKind.bits] at w3
    obtain ⟨xs, _, h3⟩ := rd_bytes h1 h2
    obtain ⟨l, rfl⟩ := bs_of x1
    exact ⟨(⟨x0, l, xs, x3⟩, s), rfl, h3, by simp only; omega⟩
theorem rdy_texts {w : World} {s : Sl} (h1 : s.a = none → s.n = 0 ∧ s.c = 0) (h2 : ∀ a i, s.a = some a → i < s.n → ∃ cs', cs'.length = 1 ∧ (∀ j, j < 1 → w.cell? (a.add (i * 1 + j)) = cs'[j]?) ∧ Rdy w .str cs') : ∃ L : List (List UInt8), RdC w s 1 (L.map strV) := by
  obtain ⟨L, _, hL, _⟩ := rd_list (fun x : List UInt8 => [strV x]) (fun _ => True) (fun _ => rfl) h1 h2 fun cs hc hr => by
    obtain ⟨b, rfl, _⟩ := hr
    obtain ⟨x, rfl⟩ := bs_of b
    exact ⟨x, rfl, trivial⟩
  exact ⟨L, by rw [flatMap1] at hL; exact hL⟩
theorem rdy_txn {w : World} {cs : Array Value} (hc : cs.size = 5) (y : Rdy w Sh_ty_api_Txn (Value.agg cs).cells.toList) : ∃ t : TxX, cs = (txL t).toArray ∧ txRd w t ∧ ∀ x ∈ t.ops, -9223372036854775808 ≤ x.1.n ∧ x.1.n ≤ 9223372036854775807 := by
  obtain ⟨l⟩ := cs
  match l, hc with
  | [a, b, c, d, e], _ =>
    obtain ⟨⟨x0, e0, _⟩, ⟨rs, e1, _, _, r1, r2⟩, ⟨ws, e2, _, _, w1, w2⟩, ⟨os, e3, _, _, o1, o2⟩, ⟨x4, e4, _⟩, _⟩ := y
    cases e0; cases e1; cases e2; cases e3; cases e4
    obtain ⟨R, hR⟩ := rdy_texts r1 r2
    obtain ⟨S, hS⟩ := rdy_texts w1 w2
    obtain ⟨O, _, hO, hd⟩ := rd_list opF (fun x => RdB w x.2 x.1.val ∧ -9223372036854775808 ≤ x.1.n ∧ x.1.n ≤ 9223372036854775807) opF_len o1 o2 fun cs hc hr => rdy_op hc hr
    exact ⟨⟨x0, R, S, O, x4, rs, ws, os⟩, rfl, ⟨hR, hS, hO, fun x hx => (hd x hx).1⟩, fun x hx => (hd x hx).2⟩
theorem txRd_old {B w : World} {Γ : List HProp} {t : TxX} (h : txRd B t) (hw : Holds B Γ w) : txRd w t := ⟨h.1.old hw, h.2.1.old hw, h.2.2.1.old hw, fun x hx => (h.2.2.2 x hx).old hw⟩
end Go.Proofs.Ytfjjocopmknhgaa
/- Plain forms of functions, and that their code comes to them (package law07_EvalAtomic). -/
namespace Go.Proofs.Ytfjjocopmknhgaa
open Go Go.Sep
set_option linter.unusedVariables false
set_option linter.unusedSimpArgs false
set_option maxRecDepth 100000
set_option maxHeartbeats 4000000
attribute [local irreducible] G Gp Cx Tx Ex Sx Dx Ox Ax Lx Rx Fx Bx Bj Al Do Ld LdN St StN New CallF Ar DoU Rd Rd2 Pu Cd Ite Fv CallV CallY Ans0 Ans1 Ans2 Ans3 Ans4 Ans5 Ext Dead Dr WithS Sv LdS LdNS RdS Rd2S Nn Idx IdxA IdxS Fld Bld Slc SlcS Cat All LoopK RangeF RangeJ TakeD
namespace F_IRLaw07EvalAtomic
instance at_50 : AT Try.prog 50 5 := ⟨by kernel_rfl⟩
instance at_81 : AT Try.prog 81 5 := ⟨by kernel_rfl⟩
instance at_84 : AT Try.prog 84 4 := ⟨by kernel_rfl⟩
instance cb_14 : CB Try.prog 14 := ⟨by kernel_rfl⟩
instance cb_17 : CB Try.prog 17 := ⟨by kernel_rfl⟩
instance cb_22 : CB Try.prog 22 := ⟨by kernel_rfl⟩
instance cb_32 : CB Try.prog 32 := ⟨by kernel_rfl⟩
instance cb_33 : CB Try.prog 33 := ⟨by kernel_rfl⟩
instance cb_34 : CB Try.prog 34 := ⟨by kernel_rfl⟩
instance cb_35 : CB Try.prog 35 := ⟨by kernel_rfl⟩
instance cb_36 : CB Try.prog 36 := ⟨by kernel_rfl⟩
instance ct_26 : CT Try.prog 26 := ⟨by kernel_rfl⟩
instance ct_3 : CT Try.prog 3 := ⟨by kernel_rfl⟩
instance ct_34 : CT Try.prog 34 := ⟨by kernel_rfl⟩
instance ct_47 : CT Try.prog 47 := ⟨by kernel_rfl⟩
instance ct_48 : CT Try.prog 48 := ⟨by kernel_rfl⟩
instance ct_74 : CT Try.prog 74 := ⟨by kernel_rfl⟩
instance ct_9 : CT Try.prog 9 := ⟨by kernel_rfl⟩
instance ft_36_2 : FT Try.prog 36 2 2 1 := ⟨by kernel_rfl⟩
instance ft_36_3 : FT Try.prog 36 3 3 1 := ⟨by kernel_rfl⟩
instance ft_50_0 : FT Try.prog 50 0 0 1 := ⟨by kernel_rfl⟩
instance ft_50_2 : FT Try.prog 50 2 2 1 := ⟨by kernel_rfl⟩
instance ft_50_3 : FT Try.prog 50 3 3 1 := ⟨by kernel_rfl⟩
instance ft_50_4 : FT Try.prog 50 4 4 1 := ⟨by kernel_rfl⟩
instance ft_76_0 : FT Try.prog 76 0 0 1 := ⟨by kernel_rfl⟩
instance ft_76_1 : FT Try.prog 76 1 1 1 := ⟨by kernel_rfl⟩
instance ft_81_0 : FT Try.prog 81 0 0 1 := ⟨by kernel_rfl⟩
instance ft_81_1 : FT Try.prog 81 1 1 4 := ⟨by kernel_rfl⟩
instance ft_84_0 : FT Try.prog 84 0 0 1 := ⟨by kernel_rfl⟩
instance mx : MX Try.prog := ⟨mixed⟩
instance sl_48 : SLT Try.prog 48 84 4 := ⟨by kernel_rfl⟩
instance sl_74 : SLT Try.prog 74 118 2 := ⟨by kernel_rfl⟩
instance sl_77 : SLT Try.prog 77 81 5 := ⟨by kernel_rfl⟩
instance sz_36 : SZ Try.prog 36 4 := ⟨by kernel_rfl⟩
instance sz_76 : SZ Try.prog 76 2 := ⟨by kernel_rfl⟩
instance sz_81 : SZ Try.prog 81 5 := ⟨by kernel_rfl⟩
instance sz_84 : SZ Try.prog 84 4 := ⟨by kernel_rfl⟩
instance un_25 : UN Try.prog 25 (.pointer 112) := ⟨Try.underlying25⟩
instance zt_36 : ZT Try.prog 36 (.agg #[(.bool false), (Sl.val ⟨none, 0, 0⟩), (.int .i64 0), (.int .u64 0)]) := ⟨Try.t36, by kernel_rfl, by kernel_rfl⟩
instance zt_76 : ZT Try.prog 76 (.agg #[(.int .i64 0), (Sl.val ⟨none, 0, 0⟩)]) := ⟨Try.t76, by kernel_rfl, by kernel_rfl⟩
instance zt_81 : ZT Try.prog 81 (.agg #[(.string ⟨#[]⟩), (.bool false), (Sl.val ⟨none, 0, 0⟩), (.int .i64 0), (.int .u64 0)]) := ⟨Try.t81, by kernel_rfl, by kernel_rfl⟩
instance zt_84 : ZT Try.prog 84 (.agg #[(.int .i64 0), (.string ⟨#[]⟩), (Sl.val ⟨none, 0, 0⟩), (.int .i64 0)]) := ⟨Try.t84, by kernel_rfl, by kernel_rfl⟩
end F_IRLaw07EvalAtomic
def law07_EvalAtomic.s2 (Q : Bool → K)  (t4_2 : Bool) : K :=
  Q t4_2
def law07_EvalAtomic.s5 (Q : Bool → K) (X3 : Int → K) (t3_5 : Addr) (s5_5 : (Option Addr)) (r7_5 : Addr) (w8_5 : Sl) (t64_5 : Sl) (t65_5 : Int) (t66_5 : Int) (t136_5 : Bool) : K :=
  Ite t136_5
    (Q false)
    (Ar (IntKind.wrap .i64 (t66_5 + 1)) fun t137 =>
    X3 t137)
def law07_EvalAtomic.s4 (Q : Bool → K) (X3 : Int → K) (t3_4 : Addr) (s5_4 : (Option Addr)) (r7_4 : Addr) (w8_4 : Sl) (x10_4 : Addr) (t64_4 : Sl) (t65_4 : Int) (t66_4 : Int) (t91_4 : Bool) : K :=
  Ite t91_4
    (Q false)
    (Ld x10_4 Value.string fun t94 =>
    store_Store_Get.call s5_4 t94 fun t95 =>
    New 36 #[(.bool false), (Sl.val ⟨none, 0, 0⟩), (.int .i64 0), (.int .u64 0)] fun old11 =>
    StN old11 4 t95 <|
    Ld t3_4 (Value.int .i64) fun t97 =>
    Ite (decide (t97 = 2))
      (Ld ((x10_4.add 1).add 2) (Value.int .i64) fun t103 =>
      Ld (t3_4.add 4) (Value.int .i64) fun t105 =>
      Ite (decide (t103 ≠ t105))
        (law07_EvalAtomic.s5 Q X3 t3_4 s5_4 r7_4 w8_4 t64_4 t65_4 t66_4 true)
        (Ld ((x10_4.add 1).add 3) (Value.int .u64) fun t110 =>
        Ld (old11.add 3) (Value.int .u64) fun t112 =>
        Ar (IntKind.wrap .u64 (t112 + 1)) fun t113 =>
        Ite (decide (t110 ≠ t113))
          (law07_EvalAtomic.s5 Q X3 t3_4 s5_4 r7_4 w8_4 t64_4 t65_4 t66_4 true)
          (law07_EvalAtomic.s5 Q X3 t3_4 s5_4 r7_4 w8_4 t64_4 t65_4 t66_4 false)))
      (Ld ((x10_4.add 1).add 2) (Value.int .i64) fun t123 =>
      Ld (old11.add 2) (Value.int .i64) fun t125 =>
      Ite (decide (t123 ≠ t125))
        (law07_EvalAtomic.s5 Q X3 t3_4 s5_4 r7_4 w8_4 t64_4 t65_4 t66_4 true)
        (Ld ((x10_4.add 1).add 3) (Value.int .u64) fun t130 =>
        Ld (old11.add 3) (Value.int .u64) fun t132 =>
        law07_EvalAtomic.s5 Q X3 t3_4 s5_4 r7_4 w8_4 t64_4 t65_4 t66_4 (decide (t130 ≠ t132)))))
def law07_EvalAtomic.s7 (Q : Bool → K) (X3 : Int → K) (X6 : Int → Int → K) (r7_7 : Addr) (outs13_7 : Int) (t139_7 : Sl) (t140_7 : Int) (t141_7 : Int) : K :=
  Ar (IntKind.wrap .i64 (t141_7 + 1)) fun t155 =>
  X6 outs13_7 t155
def law07_EvalAtomic.s8 (Q : Bool → K) (X3 : Int → K) (X6 : Int → Int → K) (r7_8 : Addr) (outs13_8 : Int) (t139_8 : Sl) (t140_8 : Int) (t141_8 : Int) (t152_8 : Bool) : K :=
  Ite t152_8
    (Ar (IntKind.wrap .i64 (outs13_8 + 1)) fun t154 =>
    law07_EvalAtomic.s7 Q X3 X6 r7_8 t154 t139_8 t140_8 t141_8)
    (law07_EvalAtomic.s7 Q X3 X6 r7_8 outs13_8 t139_8 t140_8 t141_8)
def law07_EvalAtomic.b6 (Q : Bool → K) (X3 : Int → K) (X6 : Int → Int → K) (r7_6 : Addr) (t139_6 : Sl) (t140_6 : Int) (outs13_6 : Int) (t141_6 : Int) : K :=
  Ite (decide (t141_6 < t140_6))
    (Idx t139_6 t141_6 4 fun t143 =>
    LdN t143 4 fun t144 =>
    New 84 #[(.int .i64 0), (.string ⟨#[]⟩), (Sl.val ⟨none, 0, 0⟩), (.int .i64 0)] fun o15 =>
    StN o15 4 t144 <|
    Ld o15 (Value.int .i64) fun t146 =>
    Ite (decide (t146 = 1))
      (law07_EvalAtomic.s8 Q X3 X6 r7_6 outs13_6 t139_6 t140_6 t141_6 true)
      (Ld o15 (Value.int .i64) fun t150 =>
      law07_EvalAtomic.s8 Q X3 X6 r7_6 outs13_6 t139_6 t140_6 t141_6 (decide (t150 = 7))))
    (Ld (r7_6.add 1) Sl.val fun t157 =>
    Q (decide ((t157.n : Int) = outs13_6)))
def law07_EvalAtomic.b3 (Q : Bool → K)  (X3 : Int → K) (t3_3 : Addr) (s5_3 : (Option Addr)) (r7_3 : Addr) (w8_3 : Sl) (t64_3 : Sl) (t65_3 : Int) (t66_3 : Int) : K :=
  Ite (decide (t66_3 < t65_3))
    (Idx t64_3 t66_3 5 fun t69 =>
    LdN t69 5 fun t70 =>
    New 81 #[(.string ⟨#[]⟩), (.bool false), (Sl.val ⟨none, 0, 0⟩), (.int .i64 0), (.int .u64 0)] fun x10 =>
    StN x10 5 t70 <|
    Dr <| WithS fun S =>
    LdS S (t3_3.add 2) Sl.val fun t72 =>
    LdS S x10 Value.string fun t74 =>
    ref05_In.call t72 t74 fun t75 =>
    Sv S <|
    Ite (!t75)
      (law07_EvalAtomic.s4 Q X3 t3_3 s5_3 r7_3 w8_3 x10 t64_3 t65_3 t66_3 true)
      (Ite (decide ((0 : Int) < t66_3))
        (Ar (IntKind.wrap .i64 (t66_3 - 1)) fun t83 =>
        Idx w8_3 t83 5 fun t84 =>
        LdS S t84 Value.string fun t86 =>
        LdS S x10 Value.string fun t88 =>
        law07_EvalAtomic.s4 Q X3 t3_3 s5_3 r7_3 w8_3 x10 t64_3 t65_3 t66_3 (!(Op.bytesLess t86.toList t88.toList)))
        (law07_EvalAtomic.s4 Q X3 t3_3 s5_3 r7_3 w8_3 x10 t64_3 t65_3 t66_3 false)))
    (Ld (t3_3.add 3) Sl.val fun t139 =>
    LoopK (α := Int × Int) (fun X x => law07_EvalAtomic.b6 Q X3 (fun outs13_6 t141_6 => X (outs13_6, t141_6)) r7_3 t139 (t139.n : Int) x.1 x.2) (0, 0))
def law07_EvalAtomic.s1 (Q : Bool → K)  (cells0_1 : Sl) (t3_1 : Addr) (t28_1 : Bool) : K :=
  Ite t28_1
    (Q true)
    (law07_filled.call cells0_1 fun t31x0 t31x1 =>
    Ite ((t31x0).isNone)
      (Q false)
      (LdN t3_1 5 fun t38 =>
      eval_Run.call t31x0 t38 fun t39x0 t39x1 =>
      New 76 #[(.int .i64 0), (Sl.val ⟨none, 0, 0⟩)] fun r7 =>
      StN r7 2 t39x0 <|
      Ld r7 (Value.int .i64) fun t43 =>
      Ite (decide (t43 ≠ 0))
        (Ld r7 (Value.int .i64) fun t46 =>
        Ite (decide (t46 = 110))
          (Ld (r7.add 1) Sl.val fun t55 =>
          Ite (decide ((t55.n : Int) = 0))
            (law07_EvalAtomic.s2 Q (decide ((t39x1.n : Int) = 0)))
            (law07_EvalAtomic.s2 Q false))
          (Ld r7 (Value.int .i64) fun t50 =>
          Ite (decide (t50 = 111))
            (Ld (r7.add 1) Sl.val fun t55 =>
            Ite (decide ((t55.n : Int) = 0))
              (law07_EvalAtomic.s2 Q (decide ((t39x1.n : Int) = 0)))
              (law07_EvalAtomic.s2 Q false))
            (law07_EvalAtomic.s2 Q false)))
        (LoopK (α := Int) (fun X x => law07_EvalAtomic.b3 Q X t3_1 t31x0 r7 t39x1 t39x1 (t39x1.n : Int) x) 0)))
def law07_EvalAtomic (cells0 : Sl) (t1 : (Array Value)) (Q : Bool → K) : K :=
  New 50 t1 fun t3 =>
  law07_speaks.call  fun t16 =>
  Ite (!t16)
    (Q false)
    (law07_great.call cells0 fun t19 =>
    Ite t19
      (law07_EvalAtomic.s1 Q cells0 t3 true)
      (LdN t3 5 fun t21 =>
      ref05_Great.call t21 fun t22 =>
      Ite t22
        (law07_EvalAtomic.s1 Q cells0 t3 true)
        (LdN t3 5 fun t25 =>
        ref05_Right.call t25 3 fun t26 =>
        law07_EvalAtomic.s1 Q cells0 t3 (!t26))))
theorem law07_EvalAtomic_ok (cells0 : Sl) (t1 : (Array Value)) (Q : Bool → K) (w : World) (h : law07_EvalAtomic cells0 t1 Q w) : law07_EvalAtomic.call cells0 t1 Q w := by
  have hJ1000010 : JH 1000010 fun D => D [] (fun C => ∀ (t4_2 : Bool), C [(4, (.bool t4_2))] (law07_EvalAtomic.s2 Q t4_2)) := by intros; exact ⟨fun _ h => ⟨_, _, h⟩⟩
  have hJ19 : ∀ (X3 : Int → K), XH 12 X3 → JH 19 fun D => ∃ (t3_5 : Addr) (s5_5 : (Option Addr)) (r7_5 : Addr) (w8_5 : Sl) (t64_5 : Sl) (t65_5 : Int) (t66_5 : Int), D [(3, (.pointer (some t3_5))), (5, (.pointer s5_5)), (7, (.pointer (some r7_5))), (8, (Sl.val w8_5)), (64, (Sl.val t64_5)), (65, (.int .i64 t65_5)), (66, (.int .i64 t66_5))] (fun C => ∀ (t136_5 : Bool), C [(3, (.pointer (some t3_5))), (5, (.pointer s5_5)), (7, (.pointer (some r7_5))), (8, (Sl.val w8_5)), (64, (Sl.val t64_5)), (65, (.int .i64 t65_5)), (66, (.int .i64 t66_5)), (136, (.bool t136_5))] (law07_EvalAtomic.s5 Q X3 t3_5 s5_5 r7_5 w8_5 t64_5 t65_5 t66_5 t136_5)) := by intros; exact ⟨fun _ ⟨_, _, _, _, _, _, _, h⟩ => ⟨_, _, h⟩⟩
  have hJ15 : ∀ (X3 : Int → K), XH 12 X3 → JH 15 fun D => ∃ (t3_4 : Addr) (s5_4 : (Option Addr)) (r7_4 : Addr) (w8_4 : Sl) (x10_4 : Addr) (t64_4 : Sl) (t65_4 : Int) (t66_4 : Int), D [(3, (.pointer (some t3_4))), (5, (.pointer s5_4)), (7, (.pointer (some r7_4))), (8, (Sl.val w8_4)), (10, (.pointer (some x10_4))), (64, (Sl.val t64_4)), (65, (.int .i64 t65_4)), (66, (.int .i64 t66_4))] (fun C => ∀ (t91_4 : Bool), C [(3, (.pointer (some t3_4))), (5, (.pointer s5_4)), (7, (.pointer (some r7_4))), (8, (Sl.val w8_4)), (10, (.pointer (some x10_4))), (64, (Sl.val t64_4)), (65, (.int .i64 t65_4)), (66, (.int .i64 t66_4)), (91, (.bool t91_4))] (law07_EvalAtomic.s4 Q X3 t3_4 s5_4 r7_4 w8_4 x10_4 t64_4 t65_4 t66_4 t91_4)) := by intros; exact ⟨fun _ ⟨_, _, _, _, _, _, _, _, h⟩ => ⟨_, _, h⟩⟩
  have hD14 : DH 14 2 [] (.s [0, 2, 1, 3] (.a [(4, 1, .s [5, 6] (.i (.s [7, 8, 9, 10, 11, 12, 13, 14, 15, 16, 17, 18, 19, 20] .e) (.s [7, 8, 9] (.i (.s [10, 11, 12, 13, 14, 16, 15, 17, 18, 19, 20] .e) (.s [10, 11, 12, 13, 14, 15, 16, 17, 18, 19, 20] .e)))))])) := by intros; exact ⟨⟩
  have hJ27 : ∀ (X3 : Int → K), XH 12 X3 → ∀ (X6 : (Int × Int) → K), XH 23 X6 → JH 27 fun D => ∃ (r7_7 : Addr) (t139_7 : Sl) (t140_7 : Int) (t141_7 : Int), D [(7, (.pointer (some r7_7))), (139, (Sl.val t139_7)), (140, (.int .i64 t140_7)), (141, (.int .i64 t141_7))] (fun C => ∀ (outs13_7 : Int), C [(7, (.pointer (some r7_7))), (13, (.int .i64 outs13_7)), (139, (Sl.val t139_7)), (140, (.int .i64 t140_7)), (141, (.int .i64 t141_7))] (law07_EvalAtomic.s7 Q X3 (fun outs13_6 t141_6 => X6 (outs13_6, t141_6)) r7_7 outs13_7 t139_7 t140_7 t141_7)) := by intros; exact ⟨fun _ ⟨_, _, _, _, h⟩ => ⟨_, _, h⟩⟩
  have hJ26 : ∀ (X3 : Int → K), XH 12 X3 → ∀ (X6 : (Int × Int) → K), XH 23 X6 → JH 26 fun D => ∃ (r7_8 : Addr) (outs13_8 : Int) (t139_8 : Sl) (t140_8 : Int) (t141_8 : Int), D [(7, (.pointer (some r7_8))), (13, (.int .i64 outs13_8)), (139, (Sl.val t139_8)), (140, (.int .i64 t140_8)), (141, (.int .i64 t141_8))] (fun C => ∀ (t152_8 : Bool), C [(7, (.pointer (some r7_8))), (13, (.int .i64 outs13_8)), (139, (Sl.val t139_8)), (140, (.int .i64 t140_8)), (141, (.int .i64 t141_8)), (152, (.bool t152_8))] (law07_EvalAtomic.s8 Q X3 (fun outs13_6 t141_6 => X6 (outs13_6, t141_6)) r7_8 outs13_8 t139_8 t140_8 t141_8 t152_8)) := by intros; exact ⟨fun _ ⟨_, _, _, _, _, h⟩ => ⟨_, _, h⟩⟩
  have hL23 : ∀ (X3 : Int → K), XH 12 X3 → ∀ (r7_6 : Addr) (t139_6 : Sl) (t140_6 : Int), LH 23 (fun x : Int × Int => [(7, (.pointer (some r7_6))), (13, (.int .i64 x.1)), (139, (Sl.val t139_6)), (140, (.int .i64 t140_6)), (141, (.int .i64 x.2))]) (fun X x => law07_EvalAtomic.b6 Q X3 (fun outs13_6 t141_6 => X (outs13_6, t141_6)) r7_6 t139_6 t140_6 x.1 x.2) := by intros; exact ⟨⟩
  have hL12 : ∀ (t3_3 : Addr) (s5_3 : (Option Addr)) (r7_3 : Addr) (w8_3 : Sl) (t64_3 : Sl) (t65_3 : Int), LH 12 (fun x : Int => [(3, (.pointer (some t3_3))), (5, (.pointer s5_3)), (7, (.pointer (some r7_3))), (8, (Sl.val w8_3)), (64, (Sl.val t64_3)), (65, (.int .i64 t65_3)), (66, (.int .i64 x))]) (fun X x => law07_EvalAtomic.b3 Q X t3_3 s5_3 r7_3 w8_3 t64_3 t65_3 x) := by intros; exact ⟨⟩
  have hJ4 : JH 4 fun D => ∃ (cells0_1 : Sl) (t3_1 : Addr), D [(0, (Sl.val cells0_1)), (3, (.pointer (some t3_1)))] (fun C => ∀ (t28_1 : Bool), C [(0, (Sl.val cells0_1)), (3, (.pointer (some t3_1))), (28, (.bool t28_1))] (law07_EvalAtomic.s1 Q cells0_1 t3_1 t28_1)) := by intros; exact ⟨fun _ ⟨_, _, h⟩ => ⟨_, _, h⟩⟩
  exact g_walk 161 h Try.func6
end Go.Proofs.Ytfjjocopmknhgaa
/- A transaction that gives up writes nothing; one that doesn't writes none but the keys that it may write. -/
namespace Go.Proofs.Ytfjjocopmknhgaa
open Go Go.Sep Go.Sep.Bt
set_option linter.unusedSimpArgs false
set_option linter.unusedVariables false
set_option maxRecDepth 100000

/-- What was written lies among these keys; home and count are as they were. -/
abbrev StayW (n : Nat) (M : Recs) (ks : List (List UInt8)) (W : WM) : Prop := ∀ p ∈ W, p.1 ∈ ks ∧ p.2.home = (sGet n M (bs p.1)).home ∧ p.2.cnt = (sGet n M (bs p.1)).cnt
theorem StayW.now {n : Nat} {M : Recs} {ks : List (List UInt8)} {W : WM} (h : StayW n M ks W) (k : List UInt8) : (nowM n M W k).home = (sGet n M (bs k)).home ∧ (nowM n M W k).cnt = (sGet n M (bs k)).cnt := by
  unfold nowM
  cases hm : mget k W with
  | none => exact ⟨rfl, rfl⟩
  | some r => exact (h _ (mget_some hm)).2
theorem mset_in {ν : Type} {W : List (List UInt8 × ν)} {k : List UInt8} {v : ν} {p : List UInt8 × ν} (h : p ∈ mset k v W) : p = (k, v) ∨ p ∈ W := by
  rcases mfind k W with ⟨_, h2, _, _⟩ | ⟨j, x, hj, h0, _, _, h2, _⟩
  · rw [h2] at h
    rcases List.mem_append.1 h with h | h
    · exact .inr h
    · exact .inl (List.mem_singleton.1 h)
  · rw [h2] at h
    rcases List.mem_or_eq_of_mem_set h with h | h
    · exact .inr h
    · exact .inl h
theorem StayW.set {n : Nat} {M : Recs} {ks : List (List UInt8)} {W : WM} (h : StayW n M ks W) {k : List UInt8} (hk : k ∈ ks) (has : Bool) (val : List UInt8) : StayW n M ks (setW n M W k has val) := fun p hp => by
  rcases mset_in hp with rfl | hp
  · exact ⟨hk, (h.now k).1, (h.now k).2⟩
  · exact h p hp
theorem add_code {n : Nat} {M : Recs} {W : WM} {k : List UInt8} {d : Int} : (addW n M W k d).2 = 0 ∨ (addW n M W k d).2 = 110 ∨ (addW n M W k d).2 = 111 := by
  unfold addW
  repeat' split
  all_goals simp
theorem step_code {n : Nat} {M : Recs} {W : WM} {O : OM} {o : OpM} : (stepW n M W O o).2.2 = 0 ∨ (stepW n M W O o).2.2 = 110 ∨ (stepW n M W O o).2.2 = 111 := by
  unfold stepW
  repeat' split
  all_goals first | exact add_code | simp
/-- A right operation writes what may be written. -/
theorem op_writes {t : TxX} {o : OpM} (h : opRight t o = true) (hk : o.kind = 2 ∨ o.kind = 3 ∨ o.kind = 6) : o.key ∈ t.writes := by
  by_cases hw : o.key ∈ t.writes
  · exact hw
  · exfalso
    unfold opRight at h
    split at h
    · cases h
    split at h
    · omega
    split at h
    · cases h
    · rename_i h3
      exact h3 ⟨hw, .inr hk⟩
theorem add_stay {n : Nat} {M : Recs} {ks : List (List UInt8)} {W : WM} {k : List UInt8} {d : Int} (h : StayW n M ks W) (hk : k ∈ ks) : StayW n M ks (addW n M W k d).1 := by
  unfold addW
  by_cases h1 : (nowM n M W k).has = true ∧ (nowM n M W k).val.length ≠ 8
  · rw [if_pos h1]; exact h
  rw [if_neg h1]
  generalize (if (nowM n M W k).has then numOf (nowM n M W k).val else 0) = a
  cases overS a d
  · rw [if_neg (by simp)]; exact h.set hk _ _
  · rw [if_pos rfl]; exact h
theorem step_stay {n : Nat} {M : Recs} {t : TxX} {W : WM} {O : OM} {o : OpM} (h : StayW n M t.writes W) (ho : opRight t o = true) : StayW n M t.writes (stepW n M W O o).1 := by
  unfold stepW
  split
  · exact h
  split
  · exact h
  split
  · exact h.set (op_writes ho (.inl (by assumption))) _ _
  split
  · exact h.set (op_writes ho (.inr (.inl (by assumption)))) _ _
  split
  · exact h
  split
  · exact h
  split
  · exact add_stay h (op_writes ho (.inr (.inr (by assumption))))
  · exact h
abbrev isOut (x : OpX) : Bool := decide (x.1.kind = 1 ∨ x.1.kind = 7)
theorem step_outs {n : Nat} {M : Recs} {W : WM} {O : OM} {x : OpX} : (stepW n M W O x.1).2.1.length = O.length + if isOut x then 1 else 0 := by
  unfold stepW isOut
  by_cases h1 : x.1.kind = 1
  · simp [h1]
  by_cases h7 : x.1.kind = 7
  · simp [h7]
  rw [if_neg h1, if_neg h7]
  repeat' split
  all_goals first | (simp only [h1, h7, or_self, decide_false, Bool.false_eq_true, if_false]; done) | (simp [h1, h7] at *)
theorem ops_law {n : Nat} {M : Recs} {t : TxX} : ∀ {xs : List OpX} {W : WM} {O : OM}, (∀ x ∈ xs, opRight t x.1 = true) → StayW n M t.writes W →
    ((opsW n M xs W O).2.2 = 0 ∨ (opsW n M xs W O).2.2 = 110 ∨ (opsW n M xs W O).2.2 = 111) ∧ StayW n M t.writes (opsW n M xs W O).1 ∧ ((opsW n M xs W O).2.2 = 0 → (opsW n M xs W O).2.1.length = O.length + (xs.filter isOut).length)
  | [], W, O, _, h => ⟨.inl rfl, h, fun _ => by simp [opsW_nil]⟩
  | x :: xs, W, O, hr, h => by
    have hx := hr x List.mem_cons_self
    rw [opsW_cons]
    split
    · rename_i h0
      exact ⟨step_code, step_stay h hx, fun h1 => absurd h1 h0⟩
    · have ih := ops_law (n := n) (M := M) (t := t) (xs := xs) (W := (stepW n M W O x.1).1) (O := (stepW n M W O x.1).2.1) (fun y hy => hr y (List.mem_cons_of_mem _ hy)) (step_stay h hx)
      refine ⟨ih.1, ih.2.1, fun h1 => ?_⟩
      rw [ih.2.2 h1, step_outs, List.filter_cons]
      split <;> simp <;> omega
/-- What a row of a transaction says. -/
abbrev RowOk (n : Nat) (M : Recs) (t : TxX) (p : List UInt8 × Rec) : Prop := p.1 ∈ t.writes ∧ (if t.kind = 2 then p.2.home = t.to ∧ p.2.cnt = (sGet n M (bs p.1)).cnt + 1 else p.2.home = (sGet n M (bs p.1)).home ∧ p.2.cnt = (sGet n M (bs p.1)).cnt)
theorem right_move {n : Int} {t : TxX} (h : rightT n t = true) (hk : t.kind = 2) : t.ops = [] ∧ ∃ k, t.writes = [k] := by
  unfold rightT at h
  split at h
  · cases h
  split at h
  · cases h
  simp only [Bool.and_eq_true, decide_eq_true_eq] at h
  refine ⟨List.length_eq_zero_iff.1 h.2.1, ?_⟩
  obtain ⟨k, hk⟩ := List.length_eq_one_iff.1 h.2.2.1
  exact ⟨k, hk⟩
theorem right_ops {n : Int} {t : TxX} (h : rightT n t = true) (hk : t.kind ≠ 2) : ∀ x ∈ t.ops, opRight t x.1 = true := by
  unfold rightT at h
  split at h
  · cases h
  split at h
  · cases h
  split at h
  · cases h
  · exact List.all_eq_true.1 h
theorem run_law {n : Nat} {M : Recs} {t : TxX} {g : Int} (h : rightT g t = true) :
    ((runW n M t).2.2 = 0 ∨ (runW n M t).2.2 = 110 ∨ (runW n M t).2.2 = 111) ∧ ((runW n M t).2.2 = 0 → (∀ p ∈ (runW n M t).1, RowOk n M t p) ∧ (runW n M t).2.1.length = (t.ops.filter isOut).length) := by
  unfold runW
  split
  · rename_i hk
    obtain ⟨ho, k, hw⟩ := right_move h hk
    rw [hw, moveW_cons, ho]
    split
    · exact ⟨.inr (.inr rfl), fun h1 => by simp at h1⟩
    · rw [moveW_nil]
      refine ⟨.inl rfl, fun _ => ⟨fun p hp => ?_, rfl⟩⟩
      have hn : nowM n M [] k = sGet n M (bs k) := rfl
      rcases mset_in hp with rfl | hp
      · refine ⟨by rw [hw]; simp, ?_⟩
        rw [if_pos hk, hn]
        exact ⟨rfl, rfl⟩
      · cases hp
  · rename_i hk
    obtain ⟨h1, h2, h3⟩ := ops_law (n := n) (M := M) (t := t) (xs := t.ops) (W := []) (O := []) (right_ops h hk) (by simp)
    refine ⟨h1, fun h0 => ⟨fun p hp => ?_, by rw [h3 h0]; simp⟩⟩
    refine ⟨(h2 p hp).1, ?_⟩
    rw [if_neg hk]
    exact (h2 p hp).2
theorem sortW_rises (W : WM) (h : KeysOnce W) : ((sortW W).map Prod.fst).Pairwise (· < ·) := by
  rw [sortW_keys]
  have h1 := sortL_le (W.map Prod.fst)
  have h2 : (sortL (W.map Prod.fst)).Nodup := (List.mergeSort_perm _ _).nodup_iff.2 h
  refine (h1.and h2).imp fun {a b} h => ?_
  rcases List.le_iff_lt_or_eq.1 h.1 with h3 | h3
  · exact h3
  · exact absurd h3 h.2
theorem gbig {t : TxX} (h : ¬ GreatP t) : txOk t ∨ True := .inr trivial
section
variable {B : World} {Γ Δ : List HProp} {st : Nat} {M : Recs} {q : Bool → K}
theorem txOk_of {t : TxX} (h : ¬ GreatP t) (hn : ∀ x ∈ t.ops, -9223372036854775808 ≤ x.1.n ∧ x.1.n ≤ 9223372036854775807) : txOk t := by
  simp only [GreatP, not_or, Nat.not_lt, not_exists, not_and] at h
  obtain ⟨h1, h2, h3, h4, h5, h6⟩ := h
  refine ⟨fun k hk => by have := h5 k hk; omega, fun x hx => ?_, by omega, by omega, by omega, fun k hk => by have := h4 k hk; omega⟩
  have h7 := h6 x hx
  have h8 := hn x hx
  exact ⟨by omega, by omega, h8.1, h8.2⟩
/-- How many things are put out. -/
theorem atomic_b6 {t : TxX} {X3 : Int → K} {r7 : Nat} {os : Sl} {e : Int} (hr : ∀ w, Holds B Γ w → txRd w t) (hl : t.ops.length ≤ 60) (ho : os.n = (t.ops.filter isOut).length)
    (h : HG B Γ (q true)) : HG B (blk r7 (.cells [.int .i64 e, os.val].toArray ty_api_Result (0, 0)) :: Γ) (LoopK (α := Int × Int) (fun X x => law07_EvalAtomic.b6 q X3 (fun outs13_6 t141_6 => X (outs13_6, t141_6)) ⟨r7, 0, none⟩ t.os (t.os.n : Int) x.1 x.2) (0, 0)) := fun w hw => by
  have hn : t.os.n = t.ops.length := rd_len opF_len (by omega) (hr w hw.drops).2.2.1
  refine Sep.hg hw ?_
  clear hw w
  refine s_loopC (α := Int × Int) (fun x => ∃ i c : Nat, x = ((c : Int), (i : Int)) ∧ i ≤ t.ops.length ∧ c = ((t.ops.take i).filter isOut).length) (fun x => t.ops.length - x.2.toNat) ⟨0, 0, rfl, Nat.zero_le _, rfl⟩ fun k' x hx hk' => ?_
  obtain ⟨i, c, rfl, hi, hc⟩ := hx
  simp only at hk' ⊢
  unfold law07_EvalAtomic.b6
  have hcl : c ≤ i := by
    rw [hc]
    exact Nat.le_trans (List.length_filter_le _ _) (by rw [List.length_take]; omega)
  refine s_ite (fun hb => ?_) fun hb => ?_
  · have hil : i < t.ops.length := by simp only [decide_eq_true_eq] at hb; omega
    have hge : t.ops[i]? = some t.ops[i] := List.getElem?_eq_getElem hil
    have htk : t.ops.take (i + 1) = t.ops.take i ++ [t.ops[i]] := List.take_succ_eq_append_getElem hil
    generalize t.ops[i] = x at hge htk
    refine s_idxN opF opF_len (fun w hw => (hr w hw.drops).2.2.1) hge ?_
    refine s_new fun o15 => ?_
    have S7 : ∀ c2 : Nat, c2 = ((t.ops.take (i + 1)).filter isOut).length → HG B (blk r7 (.cells [.int .i64 e, os.val].toArray ty_api_Result (0, 0)) :: Γ) (law07_EvalAtomic.s7 q X3 (fun outs13_6 t141_6 => k' (outs13_6, t141_6)) ⟨r7, 0, none⟩ (c2 : Int) t.os (t.os.n : Int) (i : Int)) := fun c2 hc2 => by
      unfold law07_EvalAtomic.s7
      refine s_ai ?_
      exact hk' _ ⟨i + 1, c2, by simp, hil, hc2⟩ (by simp only; omega)
    have S8 : ∀ b, (b = true ↔ x.1.kind = 1 ∨ x.1.kind = 7) → HG B (blk r7 (.cells [.int .i64 e, os.val].toArray ty_api_Result (0, 0)) :: Γ) (law07_EvalAtomic.s8 q X3 (fun outs13_6 t141_6 => k' (outs13_6, t141_6)) ⟨r7, 0, none⟩ (c : Int) t.os (t.os.n : Int) (i : Int) b) := fun b hb => by
      unfold law07_EvalAtomic.s8
      have hx : isOut x = b := by
        cases hbb : b with
        | true => exact decide_eq_true (hb.1 hbb)
        | false => exact decide_eq_false fun h => by rw [hb.2 h] at hbb; cases hbb
      refine s_ite (fun hb1 => ?_) fun hb1 => ?_
      · refine s_ai ?_
        refine S7 (c + 1) ?_
        rw [htk, List.filter_append, List.length_append, ← hc, List.filter_cons_of_pos (by rw [hx, hb1])]; rfl
      · refine S7 c ?_
        rw [htk, List.filter_append, List.length_append, ← hc, List.filter_cons_of_neg (by rw [hx, hb1]; simp)]; rfl
    refine s_stN (b := o15) (l' := opF x) ?_
    repeat refine s_nx ?_
    refine s_ite (fun hd => ?_) fun hd => ?_
    · exact s_end (S8 _ (by have : x.1.kind = 1 := by simpa using hd
                            simp [this]))
    have hd' : ¬ x.1.kind = 1 := by simpa using hd
    repeat refine s_nx ?_
    exact s_end (S8 _ (by simp [hd']))
  · have hil : i = t.ops.length := by simp only [decide_eq_false_iff_not] at hb; omega
    rw [hil, List.take_length] at hc
    repeat refine s_nx ?_
    rw [show decide ((os.n : Int) = (c : Int)) = true by simp; omega]
    exact s_end h
/-- The rows of a transaction. -/
theorem atomic_b3 {t : TxX} {t3 r7 : Nat} {os rows : Sl} {e : Int} {R : WX} (hr : ∀ w, Holds B Γ w → txRd w t) (hl : t.ops.length ≤ 60 ∧ t.writes.length ≤ 40 ∧ ∀ k ∈ t.writes, k.length ≤ 200) (ho : os.n = (t.ops.filter isOut).length)
    (hR : ∀ p ∈ modW R, RowOk 3 M t p) (hRs : (R.map Prod.fst).Pairwise (· < ·)) (hRok : ∀ p ∈ R, p.2.1.ok) (hRl : R.length ≤ 1000) (h : HG B Γ (q true)) :
    HG B (blk t3 (.cells (txL t).toArray ty_api_Txn (0, 0)) :: blk r7 (.cells [.int .i64 e, os.val].toArray ty_api_Result (0, 0)) :: SlC ty_api_Row 5 rows (R.flatMap rowF) :: StoreR st 3 M :: Γ)
      (LoopK (α := Int) (fun X x => law07_EvalAtomic.b3 q X ⟨t3, 0, none⟩ (some ⟨st, 0, none⟩) ⟨r7, 0, none⟩ rows rows (rows.n : Int) x) 0) := fun w hw => by
  have hn : t.ws.n = t.writes.length := by have := (hr w hw.drops).2.1.len; simpa using this.symm
  refine Sep.hg hw ?_
  clear hw w
  refine s_cap rows fun a1 a2 a3 a4 => ?_
  rw [flatMap_len _ 5 rowF_len] at a1
  refine s_loopC (α := Int) (fun x => ∃ i : Nat, x = (i : Int) ∧ i ≤ R.length) (fun x => R.length - x.toNat) ⟨0, rfl, Nat.zero_le _⟩ fun k' x hx hk' => ?_
  obtain ⟨i, rfl, hi⟩ := hx
  unfold law07_EvalAtomic.b3
  refine s_ite (fun hb => ?_) fun hb => ?_
  · have hil : i < R.length := by simp only [decide_eq_true_eq] at hb; omega
    have hge : R[i]? = some R[i] := List.getElem?_eq_getElem hil
    have hmem : R[i] ∈ R := List.getElem_mem hil
    have hpw : ∀ j, j < i → ∀ y, R[j]? = some y → y.1 < R[i].1 := fun j hj y hy => by
      obtain ⟨h1, rfl⟩ := List.getElem?_eq_some_iff.1 hy
      have := (List.pairwise_iff_getElem.1 hRs) j i (by simpa using h1) (by simpa using hil) hj
      simpa using this
    generalize R[i] = x at hge hmem hpw
    have hxR := hR (x.1, x.2.1) (List.mem_map.2 ⟨x, hmem, rfl⟩)
    obtain ⟨hx1, hx2⟩ := hxR
    have hxk := hl.2.2 x.1 hx1
    have hxo := hRok x hmem
    have hsz : (bs x.1).size = x.1.length := rfl
    refine s_idxN rowF rowF_len (fun w hw => (own_rd (s := rows) hw).1) hge ?_
    refine s_new fun x10 => ?_
    refine s_stN (b := x10) (l' := rowL x) ?_
    have S5 : HG B (blk t3 (.cells (txL t).toArray ty_api_Txn (0, 0)) :: blk r7 (.cells [.int .i64 e, os.val].toArray ty_api_Result (0, 0)) :: SlC ty_api_Row 5 rows (R.flatMap rowF) :: StoreR st 3 M :: Γ) (law07_EvalAtomic.s5 q k' ⟨t3, 0, none⟩ (some ⟨st, 0, none⟩) ⟨r7, 0, none⟩ rows rows (rows.n : Int) (i : Int) false) := by
      unfold law07_EvalAtomic.s5
      refine s_f ?_
      refine s_ai ?_
      exact hk' _ ⟨i + 1, by simp, hil⟩ (by omega)
    have S4 : HG B (blk x10 (.cells (rowL x).toArray ty_api_Row (0, 0)) :: blk t3 (.cells (txL t).toArray ty_api_Txn (0, 0)) :: blk r7 (.cells [.int .i64 e, os.val].toArray ty_api_Result (0, 0)) :: SlC ty_api_Row 5 rows (R.flatMap rowF) :: StoreR st 3 M :: Γ) (law07_EvalAtomic.s4 q k' ⟨t3, 0, none⟩ (some ⟨st, 0, none⟩) ⟨r7, 0, none⟩ rows ⟨x10, 0, none⟩ rows (rows.n : Int) (i : Int) false) := by
      unfold law07_EvalAtomic.s4
      refine s_f ?_
      repeat refine s_nx ?_
      refine s_own st ?_
      refine storeGet_spec (by omega) fun sl hok => ?_
      generalize sGet 3 M (bs x.1) = old at hx2 hok
      refine s_new fun old11 => ?_
      refine s_stN (b := old11) (l' := recL old sl) ?_
      repeat refine s_nx ?_
      by_cases hk : t.kind = 2
      · rw [if_pos hk] at hx2
        obtain ⟨h1, h2⟩ := hx2
        simp only at h1 h2
        refine s_t ?_ (by simpa using hk)
        repeat refine s_nx ?_
        refine s_f ?_ (by simpa using h1)
        repeat refine s_nx ?_
        have := hxo.2.1
        have := hok.1
        refine s_ar (e' := old.cnt + 1) (wrapU64 (by omega) (by omega)) ?_
        refine s_f ?_ (by simpa using h2)
        exact s_end S5
      · rw [if_neg hk] at hx2
        obtain ⟨h1, h2⟩ := hx2
        simp only at h1 h2
        refine s_f ?_ (by simpa using hk)
        repeat refine s_nx ?_
        refine s_f ?_ (by simpa using h1)
        repeat refine s_nx ?_
        rw [show decide (x.2.1.cnt ≠ old.cnt) = false by simpa using h2]
        exact s_end S5
    repeat refine s_nx ?_
    refine in05_hg (L := t.writes) (key := x.1) (by omega) (fun w hw => (hr w hw.drops).2.1) ?_
    rw [decide_eq_true hx1]
    repeat refine s_nx ?_
    refine s_ite (fun hc => ?_) fun hc => ?_
    · have hi0 : 0 < i := by simp only [decide_eq_true_eq] at hc; omega
      obtain ⟨j, rfl⟩ : ∃ j, i = j + 1 := ⟨i - 1, by omega⟩
      have hgj : R[j]? = some R[j] := List.getElem?_eq_getElem (by omega)
      have hlt := hpw j (by omega) _ hgj
      generalize R[j] = y at hgj hlt
      refine s_ai ?_
      refine s_idxFA rowF (j := j) rowF_len (by omega) (fun w hw => (own_rd (s := rows) hw).1) hgj (fun t84 ht84 => ?_) (by omega)
      refine s_ldSA0 (cs := rowF y) (x := bs y.1) (fun w hw => ht84 w (own_rd (s := rows) hw).1) rfl ?_
      repeat refine s_nx ?_
      rw [bs_list, bs_list, bytesLess_dec, decide_eq_true hlt]
      exact s_end S4
    · exact s_end S4
  · repeat refine s_nx ?_
    refine s_end (Δ := blk r7 (.cells [.int .i64 e, os.val].toArray ty_api_Result (0, 0)) :: Γ) ?_
    exact atomic_b6 hr hl.1 ho h
theorem EvalAtomic_hg {L : List CellX} {s : Sl} {t : TxX} (hL : RdC B s 4 (L.flatMap cellF)) (hLv : ∀ x ∈ L, RdB B x.2 x.1.val) (ht : txRd B t) (htn : ∀ x ∈ t.ops, -9223372036854775808 ≤ x.1.n ∧ x.1.n ≤ 9223372036854775807) (h : HG B Γ (q true)) : HG B Γ (law07_EvalAtomic.call s (txL t).toArray q) := fun w hw => by
  refine law07_EvalAtomic_ok _ _ _ _ ?_
  refine Sep.hg hw ?_
  clear hw w
  unfold law07_EvalAtomic
  refine s_new fun t3 => ?_
  have out : HG B (blk t3 (.cells (txL t).toArray ty_api_Txn (0, 0)) :: Γ) (law07_EvalAtomic.s1 q s ⟨t3, 0, none⟩ true) := by
    unfold law07_EvalAtomic.s1
    exact s_t (s_end h)
  refine speaks7 ?_
  refine s_f ?_
  refine great7_hg (L := L) (fun w hw => hL.old hw) (fun x hx w hw => (hLv x hx).old hw) ?_
  refine s_ite (fun hb => out) fun hb => ?_
  have hcg : ¬ CGreat L := by simpa only [decide_eq_false_iff_not] using hb
  repeat refine s_nx ?_
  refine great05_hg (t := t) (fun w hw => txRd_old ht hw) ?_
  refine s_ite (fun hb2 => out) fun hb2 => ?_
  have htg : ¬ GreatP t := by simpa only [decide_eq_false_iff_not] using hb2
  have hok := txOk_of htg htn
  have hsm := htg
  simp only [GreatP, not_or, Nat.not_lt, not_exists, not_and] at hsm
  obtain ⟨l1, l2, l3, l4, l5, l6⟩ := hsm
  repeat refine s_nx ?_
  refine right05_hg (t := t) (n := 3) (fun w hw => txRd_old ht hw) ⟨by omega, by omega, by omega⟩ ?_
  by_cases hrt : rightT 3 t = true
  rotate_left
  · rw [show rightT 3 t = false by simpa using hrt]
    exact out
  rw [hrt]
  unfold law07_EvalAtomic.s1
  refine s_f ?_
  refine filled_hg (L := L) (fun w hw => hL.old hw) (fun x hx w hw => (hLv x hx).old hw) hcg fun st sd M P hM => ?_
  refine s_f ?_
  repeat refine s_nx ?_
  obtain ⟨hcode, hgood⟩ := run_law (n := 3) (M := M) hrt
  have honce : KeysOnce (runW 3 M t).1 := once_run
  refine s_own st ?_
  refine eval_Run_hg (t := t) hok (fun w hw => txRd_old ht hw) (fun hb => ?_) fun hz os O rows R hO hR hRok => ?_
  · refine s_new fun r7 => ?_
    repeat refine s_nx ?_
    refine s_t ?_ (by simpa using hb)
    repeat refine s_nx ?_
    have fin : ∀ {Δ : List HProp} [Drops Δ Γ], HG B Δ (law07_EvalAtomic.s2 q (decide (((Sl.mk none 0 0).n : Int) = 0))) := by
      intro Δ _
      unfold law07_EvalAtomic.s2
      exact s_end h
    rcases hcode with h0 | h0 | h0
    · exact absurd h0 hb
    · refine s_t ?_ (by simpa using h0)
      repeat refine s_nx ?_
      refine s_t ?_ (by simp)
      exact fin
    · refine s_f ?_ (by simp [h0])
      repeat refine s_nx ?_
      refine s_t ?_ (by simpa using h0)
      repeat refine s_nx ?_
      refine s_t ?_ (by simp)
      exact fin
  · obtain ⟨g1, g2⟩ := hgood hz
    refine s_new fun r7 => ?_
    repeat refine s_nx ?_
    refine s_f ?_ (by simp)
    refine s_cap os fun b1 b2 b3 b4 => ?_
    rw [flatMap_len _ 2 oF_len] at b1
    have hOl : O.length = (t.ops.filter isOut).length := by rw [← g2, ← hO, List.length_map]
    have hRl : R.length ≤ 1000 := by
      have e1 : R.length = (runW 3 M t).1.length := by
        have := congrArg List.length hR
        rw [(sortW_perm _).length_eq] at this
        simpa using this
      rw [e1]
      unfold runW
      split
      · have h5 := move_wlen (n := 3) (M := M) (to := t.to) (ks := t.writes) (W := [])
        simp only [List.length_nil] at h5
        simp only; omega
      · have h5 := ops_wlen (n := 3) (M := M) (xs := t.ops) (W := []) (O := [])
        simp only [List.length_nil] at h5
        omega
    refine s_end (Δ := blk t3 (.cells (txL t).toArray ty_api_Txn (0, 0)) :: blk r7 (.cells [.int .i64 0, os.val].toArray ty_api_Result (0, 0)) :: SlC ty_api_Row 5 rows (R.flatMap rowF) :: StoreR st 3 M :: Γ) ?_
    refine atomic_b3 (t := t) (R := R) (fun w hw => txRd_old ht hw) ⟨by omega, by omega, fun k hk => l5 k hk⟩ (by omega) (fun p hp => ?_) ?_ hRok hRl h
    · rw [hR] at hp
      exact g1 p ((sortW_perm _).subset hp)
    · have := sortW_rises (runW 3 M t).1 honce
      rw [← hR, keys_mod] at this
      exact this
end
end Go.Proofs.Ytfjjocopmknhgaa

namespace Go.Proofs.Ytfjjocopmknhgaa
open Go Go.Sep Go.RowKit
theorem EvalAtomic_walk (W : World) (s0 : Sl) (y0 : Rdy W Sh_ty_s_argosylaw07_Cell (Sl.val s0).cells.toList) (c1 : Array Value) (y1 : Rdy W Sh_ty_api_Txn (Value.agg c1).cells.toList) (h1 : c1.size = 5) :
    Calls Try.prog 6 #[s0.val, .agg c1] W (Ret fun v w' => v = .bool true ∧ Below W.heap.size W w') := by
  obtain ⟨L, hL, hLv⟩ := rdy_cells y0
  obtain ⟨t, rfl, ht, htn⟩ := rdy_txn h1 y1
  exact law_call (EvalAtomic_hg (Γ := []) hL hLv ht htn (fun w h => ⟨rfl, h⟩) W (Holds.start W))
end Go.Proofs.Ytfjjocopmknhgaa
/- Plain forms of functions, and that their code comes to them (package law07_EvalOthers). -/
namespace Go.Proofs.Ytfjjocopmknhgaa
open Go Go.Sep
set_option linter.unusedVariables false
set_option linter.unusedSimpArgs false
set_option maxRecDepth 100000
set_option maxHeartbeats 4000000
attribute [local irreducible] G Gp Cx Tx Ex Sx Dx Ox Ax Lx Rx Fx Bx Bj Al Do Ld LdN St StN New CallF Ar DoU Rd Rd2 Pu Cd Ite Fv CallV CallY Ans0 Ans1 Ans2 Ans3 Ans4 Ans5 Ext Dead Dr WithS Sv LdS LdNS RdS Rd2S Nn Idx IdxA IdxS Fld Bld Slc SlcS Cat All LoopK RangeF RangeJ TakeD
namespace F_IRLaw07EvalOthers
instance at_50 : AT Try.prog 50 5 := ⟨by kernel_rfl⟩
instance at_76 : AT Try.prog 76 2 := ⟨by kernel_rfl⟩
instance cb_15 : CB Try.prog 15 := ⟨by kernel_rfl⟩
instance cb_17 : CB Try.prog 17 := ⟨by kernel_rfl⟩
instance cb_22 : CB Try.prog 22 := ⟨by kernel_rfl⟩
instance cb_32 : CB Try.prog 32 := ⟨by kernel_rfl⟩
instance cb_33 : CB Try.prog 33 := ⟨by kernel_rfl⟩
instance cb_34 : CB Try.prog 34 := ⟨by kernel_rfl⟩
instance cb_35 : CB Try.prog 35 := ⟨by kernel_rfl⟩
instance cb_36 : CB Try.prog 36 := ⟨by kernel_rfl⟩
instance cb_37 : CB Try.prog 37 := ⟨by kernel_rfl⟩
instance cb_38 : CB Try.prog 38 := ⟨by kernel_rfl⟩
instance cb_39 : CB Try.prog 39 := ⟨by kernel_rfl⟩
instance cb_40 : CB Try.prog 40 := ⟨by kernel_rfl⟩
instance mx : MX Try.prog := ⟨mixed⟩
instance sl_33 : SLT Try.prog 33 5 1 := ⟨by kernel_rfl⟩
instance st_9 : STT Try.prog 9 := ⟨by kernel_rfl⟩
instance sz_76 : SZ Try.prog 76 2 := ⟨by kernel_rfl⟩
instance un_25 : UN Try.prog 25 (.pointer 112) := ⟨Try.underlying25⟩
instance zt_5 : ZT Try.prog 5 (.int .u8 0) := ⟨Try.t5, by kernel_rfl, by kernel_rfl⟩
instance zt_76 : ZT Try.prog 76 (.agg #[(.int .i64 0), (Sl.val ⟨none, 0, 0⟩)]) := ⟨Try.t76, by kernel_rfl, by kernel_rfl⟩
end F_IRLaw07EvalOthers
def law07_EvalOthers.s2 (Q : Bool → K)  (t6_2 : Bool) : K :=
  Q t6_2
def law07_EvalOthers.s1 (Q : Bool → K)  (cells0_1 : Sl) (key2_1 : ByteArray) (t4_1 : Addr) (t36_1 : Bool) : K :=
  Ite t36_1
    (Q true)
    (law07_filled.call cells0_1 fun t39x0 t39x1 =>
    Ite ((t39x0).isNone)
      (Q false)
      (LdN t4_1 5 fun t46 =>
      eval_Run.call t39x0 t46 fun t47x0 t47x1 =>
      New 76 #[(.int .i64 0), (Sl.val ⟨none, 0, 0⟩)] fun a9 =>
      StN a9 2 t47x0 <|
      New 5 #[(.int .u8 111), (.int .u8 116), (.int .u8 104), (.int .u8 101), (.int .u8 114)] fun t52 =>
      Do Try.prog (convert 33 33 (Sl.val (Sl.mk (some t52) 5 5))) Sl.val fun t53 =>
      store_Store_Put.call t39x0 key2_1 t53 <|
      store_Store_Move.call t39x0 key2_1 1 fun t57 =>
      LdN t4_1 5 fun t60 =>
      eval_Run.call t39x0 t60 fun t61x0 t61x1 =>
      New 76 #[(.int .i64 0), (Sl.val ⟨none, 0, 0⟩)] fun b11 =>
      StN b11 2 t61x0 <|
      LdN a9 2 fun t64 =>
      LdN b11 2 fun t65 =>
      ref07_Same.call t64 t65 fun t66 =>
      Ite t66
        (ref06_Same.call t47x1 t61x1 fun t70 =>
        law07_EvalOthers.s2 Q t70)
        (law07_EvalOthers.s2 Q false)))
def law07_EvalOthers (cells0 : Sl) (t1 : (Array Value)) (key2 : ByteArray) (Q : Bool → K) : K :=
  New 50 t1 fun t4 =>
  law07_speaks.call  fun t13 =>
  Ite (!t13)
    (Q false)
    (law07_great.call cells0 fun t16 =>
    Ite t16
      (law07_EvalOthers.s1 Q cells0 key2 t4 true)
      (LdN t4 5 fun t18 =>
      ref05_Great.call t18 fun t19 =>
      Ite t19
        (law07_EvalOthers.s1 Q cells0 key2 t4 true)
        (LdN t4 5 fun t22 =>
        ref05_Right.call t22 3 fun t23 =>
        Ite (!t23)
          (law07_EvalOthers.s1 Q cells0 key2 t4 true)
          (LdN t4 5 fun t27 =>
          ref05_Keys.call t27 fun t28 =>
          ref05_In.call t28 key2 fun t30 =>
          Ite t30
            (law07_EvalOthers.s1 Q cells0 key2 t4 true)
            (law07_EvalOthers.s1 Q cells0 key2 t4 (decide ((200 : Int) < (key2.size : Int))))))))
theorem law07_EvalOthers_ok (cells0 : Sl) (t1 : (Array Value)) (key2 : ByteArray) (Q : Bool → K) (w : World) (h : law07_EvalOthers cells0 t1 key2 Q w) : law07_EvalOthers.call cells0 t1 key2 Q w := by
  have hJ1000012 : JH 1000012 fun D => D [] (fun C => ∀ (t6_2 : Bool), C [(6, (.bool t6_2))] (law07_EvalOthers.s2 Q t6_2)) := by intros; exact ⟨fun _ h => ⟨_, _, h⟩⟩
  have hJ4 : JH 4 fun D => ∃ (cells0_1 : Sl) (key2_1 : ByteArray) (t4_1 : Addr), D [(0, (Sl.val cells0_1)), (2, (.string key2_1)), (4, (.pointer (some t4_1)))] (fun C => ∀ (t36_1 : Bool), C [(0, (Sl.val cells0_1)), (2, (.string key2_1)), (4, (.pointer (some t4_1))), (36, (.bool t36_1))] (law07_EvalOthers.s1 Q cells0_1 key2_1 t4_1 t36_1)) := by intros; exact ⟨fun _ ⟨_, _, _, h⟩ => ⟨_, _, h⟩⟩
  exact g_walk 72 h Try.func7
end Go.Proofs.Ytfjjocopmknhgaa
/- Keys that a transaction doesn't declare play no part in what becomes of it. -/
namespace Go.Proofs.Ytfjjocopmknhgaa
open Go Go.Sep Go.Sep.Bt
set_option linter.unusedSimpArgs false
set_option linter.unusedVariables false
set_option maxRecDepth 100000

theorem now_eq {n : Nat} {M M' : Recs} {k : List UInt8} (h : sGet n M (bs k) = sGet n M' (bs k)) (W : WM) : nowM n M W k = nowM n M' W k := by
  unfold nowM; rw [h]
theorem step_eq {n : Nat} {M M' : Recs} {W : WM} {O : OM} {o : OpM} (h : o.kind = 7 ∨ sGet n M (bs o.key) = sGet n M' (bs o.key)) : stepW n M W O o = stepW n M' W O o := by
  rcases h with h | h
  · simp [stepW, h]
  · have h2 := now_eq h W
    simp only [stepW, addW, setW, h2]
theorem ops_eq {n : Nat} {M M' : Recs} : ∀ {xs : List OpX} {W : WM} {O : OM}, (∀ x ∈ xs, x.1.kind = 7 ∨ sGet n M (bs x.1.key) = sGet n M' (bs x.1.key)) → opsW n M xs W O = opsW n M' xs W O
  | [], _, _, _ => rfl
  | x :: xs, W, O, h => by
    rw [opsW_cons, opsW_cons, step_eq (h x List.mem_cons_self), ops_eq fun y hy => h y (List.mem_cons_of_mem _ hy)]
theorem move_eq {n : Nat} {M M' : Recs} {to : Int} : ∀ {ks : List (List UInt8)} {W : WM}, (∀ k ∈ ks, sGet n M (bs k) = sGet n M' (bs k)) → moveW n M to ks W = moveW n M' to ks W
  | [], _, _ => rfl
  | k :: ks, W, h => by
    rw [moveW_cons, moveW_cons, now_eq (h k List.mem_cons_self), move_eq fun y hy => h y (List.mem_cons_of_mem _ hy)]
theorem op_key {t : TxX} {o : OpM} (h : opRight t o = true) : o.kind = 7 ∨ o.key ∈ t.reads ++ t.writes := by
  unfold opRight at h
  split at h
  · cases h
  split at h
  · exact .inl (by assumption)
  split at h
  · cases h
  · rename_i h1
    refine .inr ?_
    by_cases h2 : o.key ∈ t.writes
    · simp [h2]
    · by_cases h3 : o.key ∈ t.reads
      · simp [h3]
      · exact absurd ⟨h2, .inl h3⟩ h1
theorem run_eq {n : Nat} {M M' : Recs} {t : TxX} {g : Int} (hr : rightT g t = true) (h : ∀ k ∈ t.reads ++ t.writes, sGet n M (bs k) = sGet n M' (bs k)) : runW n M t = runW n M' t := by
  unfold runW
  split
  · rw [move_eq fun k hk => h k (List.mem_append_right _ hk)]
  · rename_i hk
    exact ops_eq fun x hx => (op_key (right_ops hr hk x hx)).imp id (h _)
theorem other_eq {n : Nat} {M : Recs} {key k : ByteArray} {xs : List UInt8} {to : Int} (h : k ≠ key) : sGet n M k = sGet n (sMove n (sPut n M key xs) key to).1 k := by
  unfold sMove
  split
  · rw [sPut, sGet_set, if_neg h]
  split
  · rw [sPut, sGet_set, if_neg h]
  · rw [sGet_put, if_neg h, sPut, sGet_set, if_neg h]
section
variable {B : World} {Γ Δ : List HProp} {q : Bool → K}
theorem stars_rdO {O : OX} {x : (Bool × List UInt8) × Sl} {w : World} (hx : x ∈ O) (h : Holds B (Sep.stars (O.map oB) :: Γ) w) : RdB w x.2 x.1.2 := by
  obtain ⟨Δ, h2⟩ := stars_mem hx h
  exact rdB_of h2
theorem stars_rdW {R : WX} {x : List UInt8 × (Rec × Sl)} {w : World} (hx : x ∈ R) (h : Holds B (Sep.stars (R.map wB) :: Γ) w) : RdB w x.2.2 x.2.1.val := by
  obtain ⟨Δ, h2⟩ := stars_mem hx h
  exact rdB_of h2
theorem EvalOthers_hg {L : List CellX} {s : Sl} {t : TxX} {key : ByteArray} (hL : RdC B s 4 (L.flatMap cellF)) (hLv : ∀ x ∈ L, RdB B x.2 x.1.val) (ht : txRd B t) (htn : ∀ x ∈ t.ops, -9223372036854775808 ≤ x.1.n ∧ x.1.n ≤ 9223372036854775807) (h : HG B Γ (q true)) : HG B Γ (law07_EvalOthers.call s (txL t).toArray key q) := fun w hw => by
  refine law07_EvalOthers_ok _ _ _ _ _ ?_
  refine Sep.hg hw ?_
  clear hw w
  unfold law07_EvalOthers
  refine s_new fun t3 => ?_
  have out : HG B (blk t3 (.cells (txL t).toArray ty_api_Txn (0, 0)) :: Γ) (law07_EvalOthers.s1 q s key ⟨t3, 0, none⟩ true) := by
    unfold law07_EvalOthers.s1
    exact s_t (s_end h)
  refine speaks7 ?_
  refine s_f ?_
  refine great7_hg (L := L) (fun w hw => hL.old hw) (fun x hx w hw => (hLv x hx).old hw) ?_
  refine s_ite (fun hb => out) fun hb => ?_
  have hcg : ¬ CGreat L := by simpa only [decide_eq_false_iff_not] using hb
  repeat refine s_nx ?_
  refine great05_hg (t := t) (fun w hw => txRd_old ht hw) ?_
  refine s_ite (fun hb2 => out) fun hb2 => ?_
  have htg : ¬ GreatP t := by simpa only [decide_eq_false_iff_not] using hb2
  have hok := txOk_of htg htn
  have hsm := htg
  simp only [GreatP, not_or, Nat.not_lt, not_exists, not_and] at hsm
  obtain ⟨l1, l2, l3, l4, l5, l6⟩ := hsm
  repeat refine s_nx ?_
  refine right05_hg (t := t) (n := 3) (fun w hw => txRd_old ht hw) ⟨by omega, by omega, by omega⟩ ?_
  by_cases hrt : rightT 3 t = true
  rotate_left
  · rw [show rightT 3 t = false by simpa using hrt]
    exact s_t out
  rw [hrt]
  refine s_f ?_
  repeat refine s_nx ?_
  refine keys05_hg (t := t) (fun w hw => (txRd_old ht hw).1) (fun w hw => (txRd_old ht hw).2.1) (by omega) (by omega) fun ks => ?_
  have hkl := keysT_len (t.reads ++ t.writes)
  rw [List.length_append] at hkl
  obtain ⟨kl, rfl⟩ := bs_of key
  refine in05_hg (L := keysT (t.reads ++ t.writes)) (key := kl) (by omega) (fun w hw => (own_rd (s := ks) hw).1) ?_
  by_cases hin : kl ∈ keysT (t.reads ++ t.writes)
  · rw [decide_eq_true hin]
    refine s_t ?_
    exact s_end out
  rw [decide_eq_false hin]
  have hin2 : kl ∉ t.reads ++ t.writes := fun h => hin (keysT_mem.2 h)
  refine s_f ?_
  have hksz : (bs kl).size = kl.length := rfl
  unfold law07_EvalOthers.s1
  refine s_ite (fun hb3 => s_end h) fun hb3 => ?_
  have hk200 : kl.length ≤ 200 := by simp only [decide_eq_false_iff_not] at hb3; omega
  refine filled_hg (L := L) (fun w hw => hL.old hw) (fun x hx w hw => (hLv x hx).old hw) hcg fun st sd M P hM => ?_
  refine s_f ?_
  repeat refine s_nx ?_
  obtain ⟨hcode, hgood⟩ := run_law (n := 3) (M := M) hrt
  -- the rest, behind the first run
  have rest : ∀ (e : Int) (o1 : Sl) (O1 : OX) (r1 : Sl) (R1 : WX), e = (runW 3 M t).2.2 → O1.length ≤ 1000 → R1.length ≤ 1000 → (e ≠ 0 → O1 = [] ∧ R1 = [] ∧ o1 = ⟨none, 0, 0⟩ ∧ r1 = ⟨none, 0, 0⟩) → (e = 0 → O1.map Prod.fst = (runW 3 M t).2.1 ∧ modW R1 = sortW (runW 3 M t).1) →
      HG B (SlC ty_api_Out 2 o1 (O1.flatMap oF) :: Sep.stars (O1.map oB) :: SlC ty_api_Row 5 r1 (R1.flatMap rowF) :: Sep.stars (R1.map wB) :: StoreR st 3 M :: blk t3 (.cells (txL t).toArray ty_api_Txn (0, 0)) :: Γ)
        (New ty_api_Result [.int .i64 0, Sl.val ⟨none, 0, 0⟩].toArray fun a9 =>
      StN a9 2 #[.int .i64 e, o1.val] <|
      New 5 #[(.int .u8 111), (.int .u8 116), (.int .u8 104), (.int .u8 101), (.int .u8 114)] fun t52 =>
      Do Try.prog (convert ty_s_uint8 ty_s_uint8 (Sl.val (Sl.mk (some t52) 5 5))) Sl.val fun t53 =>
      store_Store_Put.call (some ⟨st, 0, none⟩) (bs kl) t53 <|
      store_Store_Move.call (some ⟨st, 0, none⟩) (bs kl) 1 fun t57 =>
      LdN (⟨t3, 0, none⟩ : Addr) 5 fun t60 =>
      eval_Run.call (some ⟨st, 0, none⟩) t60 fun t61x0 t61x1 =>
      New ty_api_Result [.int .i64 0, Sl.val ⟨none, 0, 0⟩].toArray fun b11 =>
      StN b11 2 t61x0 <|
      LdN a9 2 fun t64 =>
      LdN b11 2 fun t65 =>
      ref07_Same.call t64 t65 fun t66 =>
      Ite t66
        (ref06_Same.call r1 t61x1 fun t70 =>
        law07_EvalOthers.s2 q t70)
        (law07_EvalOthers.s2 q false)) := fun e o1 O1 r1 R1 he hO1 hR1 hbad hgd => by
    refine s_new fun a9 => ?_
    refine s_stN (b := a9) (l' := [.int .i64 e, o1.val]) ?_
    refine s_new fun t52 => ?_
    refine fun w hw => r_mark (by kernel_rfl) hw rfl fun w hw => ?_
    refine Sep.hg hw ?_
    clear hw w
    refine s_own st ?_
    refine storePutV_spec (M := M) (xs := [111, 116, 104, 101, 114]) (by omega) (by omega) (fun w hw => ?_) (by simp) ?_
    · exact (own_rd (s := ⟨some ⟨t52, 0, none⟩, 5, 5⟩) hw).1
    rw [show setM M (bs kl) { sGet 3 M (bs kl) with has := true, val := [111, 116, 104, 101, 114] } = sPut 3 M (bs kl) [111, 116, 104, 101, 114] from rfl]
    have hl := setM_len M (bs kl) { sGet 3 M (bs kl) with has := true, val := [111, 116, 104, 101, 114] }
    refine storeMove_spec (M := sPut 3 M (bs kl) [111, 116, 104, 101, 114]) (by omega) (by unfold sPut; omega) ?_
    have hsame : runW 3 M t = runW 3 (sMove 3 (sPut 3 M (bs kl) [111, 116, 104, 101, 114]) (bs kl) 1).1 t := run_eq hrt fun k hk => other_eq fun e => hin2 (by
      have := congrArg ByteArray.toList e
      rw [bs_list, bs_list] at this
      rwa [← this])
    generalize (sMove 3 (sPut 3 M (bs kl) [111, 116, 104, 101, 114]) (bs kl) 1).1 = M' at hsame
    repeat refine s_nx ?_
    refine s_own st ?_
    have fin : ∀ {Δ : List HProp} [Drops Δ Γ], HG B Δ (law07_EvalOthers.s2 q true) := by
      intro Δ _
      unfold law07_EvalOthers.s2
      exact s_end h
    refine eval_Run_hg (t := t) hok (fun w hw => txRd_old ht hw) (fun hb => ?_) fun hz o2 O2 r2 R2 hO hR hRok => ?_
    · rw [← hsame] at hb ⊢
      obtain ⟨rfl, rfl, rfl, rfl⟩ := hbad (by rw [he]; exact hb)
      subst he
      refine s_new fun b11 => ?_
      repeat refine s_nx ?_
      refine same7_hg (X := []) (Y := []) (by simp) rfl (fun w hw => RdC.none') (fun w hw => RdC.none') (by simp) (by simp) ?_
      refine s_t ?_
      refine same6_hg (X := []) (Y := []) (by simp) rfl (fun w hw => RdC.none') (fun w hw => RdC.none') (by simp) (by simp) ?_
      exact fin
    · rw [← hsame] at hz hO hR
      have he0 : e = 0 := by rw [he, hz]
      obtain ⟨hO1f, hR1f⟩ := hgd he0
      subst he0
      refine s_new fun b11 => ?_
      repeat refine s_nx ?_
      refine same7_hg (X := O1) (Y := O2) (by omega) (by rw [hO1f, hO]) (fun w hw => (own_rd (s := o1) hw).1) (fun w hw => (own_rd (s := o2) hw).1) (fun x hx w hw => ?_) (fun x hx w hw => ?_) ?_
      · exact stars_rdO (Γ := Γ) hx hw.drops
      · exact stars_rdO (Γ := Γ) hx hw.drops
      refine s_t ?_
      refine same6_hg (X := R1.map fun x => ((bs x.1, x.2) : RecX)) (Y := R2.map fun x => ((bs x.1, x.2) : RecX)) (by rw [List.length_map]; omega) ?_ (fun w hw => by rw [← rows_rec]; exact (own_rd (s := r1) hw).1) (fun w hw => by rw [← rows_rec]; exact (own_rd (s := r2) hw).1) (fun x hx w hw => ?_) (fun x hx w hw => ?_) ?_
      · have := congrArg (List.map fun p : List UInt8 × Rec => (bs p.1, p.2)) (hR1f.trans hR.symm)
        simpa [modW, recM, List.map_map, Function.comp_def] using this
      · obtain ⟨y, hy, rfl⟩ := List.mem_map.1 hx
        exact stars_rdW (Γ := Γ) hy hw.drops
      · obtain ⟨y, hy, rfl⟩ := List.mem_map.1 hx
        exact stars_rdW (Γ := Γ) hy hw.drops
      exact fin
  refine s_own st ?_
  refine eval_Run_hg (t := t) hok (fun w hw => txRd_old ht hw) (fun hb => ?_) fun hz os O rows R hO hR hRok => ?_
  · refine fun w hw => ?_
    have h1 : Holds B (SlC ty_api_Out 2 ⟨none, 0, 0⟩ (([] : OX).flatMap oF) :: Sep.stars (([] : OX).map oB) :: SlC ty_api_Row 5 ⟨none, 0, 0⟩ (([] : WX).flatMap rowF) :: Sep.stars (([] : WX).map wB) :: _) w := ((hw.starsNil.nilSl ty_api_Row 5).starsNil).nilSl ty_api_Out 2
    refine Sep.hg h1 ?_
    clear h1 hw w
    refine s_end (rest (runW 3 M t).2.2 ⟨none, 0, 0⟩ [] ⟨none, 0, 0⟩ [] rfl (by simp) (by simp) (fun _ => ⟨rfl, rfl, rfl, rfl⟩) fun h0 => absurd h0 hb)
  · obtain ⟨g1, g2⟩ := hgood hz
    have hOl : O.length = (t.ops.filter isOut).length := by rw [← g2, ← hO, List.length_map]
    have hfl : (t.ops.filter isOut).length ≤ t.ops.length := List.length_filter_le _ _
    have hRl : R.length ≤ 1000 := by
      have e1 : R.length = (runW 3 M t).1.length := by
        have := congrArg List.length hR
        rw [(sortW_perm _).length_eq] at this
        simpa using this
      rw [e1]
      unfold runW
      split
      · have h5 := move_wlen (n := 3) (M := M) (to := t.to) (ks := t.writes) (W := [])
        simp only [List.length_nil] at h5
        simp only; omega
      · have h5 := ops_wlen (n := 3) (M := M) (xs := t.ops) (W := []) (O := [])
        simp only [List.length_nil] at h5
        omega
    exact s_end (rest 0 os O rows R hz.symm (by omega) hRl (fun h0 => absurd rfl h0) fun _ => ⟨hO, hR⟩)
end
end Go.Proofs.Ytfjjocopmknhgaa

namespace Go.Proofs.Ytfjjocopmknhgaa
open Go Go.Sep Go.RowKit
theorem EvalOthers_walk (W : World) (s0 : Sl) (y0 : Rdy W Sh_ty_s_argosylaw07_Cell (Sl.val s0).cells.toList) (c1 : Array Value) (y1 : Rdy W Sh_ty_api_Txn (Value.agg c1).cells.toList) (h1 : c1.size = 5) (x : ByteArray) (_ : x.size ≤ maxLen) :
    Calls Try.prog 7 #[s0.val, .agg c1, .string x] W (Ret fun v w' => v = .bool true ∧ Below W.heap.size W w') := by
  obtain ⟨L, hL, hLv⟩ := rdy_cells y0
  obtain ⟨t, rfl, ht, htn⟩ := rdy_txn h1 y1
  exact law_call (EvalOthers_hg (Γ := []) hL hLv ht htn (fun w h => ⟨rfl, h⟩) W (Holds.start W))
end Go.Proofs.Ytfjjocopmknhgaa
