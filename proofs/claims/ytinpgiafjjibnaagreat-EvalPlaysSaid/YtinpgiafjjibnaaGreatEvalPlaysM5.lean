/- Texts of the claim EvalPlays, one behind the other. -/
import Derived.Test.YtinpgiafjjibnaaGreatEvalPlaysM4
import GoSem.Instr.MapEntry
/- Stores that are filled: the document's Put; the law's great and filled. -/
namespace Go.Proofs.YtinpgiafjjibnaaGreat
open Go Go.Sep Go.Sep.Bt
set_option linter.unusedSimpArgs false
set_option linter.unusedVariables false
set_option maxRecDepth 100000

structure CellM where
  key : ByteArray
  val : List UInt8
  has : Bool
  moves : Int
abbrev CellX := CellM × Sl
abbrev cellF (x : CellX) : List Value := [.string x.1.key, x.2.val, .bool x.1.has, .int .i64 x.1.moves]
theorem cellF_len (x : CellX) : (cellF x).length = 4 := rfl
abbrev CGreat (L : List CellX) : Prop := 40 < L.length ∨ ∃ x ∈ L, 200 < x.1.key.size ∨ 200 < x.1.val.length
theorem and3 (n : Int) : 0 ≤ bitsOf .and .i64 n 3 ∧ bitsOf .and .i64 n 3 ≤ 3 := by
  unfold bitsOf
  simp only
  have h1 : ((BitVec.ofInt IntKind.i64.bits n &&& BitVec.ofInt IntKind.i64.bits 3).toNat) ≤ 3 := by
    rw [BitVec.toNat_and]
    exact Nat.le_trans Nat.and_le_right (by decide)
  rw [wrap64 (by omega) (by omega)]
  omega
section
variable {B : World} {Γ Δ : List HProp} {k : K} {st sd n : Nat} {M : Recs} {P : Pool}
theorem s_pool {s : Sl} {xs : List UInt8} (h : HG B (poolR (P ++ [(s, xs)]) :: Γ) k) : HG B (Bytes ty_uint8 s xs :: poolR P :: Γ) k := by
  have := s_unmid (F := fun p : Sl × List UInt8 => Bytes ty_uint8 p.1 p.2) (A := P) (C := []) (x := (s, xs)) h
  rwa [List.append_nil] at this
theorem put6P_hg {k : ByteArray} {v : Sl} {xs : List UInt8} {Q : K} (hk : k.size < 1000000000000) (hL : M.length < 1000000) (hr : ∀ w, Holds B Γ w → RdB w v xs) (hx : xs.length ≤ 90000000)
    (h : ∀ P', (∀ x ∈ P, x ∈ P') → HG B (Ref6 sd n (sPut n M k xs) P' :: poolR P' :: Γ) Q) : HG B (Ref6 sd n M P :: poolR P :: Γ) (ref06_Store_Put.call (some ⟨sd, 0, none⟩) k v Q) := fun w hw => by
  refine ref06_Store_Put_ok _ _ _ _ _ ?_
  have hvn : v.n = xs.length := by have := (hr w hw.drops).len; simpa using this.symm
  refine hg hw ?_
  clear hw w
  unfold ref06_Store_Put
  refine get6_hg hk (by omega) fun sl hok hv => ?_
  have hsp : sPut n M k xs = setM M k { sGet n M k with has := true, val := xs } := rfl
  rw [hsp] at h
  generalize sGet n M k = r at *
  refine s_new fun r6 => ?_
  refine s_stN (b := r6) (l' := recL r sl) ?_
  repeat refine s_nx ?_
  refine s_new fun t12 => ?_
  repeat refine s_nx ?_
  refine s_conv (A' := SlC ty_uint8 1 ⟨some ⟨t12, 0, none⟩, 0, 0⟩ []) (blk_SlC (vs := []) rfl (by simp)) ?_
  refine s_append (s := ⟨some ⟨t12, 0, none⟩, 0, 0⟩) (us := xs.map byteV) (fun w hw => hr w hw.drops) (byteV_flat _) (by simp only; omega) fun s' hs' => ?_
  rw [List.nil_append]
  repeat refine s_nx ?_
  show HG B (Bytes ty_uint8 s' xs :: _) _
  refine s_end (Δ := Bytes ty_uint8 s' xs :: poolR P :: Ref6 sd n M P :: Γ) ?_
  refine s_pool ?_
  refine s_own sd ?_
  refine s_ref6P (P' := P ++ [(s', xs)]) (fun x hx => List.mem_append_left _ hx) ?_
  obtain ⟨o1, o2, o3⟩ := hok
  refine set6_hg (r := { r with has := true, val := xs }) ⟨o1, o2, by simp only; omega⟩ (.inr (by simp)) (by omega) ?_
  have h2 := h (P ++ [(s', xs)]) (fun x hx => List.mem_append_left _ hx)
  exact s_end h2
theorem put6_hg {k : ByteArray} {v : Sl} {xs : List UInt8} {Q : K} (hk : k.size < 1000000000000) (hL : M.length < 1000000) (hr : ∀ w, Holds B Γ w → RdB w v xs) (hx : xs.length ≤ 90000000)
    (h : ∀ P', HG B (Ref6 sd n (sPut n M k xs) P' :: poolR P' :: Γ) Q) : HG B (Ref6 sd n M P :: poolR P :: Γ) (ref06_Store_Put.call (some ⟨sd, 0, none⟩) k v Q) := put6P_hg hk hL hr hx fun P' _ => h P'
theorem great7_hg {s : Sl} {L : List CellX} {Q : Bool → K} (hr : ∀ w, Holds B Γ w → RdC w s 4 (L.flatMap cellF)) (hv : ∀ x ∈ L, ∀ w, Holds B Γ w → RdB w x.2 x.1.val) (h : HG B Γ (Q (decide (CGreat L)))) : HG B Γ (law07_great.call s Q) := fun w hw => by
  refine law07_great_ok _ _ _ ?_
  have hn := rd_len cellF_len (by omega) (hr w hw)
  have hvn : ∀ x ∈ L, x.2.n = x.1.val.length := fun x hx => by have := (hv x hx w hw).len; simpa using this.symm
  refine hg hw ?_
  clear hw w
  have yes : CGreat L → HG B Γ (Q true) := fun hg => by rw [decide_eq_true hg] at h; exact h
  unfold law07_great
  refine s_ite (fun hb => yes (.inl (by simp only [decide_eq_true_eq] at hb; omega))) fun hb => ?_
  have hL40 : L.length ≤ 40 := by simp only [decide_eq_false_iff_not] at hb; omega
  refine s_loopC (α := Int) (fun x => ∃ i : Nat, x = (i : Int) ∧ i ≤ L.length ∧ ∀ x ∈ L.take i, x.1.key.size ≤ 200 ∧ x.1.val.length ≤ 200) (fun x => L.length - x.toNat) ⟨0, rfl, Nat.zero_le _, by simp⟩ fun k' x hx hk => ?_
  obtain ⟨i, rfl, hi, ha⟩ := hx
  unfold law07_great.b1
  refine s_ite (fun hlt => ?_) fun hlt => ?_
  · have hil : i < L.length := by simp only [decide_eq_true_eq] at hlt; omega
    have hge : L[i]? = some L[i] := List.getElem?_eq_getElem hil
    have hmem : L[i] ∈ L := List.getElem_mem hil
    have htk : L.take (i + 1) = L.take i ++ [L[i]] := List.take_succ_eq_append_getElem hil
    generalize L[i] = x at hge hmem htk
    have hxn := hvn x hmem
    refine s_idxN cellF cellF_len (fun w hw => hr w hw) hge ?_
    refine s_new fun c4 => ?_
    have S2 : ∀ b, (b = true ↔ 200 < x.1.key.size ∨ 200 < x.1.val.length) → HG B (blk c4 (.cells (cellF x).toArray ty_argosylaw07_Cell (0, 0)) :: Γ) (law07_great.s2 Q k' s (s.n : Int) (i : Int) b) := fun b hb => by
      unfold law07_great.s2
      refine s_ite (fun hb1 => s_end (yes (.inr ⟨x, hmem, hb.1 hb1⟩))) fun hb1 => ?_
      have hnb : ¬ (200 < x.1.key.size ∨ 200 < x.1.val.length) := fun h => by rw [hb.2 h] at hb1; cases hb1
      refine s_ai ?_
      refine s_end (hk ((i : Int) + 1) ⟨i + 1, by simp, hil, fun y hy => ?_⟩ (by omega))
      rw [htk] at hy
      rcases List.mem_append.1 hy with hy | hy
      · exact ha y hy
      · rw [List.mem_singleton.1 hy]; omega
    refine s_stN (b := c4) (l' := cellF x) ?_
    repeat refine s_nx ?_
    refine s_ite (fun hc => ?_) fun hc => ?_
    · exact S2 _ (by have : 200 < x.1.key.size := by simp only [decide_eq_true_eq] at hc; omega
                     simp [this])
    have hc' : ¬ 200 < x.1.key.size := by simp only [decide_eq_false_iff_not] at hc; omega
    repeat refine s_nx ?_
    exact S2 _ (by simp only [hc', false_or, decide_eq_true_eq]; omega)
  · have hil : i = L.length := by simp only [decide_eq_false_iff_not] at hlt; omega
    rw [hil, List.take_length] at ha
    rw [decide_eq_false (show ¬ CGreat L from by
      rintro (h | ⟨x, hx, h⟩)
      · simp only [decide_eq_false_iff_not] at hb; omega
      · have := ha x hx; omega)] at h
    exact h
theorem filledI_hg {I : Recs → Prop} (I0 : I []) (Ip : ∀ M k v, I M → I (sPut 3 M k v)) (Im : ∀ M k t, I M → I (sMove 3 M k t).1) {s : Sl} {L : List CellX} {Q : Option Addr → Option Addr → K} (hr : ∀ w, Holds B Γ w → RdC w s 4 (L.flatMap cellF)) (hv : ∀ x ∈ L, ∀ w, Holds B Γ w → RdB w x.2 x.1.val) (hg : ¬ CGreat L)
    (h : ∀ st sd M P, I M → M.length ≤ 200 → HG B (StoreR st 3 M :: Ref6 sd 3 M P :: poolR P :: Γ) (Q (some ⟨st, 0, none⟩) (some ⟨sd, 0, none⟩))) : HG B Γ (law07_filled.call s Q) := fun w hw => by
  refine law07_filled_ok _ _ _ ?_
  have hn := rd_len cellF_len (by omega) (hr w hw)
  refine Sep.hg hw ?_
  clear hw w
  have hL : L.length ≤ 40 := by simp only [CGreat, not_or] at hg; omega
  have hLs : ∀ x ∈ L, x.1.key.size ≤ 200 ∧ x.1.val.length ≤ 200 := fun x hx => by
    constructor
    · exact Nat.le_of_not_lt fun h => hg (.inr ⟨x, hx, .inl h⟩)
    · exact Nat.le_of_not_lt fun h => hg (.inr ⟨x, hx, .inr h⟩)
  unfold law07_filled
  refine storeNew_spec (n := 3) (by omega) (by omega) fun st => ?_
  refine new6_hg (n := 3) (P := []) (by omega) (by omega) fun sd => ?_
  refine s_f ?_
  refine fun w hw => Sep.hg (show Holds B (poolR ([] : Pool) :: _) w from hw.starsNil) ?_
  clear hw w
  refine s_end (Δ := StoreR st 3 [] :: Ref6 sd 3 [] [] :: poolR [] :: Γ) ?_
  refine s_loop (α := Int) (ι := Nat × Recs × Pool) (fun x i => x = (i.1 : Int) ∧ i.1 ≤ L.length ∧ I i.2.1 ∧ i.2.1.length ≤ 5 * i.1) (fun x i => StoreR st 3 i.2.1 :: Ref6 sd 3 i.2.1 i.2.2 :: poolR i.2.2 :: Γ) (fun x i => L.length - i.1) (0, [], []) ⟨rfl, Nat.zero_le _, I0, Nat.le_refl _⟩ ?_
  rintro k' _ ⟨i, M, P⟩ ⟨rfl, hi, hIM, hMl⟩ hk'
  simp only at hi hIM hMl hk' ⊢
  unfold law07_filled.b1
  refine s_ite (fun hb => ?_) fun hb => ?_
  · have hil : i < L.length := by simp only [decide_eq_true_eq] at hb; omega
    have hge : L[i]? = some L[i] := List.getElem?_eq_getElem hil
    have hmem : L[i] ∈ L := List.getElem_mem hil
    generalize L[i] = x at hge hmem
    obtain ⟨hk1, hk2⟩ := hLs x hmem
    refine s_idxN cellF cellF_len (fun w hw => hr w hw.drops) hge ?_
    refine s_new fun c8 => ?_
    refine s_stN (b := c8) (l' := cellF x) ?_
    have mv : ∀ N P', I N → N.length ≤ 5 * i + 1 → HG B (blk c8 (.cells (cellF x).toArray ty_argosylaw07_Cell (0, 0)) :: StoreR st 3 N :: Ref6 sd 3 N P' :: poolR P' :: Γ) (law07_filled.s2 Q k' (some ⟨st, 0, none⟩) (some ⟨sd, 0, none⟩) ⟨c8, 0, none⟩ s (s.n : Int) (i : Int)) := fun N P' hIN hN => by
      unfold law07_filled.s2
      refine s_loop (α := Int) (ι := Nat × Recs) (fun x i => x = (i.1 : Int) ∧ i.1 ≤ 3 ∧ I i.2 ∧ i.2.length ≤ N.length + i.1) (fun _ i => blk c8 (.cells (cellF x).toArray ty_argosylaw07_Cell (0, 0)) :: StoreR st 3 i.2 :: Ref6 sd 3 i.2 P' :: poolR P' :: Γ) (fun x i => 3 - i.1) (0, N) ⟨rfl, Nat.zero_le _, hIN, Nat.le_refl _⟩ ?_
      rintro k2 _ ⟨j, N2⟩ ⟨rfl, hj, hIN2, hN2⟩ hk2
      simp only at hj hIN2 hN2 hk2 ⊢
      obtain ⟨m1, m2⟩ := and3 x.1.moves
      unfold law07_filled.b3
      repeat refine s_nx ?_
      refine s_ar (e' := bitsOf .and .i64 x.1.moves 3) rfl ?_
      refine s_ite (fun hc => ?_) fun hc => ?_
      · have hj3 : j < 3 := by simp only [decide_eq_true_eq] at hc; omega
        repeat refine s_nx ?_
        refine s_own st ?_
        refine storeMove_spec (M := N2) (by omega) (by omega) ?_
        repeat refine s_nx ?_
        refine s_own sd ?_
        refine move6_hg (by omega) (by omega) ?_
        refine s_ai ?_
        have := sMove_len2 3 N2 x.1.key (j : Int)
        exact s_end (hk2 ((j : Int) + 1) (j + 1, (sMove 3 N2 x.1.key (j : Int)).1) ⟨by simp, hj3, Im _ _ _ hIN2, by simp only; omega⟩ (by simp only; omega))
      · refine s_ai ?_
        exact s_end (hk' ((i : Int) + 1) (i + 1, N2, P') ⟨by simp, hil, hIN2, by simp only; omega⟩ (by simp only; omega))
    repeat refine s_nx ?_
    refine s_ite (fun hc => ?_) fun hc => ?_
    · repeat refine s_nx ?_
      refine s_own st ?_
      refine storePutV_spec (M := M) (xs := x.1.val) (by omega) (by omega) (fun w hw => hv x hmem w hw.drops) (by omega) ?_
      rw [show setM M x.1.key { sGet 3 M x.1.key with has := true, val := x.1.val } = sPut 3 M x.1.key x.1.val from rfl]
      have hl := setM_len M x.1.key { sGet 3 M x.1.key with has := true, val := x.1.val }
      repeat refine s_nx ?_
      refine s_end (Δ := Ref6 sd 3 M P :: poolR P :: blk c8 (.cells (cellF x).toArray ty_argosylaw07_Cell (0, 0)) :: StoreR st 3 (sPut 3 M x.1.key x.1.val) :: Γ) ?_
      refine put6_hg (xs := x.1.val) (by omega) (by omega) (fun w hw => hv x hmem w hw.drops) (by omega) fun P' => ?_
      exact s_end (mv (sPut 3 M x.1.key x.1.val) P' (Ip _ _ _ hIM) (by unfold sPut; omega))
    · exact mv M P hIM (by omega)
  · exact h st sd M P hIM (by omega)
theorem filled_hg {s : Sl} {L : List CellX} {Q : Option Addr → Option Addr → K} (hr : ∀ w, Holds B Γ w → RdC w s 4 (L.flatMap cellF)) (hv : ∀ x ∈ L, ∀ w, Holds B Γ w → RdB w x.2 x.1.val) (hg : ¬ CGreat L)
    (h : ∀ st sd M P, M.length ≤ 200 → HG B (StoreR st 3 M :: Ref6 sd 3 M P :: poolR P :: Γ) (Q (some ⟨st, 0, none⟩) (some ⟨sd, 0, none⟩))) : HG B Γ (law07_filled.call s Q) :=
  filledI_hg (I := fun _ => True) trivial (fun _ _ _ _ => trivial) (fun _ _ _ _ => trivial) hr hv hg fun st sd M P _ => h st sd M P
end
end Go.Proofs.YtinpgiafjjibnaaGreat

namespace Go.Proofs.YtinpgiafjjibnaaGreat
open Go Go.Sep Go.RowKit
theorem rdy_cell {w : World} {cs : List Value} (hc : cs.length = 4) (y : Rdy w (.fld 0 1 .str (.fld 1 1 (.sl (.int .u8) 1) (.fld 2 1 .bool (.fld 3 1 (.int .i64) .nil)))) cs) : ∃ x : CellX, cs = cellF x ∧ RdB w x.2 x.1.val := by
  match cs, hc with
  | [a, b, c, d], _ =>
    obtain ⟨⟨x0, e0, _⟩, ⟨s, e1, _, _, h1, h2⟩, ⟨x2, e2⟩, ⟨x3, e3, _⟩, _⟩ := y
    cases e0; cases e1; cases e2; cases e3
    obtain ⟨xs, _, h3⟩ := rd_bytes h1 h2
    exact ⟨(⟨x0, xs, x2, x3⟩, s), rfl, h3⟩
theorem rdy_cells {W : World} {s : Sl} (y0 : Rdy W Sh_ty_s_argosylaw07_Cell (Sl.val s).cells.toList) : ∃ L : List CellX, RdC W s 4 (L.flatMap cellF) ∧ ∀ x ∈ L, RdB W x.2 x.1.val := by
  obtain ⟨h1, h2⟩ := rdy_sl y0
  obtain ⟨L, _, hL, hd⟩ := rd_list cellF (fun x => RdB W x.2 x.1.val) cellF_len h1 h2 fun cs hc hr => rdy_cell hc hr
  exact ⟨L, hL, hd⟩
end Go.Proofs.YtinpgiafjjibnaaGreat
/- The document's transactions: which are right. -/
namespace Go.Proofs.YtinpgiafjjibnaaGreat
open Go Go.Sep
set_option linter.unusedSimpArgs false
set_option linter.unusedVariables false
set_option maxRecDepth 100000

def opRight (t : TxX) (o : OpM) : Bool :=
  if 32 < o.val.length ∨ o.kind < 1 ∨ 7 < o.kind then false
  else if o.kind = 7 then decide (o.key = []) && decide (o.n = 0)
  else if o.key ∉ t.writes ∧ (o.key ∉ t.reads ∨ o.kind = 2 ∨ o.kind = 3 ∨ o.kind = 6) then false
  else if o.kind ≠ 6 ∧ o.n ≠ 0 then false
  else decide (o.kind = 2) || (decide (o.kind = 4) || decide (o.val.length = 0))
abbrev Rises (L : List TX) : Prop := L.Pairwise (· < ·)
abbrev headBad (n : Int) (t : TxX) : Prop := n < 1 ∨ 3 < n ∨ ¬ Rises t.reads ∨ ¬ Rises t.writes ∨ 8 < t.reads.length ∨ 8 < t.writes.length ∨ 8 < t.reads.length + t.writes.length
abbrev keysBad (t : TxX) : Prop := (∃ k ∈ t.reads ++ t.writes, k.length < 1 ∨ 16 < k.length) ∨ ∃ k ∈ t.reads, k ∈ t.writes
def rightT (n : Int) (t : TxX) : Bool :=
  if headBad n t then false
  else if keysBad t then false
  else if t.kind = 2 then decide (t.reads.length = 0) && (decide (t.ops.length = 0) && (decide (t.writes.length = 1) && (decide (0 ≤ t.to) && decide (t.to < n))))
  else if t.kind ≠ 1 ∨ t.to ≠ 0 ∨ 16 < t.ops.length then false
  else t.ops.all fun x => opRight t x.1
theorem right_same {a b : TxX} (h : SameP a b) (n : Int) : rightT n a = rightT n b := by
  obtain ⟨h1, h2, h3, h4, h5⟩ := h
  have hl : a.ops.length = b.ops.length := by have := congrArg List.length h5; simpa using this
  have ho : (a.ops.all fun x => opRight a x.1) = (b.ops.all fun x => opRight b x.1) := by
    have e : ∀ o, opRight a o = opRight b o := fun o => by unfold opRight; rw [h3, h4]
    have e2 : ∀ (t : TxX), (t.ops.all fun x => opRight b x.1) = ((t.ops.map Prod.fst).all fun o => opRight b o) := fun t => by rw [List.all_map]; rfl
    simp only [e]
    rw [e2 a, e2 b, h5]
  unfold rightT headBad keysBad
  rw [h1, h2, h3, h4, hl, ho]
theorem flatMap_1 {α β : Type} (f : α → β) (L : List α) : L.flatMap (fun x => [f x]) = L.map f := by induction L <;> simp_all
section
variable {B : World} {Γ Δ : List HProp} {k : K}
theorem s_ldA0 {α : Type} {a : Addr} {cs : List Value} {c : α → Value} {x : α} {k : α → K} (hn : ∀ w, Holds B Γ w → RdN w a cs.toArray) (hv : cs[0]? = some (c x)) (h : HG B Γ (k x)) : HG B Γ (Ld a c k) := fun w hw => ⟨x, by
  have := hn w hw 0 (by have := (List.getElem?_eq_some_iff.1 hv).1; simpa using this)
  rw [add0] at this
  rw [this]; simpa using hv, h w hw⟩
theorem s_ldSA {Γ0 : List HProp} {α : Type} {a : Addr} {off : Nat} {cs : List Value} {c : α → Value} {x : α} {k : α → K} (hn : ∀ w, Holds B Γ0 w → RdN w a cs.toArray) (hv : cs[off]? = some (c x)) (h : HG B Γ (k x)) : HG B Γ (LdS (Holds B Γ0) (a.add off) c k) := fun w hw => ⟨x, fun w' hw' => by
  have := hn w' hw' off (by have := (List.getElem?_eq_some_iff.1 hv).1; simpa using this)
  rw [this]; simpa using hv, h w hw⟩
theorem s_ldSA0 {Γ0 : List HProp} {α : Type} {a : Addr} {cs : List Value} {c : α → Value} {x : α} {k : α → K} (hn : ∀ w, Holds B Γ0 w → RdN w a cs.toArray) (hv : cs[0]? = some (c x)) (h : HG B Γ (k x)) : HG B Γ (LdS (Holds B Γ0) a c k) := by
  have := s_ldSA (off := 0) hn hv h
  rwa [add0] at this
theorem s_ldNSA {Γ0 : List HProp} {a : Addr} {n : Nat} {cs : List Value} {k : Array Value → K} (hn : ∀ w, Holds B Γ0 w → RdN w a cs.toArray) (hl : cs.length = n) (h : HG B Γ (k cs.toArray)) : HG B Γ (LdNS (Holds B Γ0) a n k) := fun w hw => ⟨cs.toArray, by simpa using hl, fun w' hw' => hn w' hw', h w hw⟩
/-- An element's place, in every state. -/
theorem s_idxFA {α : Type} (f : α → List Value) {esz : Nat} {L : List α} {s : Sl} {j : Nat} {jj : Int} {x : α} {k : Addr → K} (hf : ∀ x, (f x).length = esz) (he : 0 < esz) (hr : ∀ w, Holds B Γ w → RdC w s esz (L.flatMap f)) (hx : L[j]? = some x) (h : ∀ t, (∀ w, RdC w s esz (L.flatMap f) → RdN w t (f x).toArray) → HG B Γ (k t)) (hj : jj = (j : Int) := by first | rfl | omega) :
    HG B Γ (Idx s jj esz k) := fun w hw => by
  subst hj
  have hrw := hr w hw
  have hj : j < L.length := (List.getElem?_eq_some_iff.1 hx).1
  have hn : L.length = s.n := by
    have := hrw.len; rw [flatMap_len f esz hf] at this
    exact Nat.eq_of_mul_eq_mul_right he this
  cases ha : s.a with
  | none => have := hrw.nil ha; omega
  | some a =>
    refine ⟨a, _, ha, by omega, by omega, rfl, h _ (fun w' hw' => ?_) w hw⟩
    simp only [Int.toNat_natCast]
    exact flat_at f esz hf hw' ha hx
theorem rising05_hg {s : Sl} {L : List TX} {Q : Bool → K} (hL : L.length < 1000000000) (hr : ∀ w, Holds B Γ w → RdC w s 1 (L.map strV)) (h : HG B Γ (Q (decide (Rises L)))) : HG B Γ (ref05_Rising.call s Q) := fun w hw => by
  refine ref05_Rising_ok _ _ _ ?_
  have hn : s.n = L.length := by have := (hr w hw).len; simpa using this.symm
  refine Sep.hg hw ?_
  clear hw w
  unfold ref05_Rising
  refine s_loopC (α := Int) (fun x => ∃ i : Nat, x = (i : Int) ∧ 1 ≤ i ∧ i ≤ L.length + 1 ∧ Rises (L.take i)) (fun x => L.length + 1 - x.toNat) ⟨1, rfl, Nat.le_refl _, by omega, ?_⟩ fun k' x hx hk' => ?_
  · match L with
    | [] => exact List.Pairwise.nil
    | x :: L => exact List.pairwise_singleton _ _
  obtain ⟨i, rfl, hi1, hi, hp⟩ := hx
  unfold ref05_Rising.b1
  refine s_ite (fun hb => ?_) fun hb => ?_
  · have hil : i < L.length := by simp only [decide_eq_true_eq] at hb; omega
    obtain ⟨j, rfl⟩ : ∃ j, i = j + 1 := ⟨i - 1, by omega⟩
    have g1 : L[j]? = some L[j] := List.getElem?_eq_getElem (by omega)
    have g2 : L[j + 1]? = some L[j + 1] := List.getElem?_eq_getElem hil
    have t1 : L.take (j + 1) = L.take j ++ [L[j]] := List.take_succ_eq_append_getElem (by omega)
    have t2 : L.take (j + 1 + 1) = L.take (j + 1) ++ [L[j + 1]] := List.take_succ_eq_append_getElem hil
    have hpi : Rises L → L[j] < L[j + 1] := fun h => (List.pairwise_iff_getElem.1 h) j (j + 1) (by omega) hil (by omega)
    generalize L[j] = x at g1 t1 hpi
    generalize L[j + 1] = y at g2 t2 hpi
    refine s_dr ?_
    refine s_ai ?_
    refine s_idxS hr g1 ?_ (by omega)
    refine s_idxS hr g2 ?_ (by omega)
    rw [bs_list, bs_list, bytesLess_dec]
    refine s_ite (fun hc => ?_) fun hc => ?_
    · have hxy : ¬ x < y := by simpa using hc
      rw [show decide (Rises L) = false from decide_eq_false fun h => hxy (hpi h)] at h
      exact h
    · have hxy : x < y := by simpa using hc
      refine s_ai ?_
      refine hk' _ ⟨j + 2, by simp; omega, by omega, by omega, ?_⟩ (by omega)
      rw [show j + 2 = j + 1 + 1 from rfl, t2]
      refine List.pairwise_append.2 ⟨hp, List.pairwise_singleton _ _, fun a ha b hb => ?_⟩
      rw [List.mem_singleton.1 hb]
      rw [t1] at ha hp
      rcases List.mem_append.1 ha with ha | ha
      · exact List.lt_trans ((List.pairwise_append.1 hp).2.2 a ha x (by simp)) hxy
      · rw [List.mem_singleton.1 ha]; exact hxy
  · have hil : L.length ≤ i := by simp only [decide_eq_false_iff_not] at hb; omega
    rw [List.take_of_length_le hil] at hp
    rw [show decide (Rises L) = true from decide_eq_true hp] at h
    exact h
theorem op05_hg {t : TxX} {x : OpX} {Q : Bool → K} (hr : ∀ w, Holds B Γ w → txRd w t) (hl : t.reads.length < 100000000 ∧ t.writes.length < 100000000) (hx : ∀ w, Holds B Γ w → RdB w x.2 x.1.val) (h : HG B Γ (Q (opRight t x.1))) : HG B Γ (ref05_op.call (txL t).toArray (opF x).toArray Q) := fun w hw => by
  refine ref05_op_ok _ _ _ _ ?_
  have hxl : x.2.n = x.1.val.length := by have := (hx w hw).len; simpa using this.symm
  refine Sep.hg hw ?_
  clear hw w
  unfold ref05_op
  refine s_new fun t2 => ?_
  refine s_new fun o3 => ?_
  have fin : HG B (blk o3 (.cells (opF x).toArray ty_api_Op (0, 0)) :: blk t2 (.cells (txL t).toArray ty_api_Txn (0, 0)) :: Γ) (Q (opRight t x.1)) := s_end h
  generalize hR : opRight t x.1 = R at fin
  unfold opRight at hR
  have S4 : ∀ b, (b = true ↔ x.1.kind ≠ 6 ∧ x.1.n ≠ 0) → (if x.1.kind ≠ 6 ∧ x.1.n ≠ 0 then false else decide (x.1.kind = 2) || (decide (x.1.kind = 4) || decide (x.1.val.length = 0))) = R → HG B (blk o3 (.cells (opF x).toArray ty_api_Op (0, 0)) :: blk t2 (.cells (txL t).toArray ty_api_Txn (0, 0)) :: Γ) (ref05_op.s4 Q ⟨o3, 0, none⟩ b) := fun b hb hR => by
    unfold ref05_op.s4 ref05_op.s5
    refine s_ite (fun hb1 => ?_) fun hb1 => ?_
    · rw [if_pos (hb.1 hb1)] at hR
      rw [hR]; exact fin
    · rw [if_neg fun h => by rw [hb.2 h] at hb1; cases hb1] at hR
      repeat refine s_nx ?_
      refine s_ite (fun hc => ?_) fun hc => ?_
      · rw [hc] at hR
        rw [show true = R by rw [← hR]; rfl]; exact fin
      · repeat refine s_nx ?_
        rw [hc] at hR
        refine s_ite (fun hd => ?_) fun hd => ?_
        · rw [hd] at hR
          rw [show true = R by rw [← hR]; rfl]; exact fin
        · repeat refine s_nx ?_
          rw [hd] at hR
          rw [show decide ((x.2.n : Int) = 0) = R by rw [← hR, hxl]; simp only [Bool.false_or]; exact decide_eq_decide.2 (by omega)]
          exact fin
  have S3 : ∀ b, (b = true ↔ x.1.key ∉ t.writes ∧ (x.1.key ∉ t.reads ∨ x.1.kind = 2 ∨ x.1.kind = 3 ∨ x.1.kind = 6)) → (if x.1.key ∉ t.writes ∧ (x.1.key ∉ t.reads ∨ x.1.kind = 2 ∨ x.1.kind = 3 ∨ x.1.kind = 6) then false else if x.1.kind ≠ 6 ∧ x.1.n ≠ 0 then false else decide (x.1.kind = 2) || (decide (x.1.kind = 4) || decide (x.1.val.length = 0))) = R → HG B (blk o3 (.cells (opF x).toArray ty_api_Op (0, 0)) :: blk t2 (.cells (txL t).toArray ty_api_Txn (0, 0)) :: Γ) (ref05_op.s3 Q ⟨o3, 0, none⟩ b) := fun b hb hR => by
    unfold ref05_op.s3
    refine s_ite (fun hb1 => ?_) fun hb1 => ?_
    · rw [if_pos (hb.1 hb1)] at hR
      rw [hR]; exact fin
    · rw [if_neg fun h => by rw [hb.2 h] at hb1; cases hb1] at hR
      repeat refine s_nx ?_
      refine s_ite (fun hc => ?_) fun hc => ?_
      · have hc' : x.1.kind ≠ 6 := by simpa using hc
        repeat refine s_nx ?_
        exact S4 _ (by simp [hc']) hR
      · have hc' : x.1.kind = 6 := by simpa using hc
        exact S4 _ (by simp [hc']) hR
  have S1 : ∀ b, (b = true ↔ 32 < x.1.val.length ∨ x.1.kind < 1 ∨ 7 < x.1.kind) → HG B (blk o3 (.cells (opF x).toArray ty_api_Op (0, 0)) :: blk t2 (.cells (txL t).toArray ty_api_Txn (0, 0)) :: Γ) (ref05_op.s1 Q ⟨t2, 0, none⟩ ⟨o3, 0, none⟩ b) := fun b hb => by
    unfold ref05_op.s1 ref05_op.s2
    refine s_ite (fun hb1 => ?_) fun hb1 => ?_
    · rw [if_pos (hb.1 hb1)] at hR
      rw [hR]; exact fin
    · rw [if_neg fun h => by rw [hb.2 h] at hb1; cases hb1] at hR
      repeat refine s_nx ?_
      refine s_ite (fun hc => ?_) fun hc => ?_
      · have hc' : x.1.kind = 7 := by simpa using hc
        rw [if_pos hc'] at hR
        repeat refine s_nx ?_
        rw [bs_list]
        refine s_ite (fun hd => ?_) fun hd => ?_
        · have hd' : x.1.key = [] := by simpa using hd
          repeat refine s_nx ?_
          rw [show decide (x.1.n = 0) = R by rw [← hR, hd']; rfl]
          exact fin
        · have hd' : x.1.key ≠ [] := by simpa using hd
          rw [show false = R by rw [← hR, decide_eq_false hd']; rfl]
          exact fin
      · have hc' : x.1.kind ≠ 7 := by simpa using hc
        rw [if_neg hc'] at hR
        repeat refine s_nx ?_
        refine in05_hg (L := t.writes) (key := x.1.key) (by omega) (fun w hw => (hr w hw.drops).2.1) ?_
        by_cases hw1 : x.1.key ∈ t.writes
        · rw [decide_eq_true hw1]
          refine s_f ?_
          exact S3 _ (by simp [hw1]) hR
        rw [decide_eq_false hw1]
        refine s_t ?_
        repeat refine s_nx ?_
        refine in05_hg (L := t.reads) (key := x.1.key) (by omega) (fun w hw => (hr w hw.drops).1) ?_
        by_cases hr1 : x.1.key ∈ t.reads
        · rw [decide_eq_true hr1]
          refine s_f ?_
          repeat refine s_nx ?_
          refine s_ite (fun hd => ?_) fun hd => ?_
          · exact S3 _ (by have : x.1.kind = 2 := by simpa using hd
                           simp [hw1, this]) hR
          repeat refine s_nx ?_
          refine s_ite (fun he => ?_) fun he => ?_
          · exact S3 _ (by have : x.1.kind = 3 := by simpa using he
                           simp [hw1, this]) hR
          repeat refine s_nx ?_
          refine S3 _ ?_ hR
          have h2 : ¬ x.1.kind = 2 := by simpa using hd
          have h3 : ¬ x.1.kind = 3 := by simpa using he
          simp [hw1, hr1, h2, h3]
        · rw [decide_eq_false hr1]
          refine s_t ?_
          exact S3 _ (by simp [hw1, hr1]) hR
  repeat refine s_nx ?_
  refine s_ite (fun hb => ?_) fun hb => ?_
  · exact S1 _ (by have : 32 < x.1.val.length := by simp only [decide_eq_true_eq] at hb; omega
                   simp [this])
  have h32 : ¬ 32 < x.1.val.length := by simp only [decide_eq_false_iff_not] at hb; omega
  repeat refine s_nx ?_
  refine s_ite (fun hc => ?_) fun hc => ?_
  · exact S1 _ (by have : x.1.kind < 1 := by simpa using hc
                   simp [this])
  have h1 : ¬ x.1.kind < 1 := by simpa using hc
  repeat refine s_nx ?_
  refine S1 _ ?_
  simp [h32, h1]
theorem right05_hg {t : TxX} {n : Int} {Q : Bool → K} (hr : ∀ w, Holds B Γ w → txRd w t) (hl : t.reads.length < 10000000 ∧ t.writes.length < 10000000 ∧ t.ops.length < 10000000) (h : HG B Γ (Q (rightT n t))) : HG B Γ (ref05_Right.call (txL t).toArray n Q) := fun w hw => by
  refine ref05_Right_ok _ _ _ _ ?_
  obtain ⟨n1, n2, n3⟩ := tx_lens (hr w hw)
  refine Sep.hg hw ?_
  clear hw w
  unfold ref05_Right
  refine s_new fun t2 => ?_
  have fin : HG B (blk t2 (.cells (txL t).toArray ty_api_Txn (0, 0)) :: Γ) (Q (rightT n t)) := s_end h
  generalize hR : rightT n t = R at fin
  unfold rightT at hR
  have S1 : ∀ b, (b = true ↔ headBad n t) → HG B (blk t2 (.cells (txL t).toArray ty_api_Txn (0, 0)) :: Γ) (ref05_Right.s1 Q n ⟨t2, 0, none⟩ b) := fun b hb => by
    unfold ref05_Right.s1
    refine s_ite (fun hb1 => ?_) fun hb1 => ?_
    · rw [if_pos (hb.1 hb1)] at hR
      rw [hR]; exact fin
    rw [if_neg fun h => by rw [hb.2 h] at hb1; cases hb1] at hR
    refine s_dr ?_
    refine s_wsD [blk t2 (.cells (txL t).toArray ty_api_Txn (0, 0))] ?_
    repeat refine s_nx ?_
    refine s_new fun t9 => ?_
    refine s_conv (A' := SlC ty_string 1 ⟨some ⟨t9, 0, none⟩, 0, 0⟩ []) (blk_SlC (vs := []) rfl (by simp)) ?_
    repeat refine s_nx ?_
    refine s_append (s := ⟨some ⟨t9, 0, none⟩, 0, 0⟩) (us := t.reads.map strV) (fun w hw => (hr w hw.drops).1) (fun v hv => by obtain ⟨y, _, rfl⟩ := List.mem_map.1 hv; rfl) (by simp only; omega) fun a1 ha1 => ?_
    repeat refine s_nx ?_
    refine s_append (s := a1) (us := t.writes.map strV) (fun w hw => (hr w hw.drops).2.1) (fun v hv => by obtain ⟨y, _, rfl⟩ := List.mem_map.1 hv; rfl) (by simp only at ha1; omega) fun all hall => ?_
    rw [show [] ++ t.reads.map strV ++ t.writes.map strV = (t.reads ++ t.writes).map strV by simp]
    have hln : (t.reads ++ t.writes).length = t.reads.length + t.writes.length := List.length_append
    have halln : all.n = t.reads.length + t.writes.length := by simp only at ha1; omega
    have fin2 : HG B (SlS all (t.reads ++ t.writes) :: blk t2 (.cells (txL t).toArray ty_api_Txn (0, 0)) :: Γ) (Q R) := s_end fin
    refine s_loopC (α := Int) (fun x => ∃ i : Nat, x = (i : Int) ∧ i ≤ (t.reads ++ t.writes).length ∧ (∀ k ∈ (t.reads ++ t.writes).take i, 1 ≤ k.length ∧ k.length ≤ 16) ∧ ∀ k ∈ t.reads.take i, k ∉ t.writes) (fun x => (t.reads ++ t.writes).length - x.toNat) ⟨0, rfl, Nat.zero_le _, by simp, by simp⟩ fun k1 x hx hk1 => ?_
    obtain ⟨i, rfl, hi, hs1, hs2⟩ := hx
    unfold ref05_Right.b2
    refine s_ite (fun hc => ?_) fun hc => ?_
    · have hil : i < (t.reads ++ t.writes).length := by simp only [decide_eq_true_eq] at hc; omega
      have hge : (t.reads ++ t.writes)[i]? = some (t.reads ++ t.writes)[i] := List.getElem?_eq_getElem hil
      have hmem : (t.reads ++ t.writes)[i] ∈ t.reads ++ t.writes := List.getElem_mem hil
      have htk : (t.reads ++ t.writes).take (i + 1) = (t.reads ++ t.writes).take i ++ [(t.reads ++ t.writes)[i]] := List.take_succ_eq_append_getElem hil
      have hrt : t.reads.take (i + 1) = t.reads.take i ++ if i < t.reads.length then [(t.reads ++ t.writes)[i]] else [] := by
        by_cases hir : i < t.reads.length
        · rw [if_pos hir, List.take_succ_eq_append_getElem hir, List.getElem_append_left hir]
        · rw [if_neg hir, List.take_of_length_le (by omega), List.take_of_length_le (by omega), List.append_nil]
      generalize (t.reads ++ t.writes)[i] = x at hge hmem htk hrt
      have hsz : (bs x).size = x.length := rfl
      have S3 : ∀ b, (b = true ↔ (x.length < 1 ∨ 16 < x.length) ∨ (i < t.reads.length ∧ x ∈ t.writes)) → HG B (SlS all (t.reads ++ t.writes) :: blk t2 (.cells (txL t).toArray ty_api_Txn (0, 0)) :: Γ) (ref05_Right.s3 Q k1 n ⟨t2, 0, none⟩ all (i : Int) b) := fun b hb => by
        unfold ref05_Right.s3
        refine s_ite (fun hb1 => ?_) fun hb1 => ?_
        · have : keysBad t := by
            rcases hb.1 hb1 with h | ⟨h, h'⟩
            · exact .inl ⟨x, hmem, h⟩
            · refine .inr ⟨x, ?_, h'⟩
              rw [List.getElem?_append_left h] at hge
              exact List.mem_of_getElem? hge
          rw [if_pos this] at hR
          rw [hR]; exact fin2
        · have hnb : ¬ ((x.length < 1 ∨ 16 < x.length) ∨ (i < t.reads.length ∧ x ∈ t.writes)) := fun h => by rw [hb.2 h] at hb1; cases hb1
          refine s_ai ?_
          refine hk1 _ ⟨i + 1, by simp, hil, fun y hy => ?_, fun y hy => ?_⟩ (by omega)
          · rw [htk] at hy
            rcases List.mem_append.1 hy with hy | hy
            · exact hs1 y hy
            · rw [List.mem_singleton.1 hy]; omega
          · rw [hrt] at hy
            rcases List.mem_append.1 hy with hy | hy
            · exact hs2 y hy
            · split at hy
              · rename_i hir
                rw [List.mem_singleton.1 hy]
                exact fun hxw => hnb (.inr ⟨hir, hxw⟩)
              · cases hy
      refine s_dr ?_
      refine s_idxS (L := t.reads ++ t.writes) (fun w hw => (own_rd (s := all) hw).1) hge ?_
      refine s_ite (fun hd => ?_) fun hd => ?_
      · exact S3 _ (by have : x.length < 1 := by simp only [decide_eq_true_eq] at hd; omega
                       simp [this])
      refine s_idxS (L := t.reads ++ t.writes) (fun w hw => (own_rd (s := all) hw).1) hge ?_
      have hd' : ¬ x.length < 1 := by simp only [decide_eq_false_iff_not] at hd; omega
      refine s_ite (fun he => ?_) fun he => ?_
      · exact S3 _ (by have : 16 < x.length := by simp only [decide_eq_true_eq] at he; omega
                       simp [this])
      have he' : ¬ 16 < x.length := by simp only [decide_eq_false_iff_not] at he; omega
      repeat refine s_nx ?_
      refine s_ite (fun hf => ?_) fun hf => ?_
      · have hir : i < t.reads.length := by simp only [decide_eq_true_eq] at hf; omega
        refine s_idxFA (fun x : TX => [strV x]) (L := t.reads ++ t.writes) (esz := 1) (fun _ => rfl) (by omega) (fun w hw => by rw [flatMap_1]; exact (own_rd (s := all) hw).1) hge (fun t86 ht86 => ?_) rfl
        repeat refine s_nx ?_
        refine s_ldA0 (cs := [strV x]) (x := bs x) (fun w hw => ht86 w (by rw [flatMap_1]; exact (own_rd (s := all) hw).1)) rfl ?_
        refine in05_hg (L := t.writes) (key := x) (by omega) (fun w hw => (hr w hw.drops).2.1) ?_
        exact S3 _ (by rw [decide_eq_true_eq]; constructor
                       · exact fun h => .inr ⟨hir, h⟩
                       · rintro ((h | h) | h)
                         · exact absurd h hd'
                         · exact absurd h he'
                         · exact h.2)
      · have hir : ¬ i < t.reads.length := by simp only [decide_eq_false_iff_not] at hf; omega
        exact S3 _ (by constructor
                       · exact fun h => by cases h
                       · rintro ((h | h) | h)
                         · exact absurd h hd'
                         · exact absurd h he'
                         · exact absurd h.1 hir)
    have hil : i = (t.reads ++ t.writes).length := by simp only [decide_eq_false_iff_not] at hc; omega
    rw [hil, List.take_length] at hs1
    rw [List.take_of_length_le (by omega)] at hs2
    rw [if_neg (by
      rintro (⟨k, hk, h⟩ | ⟨k, hk, h⟩)
      · have := hs1 k hk; omega
      · exact hs2 k hk h)] at hR
    have S4 : ∀ b, b = R → HG B (SlS all (t.reads ++ t.writes) :: blk t2 (.cells (txL t).toArray ty_api_Txn (0, 0)) :: Γ) (ref05_Right.s4 Q k1 b) := fun b hb => by
      unfold ref05_Right.s4
      rw [hb]; exact fin2
    repeat refine s_nx ?_
    refine s_ite (fun hd => ?_) fun hd => ?_
    · have hk2 : t.kind = 2 := by simpa using hd
      rw [if_pos hk2] at hR
      repeat refine s_nx ?_
      refine s_ite (fun he => ?_) fun he => ?_
      rotate_left
      · refine S4 _ ?_
        rw [← hR, show decide (t.reads.length = 0) = false from decide_eq_false (by simp only [decide_eq_false_iff_not] at he; omega)]; rfl
      rw [show decide (t.reads.length = 0) = true from decide_eq_true (by simp only [decide_eq_true_eq] at he; omega), Bool.true_and] at hR
      repeat refine s_nx ?_
      refine s_ite (fun he2 => ?_) fun he2 => ?_
      rotate_left
      · refine S4 _ ?_
        rw [← hR, show decide (t.ops.length = 0) = false from decide_eq_false (by simp only [decide_eq_false_iff_not] at he2; omega)]; rfl
      rw [show decide (t.ops.length = 0) = true from decide_eq_true (by simp only [decide_eq_true_eq] at he2; omega), Bool.true_and] at hR
      repeat refine s_nx ?_
      refine s_ite (fun he3 => ?_) fun he3 => ?_
      rotate_left
      · refine S4 _ ?_
        rw [← hR, show decide (t.writes.length = 1) = false from decide_eq_false (by simp only [decide_eq_false_iff_not] at he3; omega)]; rfl
      rw [show decide (t.writes.length = 1) = true from decide_eq_true (by simp only [decide_eq_true_eq] at he3; omega), Bool.true_and] at hR
      repeat refine s_nx ?_
      refine s_ite (fun he4 => ?_) fun he4 => ?_
      rotate_left
      · refine S4 _ ?_
        rw [← hR, he4]; rfl
      rw [he4, Bool.true_and] at hR
      repeat refine s_nx ?_
      exact S4 _ hR
    have hk2 : ¬ t.kind = 2 := by simpa using hd
    rw [if_neg hk2] at hR
    have S5 : ∀ b, (b = true ↔ t.kind ≠ 1 ∨ t.to ≠ 0 ∨ 16 < t.ops.length) → HG B (SlS all (t.reads ++ t.writes) :: blk t2 (.cells (txL t).toArray ty_api_Txn (0, 0)) :: Γ) (ref05_Right.s5 Q k1 ⟨t2, 0, none⟩ b) := fun b hb => by
      unfold ref05_Right.s5
      refine s_ite (fun hb1 => ?_) fun hb1 => ?_
      · rw [if_pos (hb.1 hb1)] at hR
        rw [hR]; exact fin2
      rw [if_neg fun h => by rw [hb.2 h] at hb1; cases hb1] at hR
      refine s_loopC (α := Int) (fun x => ∃ i : Nat, x = (i : Int) ∧ i ≤ t.ops.length ∧ ((t.ops.take i).all fun x => opRight t x.1) = true) (fun x => t.ops.length - x.toNat) ⟨0, rfl, Nat.zero_le _, by simp⟩ fun k6 x hx hk6 => ?_
      obtain ⟨m, rfl, hm, hs3⟩ := hx
      unfold ref05_Right.b6
      repeat refine s_nx ?_
      refine s_ite (fun hc6 => ?_) fun hc6 => ?_
      · have hml : m < t.ops.length := by simp only [decide_eq_true_eq] at hc6; omega
        have hge : t.ops[m]? = some t.ops[m] := List.getElem?_eq_getElem hml
        have hmem : t.ops[m] ∈ t.ops := List.getElem_mem hml
        have htk : t.ops.take (m + 1) = t.ops.take m ++ [t.ops[m]] := List.take_succ_eq_append_getElem hml
        generalize t.ops[m] = x at hge hmem htk
        repeat refine s_nx ?_
        refine s_idxN opF opF_len (fun w hw => (hr w hw.drops).2.2.1) hge ?_
        refine op05_hg (t := t) (x := x) (fun w hw => hr w hw.drops) ⟨by omega, by omega⟩ (fun w hw => (hr w hw.drops).2.2.2 x hmem) ?_
        by_cases ho : opRight t x.1 = true
        · rw [ho]
          refine s_f ?_
          refine s_ai ?_
          refine hk6 _ ⟨m + 1, by simp, hml, ?_⟩ (by omega)
          rw [htk, List.all_append, hs3]; simpa using ho
        · have ho' : opRight t x.1 = false := by simpa using ho
          rw [ho']
          refine s_t ?_
          rw [show false = R by rw [← hR]; symm; rw [List.all_eq_false]; exact ⟨x, hmem, by simpa using ho'⟩]
          exact fin2
      · have hml : m = t.ops.length := by simp only [decide_eq_false_iff_not] at hc6; omega
        rw [hml, List.take_length] at hs3
        rw [show true = R by rw [← hR, hs3]]
        exact fin2
    repeat refine s_nx ?_
    refine s_ite (fun he => ?_) fun he => ?_
    · exact S5 _ (by have : t.kind ≠ 1 := by simpa using he
                     simp [this])
    have hk1' : t.kind = 1 := by simpa using he
    repeat refine s_nx ?_
    refine s_ite (fun hf => ?_) fun hf => ?_
    · exact S5 _ (by have : t.to ≠ 0 := by simpa using hf
                     simp [this])
    have hto : t.to = 0 := by simpa using hf
    repeat refine s_nx ?_
    refine S5 _ ?_
    simp [hk1', hto]
    omega
  refine s_ite (fun hb => S1 _ (by have : n < 1 := by simpa using hb
                                   simp [headBad, this])) fun hb => ?_
  have hn1 : ¬ n < 1 := by simpa using hb
  refine s_ite (fun hb => S1 _ (by have : 3 < n := by simpa using hb
                                   simp [headBad, this])) fun hb => ?_
  have hn3 : ¬ 3 < n := by simpa using hb
  repeat refine s_nx ?_
  refine rising05_hg (L := t.reads) (by omega) (fun w hw => (hr w hw.drops).1) ?_
  by_cases hr1 : Rises t.reads
  rotate_left
  · rw [decide_eq_false hr1]
    exact s_t (S1 _ (by simp [headBad, hr1]))
  rw [decide_eq_true hr1]
  refine s_f ?_
  repeat refine s_nx ?_
  refine rising05_hg (L := t.writes) (by omega) (fun w hw => (hr w hw.drops).2.1) ?_
  by_cases hr2 : Rises t.writes
  rotate_left
  · rw [decide_eq_false hr2]
    exact s_t (S1 _ (by simp [headBad, hr2]))
  rw [decide_eq_true hr2]
  refine s_f ?_
  repeat refine s_nx ?_
  refine s_ite (fun hb => S1 _ (by have : 8 < t.reads.length := by simp only [decide_eq_true_eq] at hb; omega
                                   simp [headBad, this])) fun hb => ?_
  have h8 : ¬ 8 < t.reads.length := by simp only [decide_eq_false_iff_not] at hb; omega
  repeat refine s_nx ?_
  refine s_ite (fun hb => S1 _ (by have : 8 < t.writes.length := by simp only [decide_eq_true_eq] at hb; omega
                                   simp [headBad, this])) fun hb => ?_
  have h9 : ¬ 8 < t.writes.length := by simp only [decide_eq_false_iff_not] at hb; omega
  repeat refine s_nx ?_
  refine s_ar (e' := (t.reads.length + t.writes.length : Int)) (by rw [wrap64 (by omega) (by omega)]; omega) ?_
  refine S1 _ ?_
  simp only [headBad, hn1, hn3, hr1, hr2, h8, h9, not_true, false_or, decide_eq_true_eq]
  omega
end
end Go.Proofs.YtinpgiafjjibnaaGreat
/- The document's Same of results and of rows, where they are one. -/
namespace Go.Proofs.YtinpgiafjjibnaaGreat
open Go Go.Sep Go.Sep.Bt
set_option linter.unusedSimpArgs false
set_option linter.unusedVariables false
set_option maxRecDepth 100000
section
variable {B : World} {Γ Δ : List HProp} {Q : Bool → K}
theorem sameRec_hg {r : Rec} {a b : Sl} (ha : ∀ w, Holds B Γ w → RdB w a r.val) (hb : ∀ w, Holds B Γ w → RdB w b r.val) (h : HG B Γ (Q true)) : HG B Γ (ref06_SameRecord.call (recL r a).toArray (recL r b).toArray Q) := fun w hw => by
  refine ref06_SameRecord_ok _ _ _ _ ?_
  refine Sep.hg hw ?_
  clear hw w
  unfold ref06_SameRecord
  refine s_new fun a2 => ?_
  refine s_new fun b3 => ?_
  repeat refine s_nx ?_
  refine s_t ?_ (by simp)
  repeat refine s_nx ?_
  refine s_str (xs := r.val) (fun w hw => ha w hw.drops) ?_
  repeat refine s_nx ?_
  refine s_str (xs := r.val) (fun w hw => hb w hw.drops) ?_
  refine s_t ?_ (by simp)
  repeat refine s_nx ?_
  refine s_t ?_ (by simp)
  repeat refine s_nx ?_
  unfold ref06_SameRecord.s1
  rw [show decide (r.cnt = r.cnt) = true by simp]
  exact s_end h
/-- Two lists of rows that are one. -/
theorem same6_hg {a b : Sl} {X Y : List RecX} (hX : X.length < 100000000) (hXY : X.map recM = Y.map recM) (ha : ∀ w, Holds B Γ w → RdC w a 5 (X.flatMap rowF6)) (hb : ∀ w, Holds B Γ w → RdC w b 5 (Y.flatMap rowF6))
    (hva : ∀ x ∈ X, ∀ w, Holds B Γ w → RdB w x.2.2 x.2.1.val) (hvb : ∀ x ∈ Y, ∀ w, Holds B Γ w → RdB w x.2.2 x.2.1.val) (h : HG B Γ (Q true)) : HG B Γ (ref06_Same.call a b Q) := fun w hw => by
  refine ref06_Same_ok _ _ _ _ ?_
  have han := rd_len rowF6_len (by omega) (ha w hw)
  have hbn := rd_len rowF6_len (by omega) (hb w hw)
  have hlen : X.length = Y.length := by have := congrArg List.length hXY; simpa using this
  refine Sep.hg hw ?_
  clear hw w
  unfold ref06_Same
  refine s_f ?_ (by simp; omega)
  refine s_loopC (α := Int) (fun x => ∃ i : Nat, x = (i : Int) ∧ i ≤ X.length) (fun x => X.length - x.toNat) ⟨0, rfl, Nat.zero_le _⟩ fun k' x hx hk' => ?_
  obtain ⟨i, rfl, hi⟩ := hx
  unfold ref06_Same.b1
  refine s_ite (fun hc => ?_) fun hc => h
  have hil : i < X.length := by simp only [decide_eq_true_eq] at hc; omega
  have g1 : X[i]? = some X[i] := List.getElem?_eq_getElem hil
  have g2 : Y[i]? = some Y[i] := List.getElem?_eq_getElem (by omega)
  have m1 : X[i] ∈ X := List.getElem_mem hil
  have m2 : Y[i] ∈ Y := List.getElem_mem (by omega)
  have he : recM X[i] = recM Y[i] := by
    have := congrArg (·[i]?) hXY
    simp only [List.getElem?_map, g1, g2, Option.map_some, Option.some.injEq] at this
    exact this
  generalize X[i] = x at g1 m1 he
  generalize Y[i] = y at g2 m2 he
  obtain ⟨xk, xr, xs⟩ := x
  obtain ⟨yk, yr, ys⟩ := y
  obtain ⟨rfl, rfl⟩ : xk = yk ∧ xr = yr := by simpa using he
  refine s_dr ?_
  refine s_idxFA rowF6 rowF6_len (by omega) ha g1 fun t1 ht1 => ?_
  refine s_idxFA rowF6 rowF6_len (by omega) hb g2 fun t2 ht2 => ?_
  refine s_ldA0 (cs := rowF6 (xk, xr, xs)) (x := xk) (fun w hw => ht1 w (ha w hw)) rfl ?_
  refine s_ldA0 (cs := rowF6 (xk, xr, ys)) (x := xk) (fun w hw => ht2 w (hb w hw)) rfl ?_
  refine s_f ?_ (by simp)
  refine s_idxFA rowF6 rowF6_len (by omega) ha g1 fun t3 ht3 => ?_
  refine s_idxFA rowF6 rowF6_len (by omega) hb g2 fun t4 ht4 => ?_
  have part : ∀ {t : Addr} {z : RecX} {s : Sl} {Z : List RecX} {k : Array Value → K}, (∀ w, RdC w s 5 (Z.flatMap rowF6) → RdN w t (rowF6 z).toArray) → (∀ w, Holds B Γ w → RdC w s 5 (Z.flatMap rowF6)) → HG B Γ (k (recL z.2.1 z.2.2).toArray) → HG B Γ (LdN (t.add 1) 4 k) := fun {t z s Z k} ht hz hk w hw => ⟨_, rfl, fun i hi => by
    have := ht w (hz w hw) (1 + i) (by simp at hi ⊢; omega)
    have e : (t.add 1).add i = t.add (1 + i) := by simp [Addr.add, Nat.add_assoc]
    rw [e, this]
    simp [Nat.add_comm 1 i], hk w hw⟩
  refine part (z := (xk, xr, xs)) ht3 ha ?_
  refine part (z := (xk, xr, ys)) ht4 hb ?_
  refine sameRec_hg (hva _ m1) (hvb _ m2) ?_
  unfold ref06_Same.s2
  refine s_f ?_
  refine s_ai ?_
  exact hk' _ ⟨i + 1, by simp, hil⟩ (by omega)
/-- Two results that are one. -/
theorem same7_hg {a b : Sl} {c : Int} {X Y : OX} (hX : X.length < 100000000) (hXY : X.map Prod.fst = Y.map Prod.fst) (ha : ∀ w, Holds B Γ w → RdC w a 2 (X.flatMap oF)) (hb : ∀ w, Holds B Γ w → RdC w b 2 (Y.flatMap oF))
    (hva : ∀ x ∈ X, ∀ w, Holds B Γ w → RdB w x.2 x.1.2) (hvb : ∀ x ∈ Y, ∀ w, Holds B Γ w → RdB w x.2 x.1.2) (h : HG B Γ (Q true)) : HG B Γ (ref07_Same.call #[.int .i64 c, a.val] #[.int .i64 c, b.val] Q) := fun w hw => by
  refine ref07_Same_ok _ _ _ _ ?_
  have han := rd_len oF_len (by omega) (ha w hw)
  have hbn := rd_len oF_len (by omega) (hb w hw)
  have hlen : X.length = Y.length := by have := congrArg List.length hXY; simpa using this
  refine Sep.hg hw ?_
  clear hw w
  unfold ref07_Same
  refine s_new fun a2 => ?_
  refine s_new fun b3 => ?_
  repeat refine s_nx ?_
  refine s_f ?_ (by simp)
  repeat refine s_nx ?_
  rw [show decide ((a.n : Int) ≠ (b.n : Int)) = false by simp; omega]
  unfold ref07_Same.s1
  refine s_f ?_
  refine s_loopC (α := Int) (fun x => ∃ i : Nat, x = (i : Int) ∧ i ≤ X.length) (fun x => X.length - x.toNat) ⟨0, rfl, Nat.zero_le _⟩ fun k' x hx hk' => ?_
  obtain ⟨i, rfl, hi⟩ := hx
  unfold ref07_Same.b2
  repeat refine s_nx ?_
  refine s_ite (fun hc => ?_) fun hc => s_end h
  have hil : i < X.length := by simp only [decide_eq_true_eq] at hc; omega
  have g1 : X[i]? = some X[i] := List.getElem?_eq_getElem hil
  have g2 : Y[i]? = some Y[i] := List.getElem?_eq_getElem (by omega)
  have m1 : X[i] ∈ X := List.getElem_mem hil
  have m2 : Y[i] ∈ Y := List.getElem_mem (by omega)
  have he : X[i].1 = Y[i].1 := by
    have := congrArg (·[i]?) hXY
    simp only [List.getElem?_map, g1, g2, Option.map_some, Option.some.injEq] at this
    exact this
  generalize X[i] = x at g1 m1 he
  generalize Y[i] = y at g2 m2 he
  obtain ⟨⟨x1, x2⟩, xs⟩ := x
  obtain ⟨⟨y1, y2⟩, ys⟩ := y
  obtain ⟨rfl, rfl⟩ : x1 = y1 ∧ x2 = y2 := by simpa using he
  repeat refine s_nx ?_
  refine s_idxF0 oF (c := Value.bool) (v := x1) oF_len (fun w hw => ha w hw.drops) g1 rfl ?_
  repeat refine s_nx ?_
  refine s_idxF0 oF (c := Value.bool) (v := x1) oF_len (fun w hw => hb w hw.drops) g2 rfl ?_
  refine s_f ?_ (by simp)
  repeat refine s_nx ?_
  refine s_idxF1 oF (off := 1) (c := Sl.val) (v := xs) oF_len (fun w hw => ha w hw.drops) g1 rfl ?_
  refine s_str (xs := x2) (fun w hw => hva _ m1 w hw.drops) ?_
  repeat refine s_nx ?_
  refine s_idxF1 oF (off := 1) (c := Sl.val) (v := ys) oF_len (fun w hw => hb w hw.drops) g2 rfl ?_
  refine s_str (xs := x2) (fun w hw => hvb _ m2 w hw.drops) ?_
  unfold ref07_Same.s3
  refine s_f ?_ (by simp)
  refine s_ai ?_
  exact hk' _ ⟨i + 1, by simp, hil⟩ (by omega)
end
theorem rows_rec (R : WX) : R.flatMap rowF = (R.map fun x => ((bs x.1, x.2) : RecX)).flatMap rowF6 := by
  rw [List.flatMap_map]; rfl
end Go.Proofs.YtinpgiafjjibnaaGreat
/- The walk of functions that add to what stands in a map. Holds for every program. -/
namespace Go.Sep
open Go
set_option linter.unusedVariables false
section
variable {P : Program} {σ : List (Nat × Value)} {o : Oper} {w w' : World} {v : Value} {x y z : Operand} {T : TypeId}
theorem e_mapEntry' {vx vy : Value} (ho : o.op = .mapEntry T x y) (hx : ev σ x = some vx) (hy : ev σ y = some vy) : ∀ v w w', (Instr.mapEntry T vx vy).run P w = .ok v w' → Eff P σ o w (.value v) w' := fun v w w' hr _ _ hs => by
  simp [execOp, ho, hs.ev hx, hs.ev hy, hr]
theorem e_entryStore' {vx vy vz : Value} (ho : o.op = .entryStore T x y z) (hx : ev σ x = some vx) (hy : ev σ y = some vy) (hz : ev σ z = some vz) : ∀ u w w', (Instr.entryStore T vx vy vz).run P w = .ok u w' → Eff P σ o w .skip w' := fun u w w' hr _ _ hs => by
  simp [execOp, ho, hs.ev hx, hs.ev hy, hs.ev hz, hr]
theorem we_do2 {α β : Type} {sem : Sem Value} {c : α → β → Value} {kx : α → β → K} (hs : ∀ v w w', sem.run P w = .ok v w' → Eff P σ o w (.value v) w') : WE P σ o (Do2 P sem c kx) (fun u => u) (fun u => Ans2 c kx u) := fun w ⟨t, u, w', hd, h⟩ => ⟨c t u, w', hs _ _ _ hd, t, u, rfl, h⟩
end
section
variable {P : Program} {dl : List Deferred} {n : Nat} {σ : List (Nat × Value)} {k : K} {ops : Array Oper} {Q : Exit → Act → World → Prop} {o : Oper} {S : World → Prop} {ds done : List Nat} {i d : Nat} {t : Scr}
theorem ox_e2 {kk kS : Value → K} (h : ∀ u, G dl n ((d, u) :: σ) (Al S (kS u)) (Dx P ops Q S ds (i :: done) t)) (hi : ops[i]? = some o := by rfl) (hd : o.dst = some d := by rfl) (hw : wants ops σ o = some true := by rfl) (hp : WE P σ o k (fun u => u) kk)
    (hS : SvA S kk kS) (hn : Nat.ble (d + 1) n = true := by rfl) (nd : isDef o.op = false := by rfl) : G dl n σ (Al S k) (Ox P ops Q S ds done i 1 t) := fun a w hs ⟨_, hk⟩ => by
  obtain ⟨x, w', hp, h'⟩ := hp w hk
  refine ox_run hs hi hw fun hQ => (op_value (r := none) hs nd hp ⟨fun _ _ _ => (hS x w' h').1, ?_⟩)
  rw [hd, dn_len (m := 0)]; exact h x _ w' (hs.put (Nat.le_of_ble_eq_true hn) _) (hS x w' h') hQ
end
set_option maxRecDepth 100000 in
theorem g_walk5 {P : Program} {f : FuncId} {fn : Func} {c : Code} {args : List Value} {kk : Value → K} {k : K} (n : Nat) {w : World} (hk : k w) (hf : P.funcs[f]? = some fn) (hb : fn.body = some c := by rfl) (hn : fn.ntmps = n := by rfl) (hl : Nat.ble args.length n = true := by rfl)
    (h : G [] n (numb 0 args) k (Cx none P c (bodyPostT P fn (Ret kk))) := by
      repeat' first
      | intro _
      | (refine is_tx ?_; first
          | refine tx_nil ?_
          | (refine is_gd ?_ rfl; first | refine tx_no ?_ | refine tx_no' ?_)
          | (refine is_t 0 ?_ rfl; refine tx_p (hp := by exact au_p0) ?_)
          | (refine is_t 2 ?_ rfl; first | refine tx_p (hp := by exact au_p2) ?_ | (refine gx_nn ?_; intro b hb; subst hb) | (refine gx_fv ?_; intro g fs cs hf cb; subst hf))
          | (refine is_t 3 ?_ rfl; refine tx_p (hp := by exact au_p3) ?_)
          | (refine is_t 13 ?_ rfl; refine tx_wr (hp := by exact au_wr13) ?_)
          | (refine is_t 19 ?_ rfl; first | (refine tx_wc (hp := by exact au_wc19) ?_; intro u; first | refine an_1 ?_ | refine an_0 ?_ | refine an_2 ?_ | refine an_3 ?_ | refine an_4 ?_ | refine an_5 ?_) | refine tx_wr (hp := by exact wr_rd (e_ext' rfl rfl rfl)) ?_ | (refine tx_wcn (hp := by exact au_wc19) ?_; intro u; first | refine am_0 ?_ | refine am_1 ?_ | refine am_2 ?_ | skip) | (refine tx_wy ?_; intro u; first | refine an_1 ?_ | refine an_0 ?_ | refine an_2 ?_ | refine an_3 ?_ | refine an_4 ?_ | refine an_5 ?_))
          | (refine is_t 10 ?_ rfl; first | refine tx_p (hp := by exact au_p10) ?_ | refine tx_wp (hp := by exact au_wp10) ?_)
          | (refine is_t 8 ?_ rfl; refine tx_wp (hp := by exact au_wp8) ?_)
          | (refine is_t 20 ?_ rfl; first | refine tx_p (hp := by exact au_p20) ?_ | refine tx_wr (hp := by exact au_wr20) ?_)
          | (refine is_t 27 ?_ rfl; refine tx_wp (hp := by exact au_wp27) ?_)
          | (refine is_t 4 ?_ rfl; first | refine tx_p (hp := by exact au_p4) ?_ | refine tx_wp (hp := by exact au_wp4) ?_)
          | (refine is_t 17 ?_ rfl; refine tx_wk (hp := by exact au_wk17) ?_)
          | (refine is_t 1 ?_ rfl; refine tx_p (hp := by exact au_p1) ?_)
          | (refine is_t 6 ?_ rfl; refine tx_p (hp := by exact au_p6) ?_)
          | (refine is_t 15 ?_ rfl; refine tx_we (hp := by exact au_we15) ?_)
          | (refine is_t 16 ?_ rfl; refine tx_we (hp := by exact au_we16) ?_)
          | (refine is_t 22 ?_ rfl; first | refine tx_we (hp := by exact au_we22) ?_ | refine tx_wen (hp := by exact au_we22) ?_)
          | (refine is_t 28 ?_ rfl; refine tx_wp (hp := by exact au_wp28) ?_)
          | (refine is_t 11 ?_ rfl; first | refine tx_wp (hp := by exact au_wp11) ?_ | refine tx_p (hp := by exact au_p11) ?_ | refine tx_wr (hp := by exact au_wr11) ?_ | refine tx_we (hp := by exact au_we11) ?_)
          | (refine is_t 26 ?_ rfl; first | refine tx_wp (hp := by exact au_wp26) ?_ | refine tx_p (hp := by exact au_p26) ?_)
          | (refine is_t 12 ?_ rfl; first | refine tx_wp (hp := by exact au_wp12) ?_ | refine tx_p (hp := by exact au_p12) ?_)
          | (refine is_t 5 ?_ rfl; refine tx_p (hp := by exact au_p5) ?_)
          | (refine is_t 7 ?_ rfl; refine tx_wp (hp := by exact au_wp7) ?_)
          | (refine is_t 9 ?_ rfl; refine tx_wp (hp := by exact au_wp9) ?_)
          | (refine is_t 14 ?_ rfl; first | refine tx_wr (hp := by exact wr_rd (e_lookup' rfl rfl rfl)) ?_ | (refine tx_wr (hp := by exact wr_rd2 (e_lookup' rfl rfl rfl)) ?_; intro u; refine an_2 ?_))
          | (refine is_t 18 ?_ rfl; refine tx_wk (hp := by exact au_wk18) ?_)
          | (refine is_t 99 ?_ rfl; refine tx_we (hp := by exact we_do2 (e_mapEntry' rfl rfl rfl)) ?_; intro u; refine an_2 ?_)
          | (refine is_t 99 ?_ rfl; refine tx_wk (hp := by exact wk_do (e_entryStore' rfl rfl rfl rfl)) ?_)
          | (refine is_t 21 ?_ rfl; refine tx_wp (hp := by exact au_wp21) ?_)
          | (refine is_t 23 ?_ rfl; refine tx_we (hp := by exact au_we23) ?_)
          | (refine is_t 24 ?_ rfl; refine tx_we (hp := by exact au_we24) ?_)
          | (refine is_t 25 ?_ rfl; refine tx_wr (hp := by exact au_wr25) ?_)
          | (refine tx_ite ?_ ?_ <;> (intro hb; refine gx_fold ?_; intro a w hs; try rw [hb] at hs; clear hb; revert hs; revert w; revert a; refine gx_unf ?_)))
      | (refine is_cx ?_; first
          | refine cx_reg ?_
          | (refine is_seq ?_; first | (refine cx_join ?_; (repeat apply ex_i); refine And.intro sub_auto (And.intro ?_ ?_)) | refine cx_seq ?_)
          | refine cx_cond_i ?_ ?_ rfl
          | refine cx_skip ?_
          | refine cx_ret ?_
          | refine cx_block ?_
          | refine cx_exit ?_
          | refine cx_loop ?_
          | (refine is_cond ?_; first | refine cx_cond_t ?_ | refine cx_cond_f ?_)
          | (refine is_draw ?_; first | refine cx_draw1 ?_ | refine cx_draw0 ?_ | refine cx_draw2 ?_ | refine cx_still ?_)
          | refine cx_label ?_
          | refine cx_rangeF ?_ ?_
          | refine cx_rangeJ ?_ ?_ ?_
          | refine al_drop ?_)
      | (refine is_ex ?_; first
          | refine ex_then ?_
          | refine ex_then_r ?_
          | refine ex_then_x ?_
          | refine ex_blk ?_
          | refine ex_blk_r ?_
          | refine ex_blk_x ?_
          | refine ex_blk_y ?_
          | refine ex_retM ?_
          | refine ex_ret ?_
          | refine ex_end ?_
          | exact rq_n
          | exact rq_r
          | exact rq_x
          | refine al_drop ?_)
      | exact gx_dead
      | refine gp_in ?_
      | (refine is_rx ?_; first
          | refine rx_tmp ?_
          | refine rx_nil ?_
          | refine rx_cell ?_
          | refine rx_cellN ?_)
      | (refine is_fx ?_; first
          | exact fx_1
          | exact fx_0
          | exact fx_2
          | exact fx_3
          | exact fx_4
          | exact fx_5)
      | (refine is_dx ?_; first
          | refine dx_end ?_
          | refine dx_nil ?_
          | refine dx_a ?_
          | (refine dx_iteA ?_ ?_ <;> (intro hb; refine gx_fold ?_; intro a w hs; try rw [hb] at hs; clear hb; revert hs; revert w; revert a; refine gx_unf ?_))
          | (refine dx_ite ?_ ?_ <;> (intro hb; refine gx_fold ?_; intro a w hs; try rw [hb] at hs; clear hb; revert hs; revert w; revert a; refine gx_unf ?_))
          | (refine is_gdx ?_ rfl; first | refine dx_no ?_ | refine dx_no' ?_)
          | (refine is_d 0 ?_ rfl; refine dx_p (hp := by exact au_p0) ?_)
          | (refine is_d 2 ?_ rfl; first | refine dx_p (hp := by exact au_p2) ?_ | (refine al_nn ?_; intro b hb; subst hb) | (refine gx_nn ?_; intro b hb; subst hb) | (refine al_fv ?_; intro g fs cs hf cb; subst hf) | (refine gx_fv ?_; intro g fs cs hf cb; subst hf))
          | (refine is_d 3 ?_ rfl; refine dx_p (hp := by exact au_p3) ?_)
          | (refine is_d 13 ?_ rfl; first | refine dx_is (hp := by exact au_wr13) ?_ | refine dx_S (hp := by exact au_ws13) ?_)
          | (refine is_d 10 ?_ rfl; first | refine dx_p (hp := by exact au_p10) ?_ | refine dx_wpA (hp := by exact au_wp10) ?_ | refine dx_wp (hp := by exact au_wp10) ?_)
          | (refine is_d 8 ?_ rfl; first | refine dx_wpA (hp := by exact au_wp8) ?_ | refine dx_wp (hp := by exact au_wp8) ?_)
          | (refine is_d 20 ?_ rfl; first | refine dx_p (hp := by exact au_p20) ?_ | refine dx_is (hp := by exact au_wr20) ?_ | refine dx_S (hp := by exact au_ws20) ?_)
          | (refine is_d 27 ?_ rfl; first | refine dx_wpA (hp := by exact au_wp27) ?_ | refine dx_wp (hp := by exact au_wp27) ?_)
          | (refine is_d 4 ?_ rfl; first | refine dx_p (hp := by exact au_p4) ?_ | refine dx_wpA (hp := by exact au_wp4) ?_ | refine dx_wp (hp := by exact au_wp4) ?_)
          | (refine is_d 1 ?_ rfl; refine dx_p (hp := by exact au_p1) ?_)
          | (refine is_d 6 ?_ rfl; refine dx_p (hp := by exact au_p6) ?_)
          | (refine is_d 28 ?_ rfl; first | refine dx_wpA (hp := by exact au_wp28) ?_ | refine dx_wp (hp := by exact au_wp28) ?_)
          | (refine is_d 11 ?_ rfl; first | refine dx_wpA (hp := by exact au_wp11) ?_ | refine dx_wp (hp := by exact au_wp11) ?_ | refine dx_p (hp := by exact au_p11) ?_ | refine dx_is (hp := by exact au_wr11) ?_ | refine dx_S (hp := by exact au_ws11) ?_)
          | (refine is_d 26 ?_ rfl; first | refine dx_wpA (hp := by exact au_wp26) ?_ | refine dx_wp (hp := by exact au_wp26) ?_ | refine dx_p (hp := by exact au_p26) ?_)
          | (refine is_d 12 ?_ rfl; first | refine dx_wpA (hp := by exact au_wp12) ?_ | refine dx_wp (hp := by exact au_wp12) ?_ | refine dx_p (hp := by exact au_p12) ?_)
          | (refine is_d 5 ?_ rfl; refine dx_p (hp := by exact au_p5) ?_)
          | (refine is_d 7 ?_ rfl; first | refine dx_wpA (hp := by exact au_wp7) ?_ | refine dx_wp (hp := by exact au_wp7) ?_)
          | (refine is_d 9 ?_ rfl; first | refine dx_wpA (hp := by exact au_wp9) ?_ | refine dx_wp (hp := by exact au_wp9) ?_)
          | (refine is_d 14 ?_ rfl; first | refine dx_is (hp := by exact wr_rd (e_lookup' rfl rfl rfl)) ?_ | (refine dx_is (hp := by exact wr_rd2 (e_lookup' rfl rfl rfl)) ?_; intro u; refine al_an2 ?_) | refine dx_S (hp := by exact ws_rd (e_lookup' rfl rfl rfl)) ?_ | (refine dx_S (hp := by exact ws_rd2 (e_lookup' rfl rfl rfl)) ?_; intro u; refine al_an2 ?_))
          | (refine is_d 21 ?_ rfl; first | refine dx_wpA (hp := by exact au_wp21) ?_ | refine dx_wp (hp := by exact au_wp21) ?_)
          | (refine is_d 25 ?_ rfl; first | refine dx_is (hp := by exact au_wr25) ?_ | refine dx_S (hp := by exact au_ws25) ?_)
          | refine al_drop ?_)
      | (refine is_ox ?_; first
          | (refine is_o 13 ?_ rfl; first | refine ox_r2A (hp := by exact au_wr13) ?_ | refine ox_r2 (hp := by exact au_wr13) ?_)
          | (refine is_o 19 ?_ rfl; first | (refine ox_c1 (hp := by exact au_wc19) ?_; intro u; first | refine al_an1 ?_ | refine al_an0 ?_ | refine al_an2 ?_) | (refine ox_c (hp := by exact au_wc19) ?_; intro u; first | refine an_1 ?_ | refine an_0 ?_ | refine an_2 ?_ | refine an_3 ?_ | refine an_4 ?_ | refine an_5 ?_) | (refine ox_cn (hp := by exact au_wc19) ?_; intro u; first | refine am_0 ?_ | refine am_1 ?_ | refine am_2 ?_ | skip) | (refine ox_y ?_; intro u; first | refine an_1 ?_ | refine an_0 ?_ | refine an_2 ?_ | refine an_3 ?_ | refine an_4 ?_ | refine an_5 ?_))
          | (refine is_o 20 ?_ rfl; first | refine ox_r2A (hp := by exact au_wr20) ?_ | refine ox_r2 (hp := by exact au_wr20) ?_)
          | (refine is_o 17 ?_ rfl; first | refine ox_k1 (hp := by exact au_wk17) ?_ | refine ox_k (hp := by exact au_wk17) ?_)
          | (refine is_o 15 ?_ rfl; first | refine ox_e1 (hp := by exact au_we15) ?_ | refine ox_e (hp := by exact au_we15) ?_)
          | (refine is_o 16 ?_ rfl; first | refine ox_e1 (hp := by exact au_we16) ?_ | refine ox_e (hp := by exact au_we16) ?_)
          | (refine is_o 22 ?_ rfl; first | refine ox_e1 (hp := by exact au_we22) ?_ | refine ox_e (hp := by exact au_we22) ?_ | refine ox_en1 (hp := by exact au_we22) ?_ | refine ox_en (hp := by exact au_we22) ?_)
          | (refine is_o 11 ?_ rfl; first | refine ox_e1 (hp := by exact au_we11) ?_ | refine ox_e (hp := by exact au_we11) ?_ | refine ox_r2A (hp := by exact au_wr11) ?_ | refine ox_r2 (hp := by exact au_wr11) ?_)
          | (refine is_o 14 ?_ rfl; first | refine ox_r2A (hp := by exact wr_rd (e_lookup' rfl rfl rfl)) ?_ | (refine ox_r2A (hp := by exact wr_rd2 (e_lookup' rfl rfl rfl)) ?_; intro u; refine al_an2 ?_) | refine ox_r2 (hp := by exact wr_rd (e_lookup' rfl rfl rfl)) ?_ | (refine ox_r2 (hp := by exact wr_rd2 (e_lookup' rfl rfl rfl)) ?_; intro u; refine an_2 ?_))
          | (refine is_o 18 ?_ rfl; first | refine ox_k1 (hp := by exact au_wk18) ?_ | refine ox_k (hp := by exact au_wk18) ?_)
          | (refine is_o 99 ?_ rfl; first | (refine ox_e2 (hp := by exact we_do2 (e_mapEntry' rfl rfl rfl)) (hS := sva_2) ?_; intro u; refine al_an2 ?_) | (refine ox_e (hp := by exact we_do2 (e_mapEntry' rfl rfl rfl)) ?_; intro u; refine an_2 ?_) | refine ox_k1 (hp := by exact wk_do (e_entryStore' rfl rfl rfl rfl)) ?_ | refine ox_k (hp := by exact wk_do (e_entryStore' rfl rfl rfl rfl)) ?_)
          | (refine is_o 23 ?_ rfl; first | refine ox_e1 (hp := by exact au_we23) ?_ | refine ox_e (hp := by exact au_we23) ?_)
          | (refine is_o 24 ?_ rfl; first | refine ox_e1 (hp := by exact au_we24) ?_ | refine ox_e (hp := by exact au_we24) ?_)
          | (refine is_o 25 ?_ rfl; first | refine ox_r2A (hp := by exact au_wr25) ?_ | refine ox_r2 (hp := by exact au_wr25) ?_)
          | refine al_drop ?_)
      | refine ax_allA ?_ ?_
      | refine ax_all ?_ ?_
      | exact ax_nil
      | refine ax_one ?_
      | (refine is_lx ?_; exact lx_end)
      | (refine is_sx ?_; first
          | refine sx_nil ?_
          | (refine is_gs ?_ rfl; refine sx_no ?_)
          | (refine is_s 0 ?_ rfl; refine sx_p (hp := by exact au_p0) ?_)
          | (refine is_s 2 ?_ rfl; first | refine sx_p (hp := by exact au_p2) ?_ | (refine gx_nn ?_; intro b hb; subst hb) | (refine gx_fv ?_; intro g fs cs hf cb; subst hf))
          | (refine is_s 3 ?_ rfl; refine sx_p (hp := by exact au_p3) ?_)
          | (refine is_s 13 ?_ rfl; refine sx_wr (hp := by exact au_wr13) ?_)
          | (refine is_s 10 ?_ rfl; first | refine sx_p (hp := by exact au_p10) ?_ | refine sx_wp (hp := by exact au_wp10) ?_)
          | (refine is_s 8 ?_ rfl; refine sx_wp (hp := by exact au_wp8) ?_)
          | (refine is_s 20 ?_ rfl; first | refine sx_p (hp := by exact au_p20) ?_ | refine sx_wr (hp := by exact au_wr20) ?_)
          | (refine is_s 27 ?_ rfl; refine sx_wp (hp := by exact au_wp27) ?_)
          | (refine is_s 4 ?_ rfl; first | refine sx_p (hp := by exact au_p4) ?_ | refine sx_wp (hp := by exact au_wp4) ?_)
          | (refine is_s 1 ?_ rfl; refine sx_p (hp := by exact au_p1) ?_)
          | (refine is_s 6 ?_ rfl; refine sx_p (hp := by exact au_p6) ?_)
          | (refine is_s 28 ?_ rfl; refine sx_wp (hp := by exact au_wp28) ?_)
          | (refine is_s 11 ?_ rfl; first | refine sx_wp (hp := by exact au_wp11) ?_ | refine sx_p (hp := by exact au_p11) ?_ | refine sx_wr (hp := by exact au_wr11) ?_)
          | (refine is_s 26 ?_ rfl; first | refine sx_wp (hp := by exact au_wp26) ?_ | refine sx_p (hp := by exact au_p26) ?_)
          | (refine is_s 12 ?_ rfl; first | refine sx_wp (hp := by exact au_wp12) ?_ | refine sx_p (hp := by exact au_p12) ?_)
          | (refine is_s 5 ?_ rfl; refine sx_p (hp := by exact au_p5) ?_)
          | (refine is_s 7 ?_ rfl; refine sx_wp (hp := by exact au_wp7) ?_)
          | (refine is_s 9 ?_ rfl; refine sx_wp (hp := by exact au_wp9) ?_)
          | (refine is_s 14 ?_ rfl; first | refine sx_wr (hp := by exact wr_rd (e_lookup' rfl rfl rfl)) ?_ | (refine sx_wr (hp := by exact wr_rd2 (e_lookup' rfl rfl rfl)) ?_; intro u; refine an_2 ?_))
          | (refine is_s 21 ?_ rfl; refine sx_wp (hp := by exact au_wp21) ?_)
          | (refine is_s 25 ?_ rfl; refine sx_wr (hp := by exact au_wr25) ?_)
          | (refine sx_ite ?_ ?_ <;> (intro hb; refine gx_fold ?_; intro a w hs; try rw [hb] at hs; clear hb; revert hs; revert w; revert a; refine gx_unf ?_)))
      | refine bx_b ?_
      | refine bj_b ?_
      | exact gx_jump
      | refine al_drop ?_) :
    CallF P f args.toArray kk w := g_start n hk hf h hb hn hl
end Go.Sep
/- Adding to what stands in a map. -/
namespace Go.Sep
open Go Go.RowKit Go.MapKept
set_option linter.unusedSimpArgs false
set_option linter.unusedVariables false
set_option linter.unusedSectionVars false
/-- Keys that are found. -/
structure Fnd {α : Type} [DecidableEq α] (P : Program) (kt : TypeId) (enc : α → Value) : Prop where
  chk : ∀ a w, (Instr.checkKey false 10000 kt (enc a)).run P w = .ok () w
  bits : ∀ a, Instr.sameBits 10000 (enc a) (enc a) = true
  find : ∀ (β : Type) (cV : β → Value) (es : Array MapEntry) (m : List (α × β)), mrel enc cV es m → ∀ a w, ((Instr.findKey kt (enc a) es.toList).run P w = .ok none w ∧ mget a m = none ∧ (∀ v, mset a v m = m ++ [(a, v)])) ∨
    ∃ j x, (Instr.findKey kt (enc a) es.toList).run P w = .ok (some (j, cV x)) w ∧ j < m.length ∧ m[j]? = some (a, x) ∧ mget a m = some x ∧ (∀ v, mset a v m = m.set j (a, v))
theorem fndS {α : Type} [DecidableEq α] {P : Program} {kt : TypeId} {cel : α → List Value} (h : KeyS P kt cel) : Fnd P kt (kyS cel) := ⟨fun a w => h.chk a false w, h.bits, fun β cV es m hr a w => by
  rcases run_findS h hr a w with ⟨g1, g2, g3, _⟩ | ⟨j, x, g1, g2, g3, g4, g5, _⟩
  · exact .inl ⟨g1, g2, g3⟩
  · exact .inr ⟨j, x, g1, g2, g3, g4, g5⟩⟩
theorem fndE {α : Type} [DecidableEq α] {P : Program} {kt : TypeId} {d : TypeDesc} {enc : α → Value} (hd : P.underlying kt = some d) (h : KeyE d enc) : Fnd P kt enc := ⟨fun a w => run_checkKey hd (h.key a) _ _, h.bits, fun β cV es m hr a w => by
  rcases mfound h hr a with ⟨g1, g2, g3, _⟩ | ⟨j, x, g1, g2, g3, g4, g5, _⟩
  · exact .inl ⟨run_findKey hd g1, g2, g3⟩
  · exact .inr ⟨j, x, run_findKey hd g1, g2, g3, g4, g5⟩⟩
theorem idx_born {p : MapEntry → Bool} : ∀ {l : List MapEntry} {j : Nat} {e : MapEntry}, l[j]? = some e → p e = true → (∀ i x, i < j → l[i]? = some x → p x = false) → l.findIdx? p = some j
  | [], _, _, h, _, _ => by simp at h
  | a :: l, 0, e, h, hp, _ => by
    simp at h; subst h
    simp [List.findIdx?_cons, hp]
  | a :: l, j + 1, e, h, hp, hn => by
    have h0 := hn 0 a (by omega) rfl
    rw [List.findIdx?_cons, h0]
    simp only [Bool.false_eq_true, if_false]
    rw [idx_born (j := j) (by simpa using h) hp fun i x hi hx => hn (i + 1) x (by omega) (by simpa using hx)]
    rfl
section
variable {α β : Type} [DecidableEq α] {P : Program} {B : World} {Γ Δ : List HProp} {kt : TypeId} {enc : α → Value} {cV : β → Value} {k : K}
/-- A map that has just been asked for an entry. -/
def EntR (enc : α → Value) (cV : β → Value) (b : Nat) (m : List (α × β)) (z : β) (a : α) (st : Int) : HProp := ex fun es : Array MapEntry => ex fun c : Nat => fun g =>
  (stamps es c ∧ ∃ m1 j e, mrel enc cV es m1 ∧ j < m1.length ∧ es[j]? = some e ∧ (e.born : Int) = st ∧ e.key = enc a ∧ (∀ v, m1.set j (a, v) = mset a v m) ∧ m1 = mset a ((mget a m).getD z) m) ∧ blk b (.map es c) g
instance (priority := high) own_ent {b : Nat} {m : List (α × β)} {z : β} {a : α} {st : Int} {Γ : List HProp} : Own b (EntR enc cV b m z a st :: Γ) (EntR enc cV b m z a st) Γ := ⟨.refl _⟩
/-- It's a map still. -/
theorem EntR.map {m : List (α × β)} {z : β} {a : α} {st : Int} {b : Nat} {w : World} (h : Holds B (EntR enc cV b m z a st :: Δ) w) : Holds B (MapR enc cV b (mset a ((mget a m).getD z) m) :: Δ) w := by
  obtain ⟨es, h1⟩ := Holds.ex.1 h
  obtain ⟨c, h1⟩ := Holds.ex.1 h1
  obtain ⟨hst, m1, j, e, hr, hj, he, hbn, hek, hm, h2⟩ := h1.fact fun g hg => hg.1
  subst h2
  exact MapR.shuts ⟨hr, hst⟩ (h1.imp fun g hg => hg.2)
theorem mset_same {v : β} : ∀ {m : List (α × β)} {a : α}, mget a m = some v → mset a v m = m
  | [], _, h => by simp [mget] at h
  | p :: m, a, h => by
    unfold mget at h
    unfold mset
    split at h
    · rename_i hp
      simp only [Option.some.injEq] at h
      rw [if_pos hp, hp, ← h]
    · rename_i hp
      rw [if_neg hp, mset_same h]
theorem mget_self (m : List (α × β)) (a : α) (v : β) : mget a (mset a v m) = some v := by rw [mget_mset, if_pos rfl]
theorem s_mapEnt {T E : TypeId} {b : Nat} {m : List (α × β)} {z : β} {a : α} {k : β → Int → K} (hF : Fnd P kt enc) (hz : zeroT P E (cV z)) (h : ∀ st, HG B (EntR enc cV b m z a st :: Δ) (k ((mget a m).getD z) st)) (hT : P.underlying T = some (.map kt E) := by kernel_rfl) [p : Own b Γ (MapR enc cV b m) Δ] :
    HG B Γ (Do2 P (Instr.mapEntry T (.map (some b)) (enc a)) (fun x y => .tuple #[cV x, .int .i64 y]) k) := fun w hw => by
  obtain ⟨es, c, ⟨hr, hst⟩, h1⟩ := MapR.opens (hw.perm p.perm)
  have hb := h1.block
  have hlen : es.size = m.length := by have := congrArg List.length hr; simpa using this
  have key : ∀ {es' c' v st w'}, (Instr.mapEntry T (.map (some b)) (enc a)).run P w = .ok (.tuple #[cV v, goInt st]) w' → v = (mget a m).getD z → (stamps es' c' ∧ ∃ m1 j e, mrel enc cV es' m1 ∧ j < m1.length ∧ es'[j]? = some e ∧ (e.born : Int) = st ∧ e.key = enc a ∧ (∀ v, m1.set j (a, v) = mset a v m) ∧ m1 = mset a ((mget a m).getD z) m) →
      Holds B (blk b (.map es' c') :: Δ) w' → Do2 P (Instr.mapEntry T (.map (some b)) (enc a)) (fun x y => .tuple #[cV x, .int .i64 y]) k w := fun {es' c' v st w'} h3 h4 h5 h6 => by
    subst h4
    exact ⟨_, st, w', h3, h st w' (Holds.ex.2 ⟨es', Holds.ex.2 ⟨c', h6.imp fun g hg => ⟨h5, hg⟩⟩⟩)⟩
  rcases hF.find β cV es m hr a w with ⟨g1, g2, h2⟩ | ⟨j, x, g1, hj, h0, g2, h2⟩
  · obtain ⟨e1, h3⟩ := h1.setMap (P := P) (es' := es.push { key := enc a, val := cV z, born := c }) (c' := c + 1)
    refine key (es' := es.push { key := enc a, val := cV z, born := c }) (c' := c + 1) (v := z) (st := (c : Int)) ?_ (by rw [g2]; rfl) ⟨stamps_push hst _ _, m ++ [(a, z)], m.length, ⟨enc a, cV z, c⟩, ?_, by simp, ?_, rfl, rfl, fun v => ?_, by rw [h2, g2]; rfl⟩ h3
    · unfold Instr.mapEntry
      simp only [Sem.run_bind, run_underlying hT, Result.andThen, MapKept.run_getObj_map hb, hF.chk, g1, zeroT_spec hz, e1, Sem.run_pure]
    · simp only [mrel, Array.toList_push, List.map_append, List.map_cons, List.map_nil]
      rw [show es.toList.map (fun e => (e.key, e.val)) = _ from hr]
    · rw [← hlen]; simp
    · rw [h2, List.set_append]; simp
  · have hes : ∃ e, es.toList[j]? = some e ∧ e.key = enc a := by
      have := mrel_at hr j
      rw [h0] at this
      cases he : es.toList[j]? with
      | none => rw [he] at this; simp at this
      | some e =>
        rw [he] at this
        simp only [Option.map_some, Option.some.injEq, Prod.mk.injEq] at this
        exact ⟨e, rfl, this.1⟩
    obtain ⟨e, he, hek⟩ := hes
    have he2 : es[j]? = some e := by rw [← he, Array.getElem?_toList]
    have hmod : (es.modify j fun e' => { e' with key := enc a }) = es := by
      apply Array.ext_getElem?
      intro i
      rw [Array.getElem?_modify]
      split
      · rename_i hij
        subst hij
        rw [he2]
        simp [← hek]
      · rfl
    obtain ⟨e1, h3⟩ := h1.setMap (P := P) (es' := es) (c' := c)
    refine key (es' := es) (c' := c) (v := x) (st := (e.born : Int)) ?_ (by rw [g2]; rfl) ⟨hst, m, j, e, hr, hj, he2, rfl, hek, fun v => (h2 v).symm, by rw [g2]; exact (mset_same g2).symm⟩ h3
    unfold Instr.mapEntry
    simp only [Sem.run_bind, run_underlying hT, Result.andThen, MapKept.run_getObj_map hb, hF.chk, g1, he2, Option.map_some, Option.getD_some, hek, Instr.keyThatStays, hF.bits, if_true, Sem.run_pure, hmod, e1]
theorem s_mapEntSt {T : TypeId} {b : Nat} {m : List (α × β)} {z : β} {a : α} {v : β} {x : Value} {st : Int} (hx : x = cV v) (h : HG B (MapR enc cV b (mset a v m) :: Δ) k) [p : Own b Γ (EntR enc cV b m z a st) Δ] :
    HG B Γ (DoU P (Instr.entryStore T (.map (some b)) (.int .i64 st) x) k) := fun w hw => by
  subst hx
  obtain ⟨es, h1⟩ := Holds.ex.1 (hw.perm p.perm)
  obtain ⟨c, h1⟩ := Holds.ex.1 h1
  obtain ⟨hst, m1, j, e, hr, hj, he, hbn, hek, hm, _⟩ := h1.fact fun g hg => hg.1
  have h1 := h1.imp fun g hg => hg.2
  have hb := h1.block
  have hidx : es.findIdx? (fun e' => ((e'.born : Nat) : Int) == st) = some j := by
    rw [show es.findIdx? (fun e' => ((e'.born : Nat) : Int) == st) = es.toList.findIdx? (fun e' => ((e'.born : Nat) : Int) == st) by cases es; simp]
    refine idx_born (e := e) (by rw [← he, Array.getElem?_toList]) (by simp [hbn]) fun i x hi hx => ?_
    simp only [beq_eq_false_iff_ne, ne_eq, ← hbn, Int.natCast_inj]
    intro hbe
    have hl : j < es.toList.length := by
      have := (Array.getElem?_eq_some_iff.1 he).1; simpa using this
    have h1 : (es.toList.map (·.born))[i]? = some e.born := by rw [List.getElem?_map, hx, ← hbe]; rfl
    have h2 : (es.toList.map (·.born))[j]? = some e.born := by rw [List.getElem?_map, Array.getElem?_toList, he]; rfl
    have := (List.getElem?_inj (by simp at hl ⊢; omega) hst.1).1 (h1.trans h2.symm)
    omega
  obtain ⟨e1, h3⟩ := h1.setMap (P := P) (es' := es.modify j fun e' => { e' with val := cV v }) (c' := c)
  refine ⟨(), _, ?_, h _ (MapR.shuts ⟨?_, ?_⟩ h3)⟩
  · unfold Instr.entryStore
    simp only [Sem.run_bind, MapKept.run_getObj_map hb, Result.andThen, asInt, asIntOf, Sem.run_pure, hidx, e1]
  · rw [← hm]
    simp only [mrel]
    apply List.ext_getElem?
    intro i
    have hi := mrel_at hr i
    simp only [List.getElem?_map, Array.getElem?_toList, Array.getElem?_modify] at hi ⊢
    by_cases hij : j = i
    · subst hij
      rw [List.getElem?_set_self hj, he]
      simp [hek]
    · rw [List.getElem?_set_ne hij, if_neg hij]
      exact hi
  · have : (es.modify j fun e' => { e' with val := cV v }) = es.modify j fun e' => { e' with key := enc a, val := cV v } := by
      apply Array.ext_getElem?
      intro i
      simp only [Array.getElem?_modify]
      split
      · rename_i hij
        subst hij
        rw [he]
        simp [← hek]
      · rfl
    rw [this]
    exact stamps_modify hst _ _ _
end
section
variable {P : Program} {B : World} {Γ Δ : List HProp} {k : K}
/-! ### what is read in any of some states -/
theorem s_wsP {k : (World → Prop) → K} (S : World → Prop) (h0 : ∀ w, Holds B Γ w → S w) (h : HG B Γ (k S)) : HG B Γ (WithS k) := fun w hw => ⟨S, h0 w hw, h w hw⟩
theorem s_svP {S : World → Prop} (h0 : ∀ w, Holds B Γ w → S w) (h : HG B Γ k) : HG B Γ (Sv S k) := fun w hw => ⟨h0 w hw, h w hw⟩
theorem s_ldNSP {S : World → Prop} {a : Addr} {n : Nat} {l : List Value} {k : Array Value → K} (h0 : ∀ w, S w → RdN w a l.toArray) (h : HG B Γ (k l.toArray)) (hn : l.length = n := by rfl) : HG B Γ (LdNS S a n k) := fun w hw => ⟨l.toArray, by simpa using hn, h0, h w hw⟩
theorem s_ldSP {S : World → Prop} {α : Type} {a : Addr} {c : α → Value} {x : α} {k : α → K} (h0 : ∀ w, S w → w.cell? a = some (c x)) (h : HG B Γ (k x)) : HG B Γ (LdS S a c k) := fun w hw => ⟨x, h0, h w hw⟩
theorem s_rdSP {S : World → Prop} {α : Type} {s : Sem Value} {c : α → Value} {x : α} {k : α → K} (h0 : ∀ w, S w → s.run P w = .ok (c x) w) (h : HG B Γ (k x)) : HG B Γ (RdS P S s c k) := fun w hw => ⟨x, h0, h w hw⟩
theorem rd_at {a : Addr} {b off n : Nat} {l l' : List Value} {T : TypeId} {fz : Nat × Nat} {w : World} (hw : Holds B Γ w) [ad : AdrIs a b off] [p : Own b Γ (blk b (.cells l.toArray T fz)) Δ] (hl : (l.drop off).take n = l' := by rfl) (hn : l'.length = n := by rfl) : RdN w a l'.toArray := by
  rw [ad.h]; exact rdN_own (own_blkOf hw (p := p)) hl hn
theorem look_at {α β : Type} [DecidableEq α] {kt : TypeId} {cel : α → List Value} {cV : β → Value} {T E : TypeId} {b : Nat} {m : List (α × β)} {z : β} {a : α} {w : World} (hw : Holds B Γ w) (hE : KeyS P kt cel) (hz : zeroT P E (cV z)) (hT : P.underlying T = some (.map kt E) := by kernel_rfl) [p : Own b Γ (MapR (kyS cel) cV b m) Δ] :
    (Instr.lookup T (.map (some b)) (kyS cel a) false).run P w = .ok (cV ((mget a m).getD z)) w := by
  obtain ⟨x, h1, rfl⟩ := s_look1S (B := B) (Γ := Γ) (Δ := Δ) (P := P) (b := b) (m := m) (a := a) (k := fun x _ => x = (mget a m).getD z) hE hz (fun w _ => rfl) hT w hw
  exact h1
end
end Go.Sep
/- The document's transactions: step, Run, Apply. -/
namespace Go.Proofs.YtinpgiafjjibnaaGreat
open Go Go.Sep Go.Sep.Bt
set_option linter.unusedSimpArgs false
set_option linter.unusedVariables false
set_option maxRecDepth 100000

def num7 (v : List UInt8) : Int := if v.length = 8 then numOf v else 0
def addC (n : Nat) (C : Recs) (o : OpM) : Recs × Int :=
  if (sGet n C (bs o.key)).has = true ∧ (sGet n C (bs o.key)).val.length ≠ 8 then (C, 110) else
  if overS (num7 (sGet n C (bs o.key)).val) o.n then (C, 111) else (sPut n C (bs o.key) (valOf (num7 (sGet n C (bs o.key)).val + o.n)), 0)
def stepC (n : Nat) (C : Recs) (o : OpM) : Recs × OM × Int :=
  if o.kind = 1 then (C, [((sGet n C (bs o.key)).has, (sGet n C (bs o.key)).val)], 0) else
  if o.kind = 7 then (C, [(true, o.val)], 0) else
  if o.kind = 2 then (sPut n C (bs o.key) o.val, [], 0) else
  if o.kind = 3 then (sDel n C (bs o.key), [], 0) else
  if o.kind = 4 then (C, [], if (sGet n C (bs o.key)).has = true ∧ (sGet n C (bs o.key)).val = o.val then 0 else 110) else
  if o.kind = 5 then (C, [], if (sGet n C (bs o.key)).has then 110 else 0) else ((addC n C o).1, [], (addC n C o).2)
abbrev isW (o : OpM) : Bool := decide (o.kind = 2) || decide (o.kind = 3) || decide (o.kind = 6)
def opsC (n : Nat) : List OpX → Recs → OM → List TX → Recs × OM × List TX × Int
  | [], C, O, T => (C, O, T, 0)
  | x :: xs, C, O, T => if (stepC n C x.1).2.2 ≠ 0 then (C, O, T, (stepC n C x.1).2.2) else opsC n xs (stepC n C x.1).1 (O ++ (stepC n C x.1).2.1) (if isW x.1 then T ++ [x.1.key] else T)
def runC (n : Nat) (M : Recs) (t : TxX) : OM × Int × WM :=
  if t.kind = 2 then (if (sMove n M (bs (t.writes.headD [])) t.to).2 ≠ 0 then ([], 111, []) else ([], 0, [(t.writes.headD [], sGet n (sMove n M (bs (t.writes.headD [])) t.to).1 (bs (t.writes.headD [])))]))
  else if (opsC n t.ops M [] []).2.2.2 ≠ 0 then ([], (opsC n t.ops M [] []).2.2.2, []) else ((opsC n t.ops M [] []).2.1, 0, (keysT (opsC n t.ops M [] []).2.2.1).map fun k => (k, sGet n (opsC n t.ops M [] []).1 (bs k)))
theorem opsC_nil {n : Nat} {C : Recs} {O : OM} {T : List TX} : opsC n [] C O T = (C, O, T, 0) := rfl
theorem opsC_cons {n : Nat} {x : OpX} {xs : List OpX} {C : Recs} {O : OM} {T : List TX} : opsC n (x :: xs) C O T = if (stepC n C x.1).2.2 ≠ 0 then (C, O, T, (stepC n C x.1).2.2) else opsC n xs (stepC n C x.1).1 (O ++ (stepC n C x.1).2.1) (if isW x.1 then T ++ [x.1.key] else T) := rfl
theorem sPut_len (n : Nat) (M : Recs) (k : ByteArray) (v : List UInt8) : (sPut n M k v).length ≤ M.length + 1 := setM_len _ _ _
theorem sDel_len (n : Nat) (M : Recs) (k : ByteArray) : (sDel n M k).length ≤ M.length + 1 := setM_len _ _ _
theorem addC_len {n : Nat} {C : Recs} {o : OpM} : (addC n C o).1.length ≤ C.length + 1 := by
  unfold addC
  split
  · simp
  split
  · simp
  · exact sPut_len _ _ _ _
theorem stepC_len {n : Nat} {C : Recs} {o : OpM} : (stepC n C o).1.length ≤ C.length + 1 ∧ (stepC n C o).2.1.length ≤ 1 := by
  unfold stepC
  repeat' split
  all_goals constructor
  all_goals first | exact sPut_len _ _ _ _ | exact sDel_len _ _ _ | exact addC_len | simp
theorem oF_flat (L : OX) : ∀ v ∈ L.flatMap oF, flatV v = true := fun v hv => by
  obtain ⟨x, _, hx⟩ := List.mem_flatMap.1 hv
  simp only [oF, List.mem_cons, List.not_mem_nil, or_false] at hx
  rcases hx with rfl | rfl <;> rfl
theorem wrap_sum {a b : Int} (ha : -9223372036854775808 ≤ a ∧ a ≤ 9223372036854775807) (hb : -9223372036854775808 ≤ b ∧ b ≤ 9223372036854775807) :
    IntKind.wrap .i64 (IntKind.wrap .u64 (IntKind.wrap .u64 a + IntKind.wrap .u64 b)) = if 9223372036854775807 < a + b then a + b - 18446744073709551616 else if a + b < -9223372036854775808 then a + b + 18446744073709551616 else a + b := by
  simp only [IntKind.wrap, IntKind.signed, IntKind.bits]
  simp
  omega
section
variable {B : World} {Γ Δ : List HProp} {st sd n : Nat} {M C : Recs} {P : Pool}
theorem sum7_hg {a b : Int} {Q : Int → Bool → K} (ha : -9223372036854775808 ≤ a ∧ a ≤ 9223372036854775807) (hb : -9223372036854775808 ≤ b ∧ b ≤ 9223372036854775807)
    (h : HG B Γ (Q (if overS a b then 0 else a + b) (!overS a b))) : HG B Γ (ref07_sum.call a b Q) := by
  refine fun w hw => ref07_sum_ok _ _ _ _ ?_
  refine hg hw ?_
  clear hw w
  unfold ref07_sum
  have e := wrap_sum ha hb
  have fin : ∀ (c : Int) (t : Bool), (overS a b = true ↔ t = true) → (t = false → c = a + b) → HG B Γ (ref07_sum.s1 Q c t) := fun c t h1 h2 => by
    unfold ref07_sum.s1
    cases t
    · have : overS a b = false := by cases ho : overS a b with
        | false => rfl
        | true => exact absurd (h1.1 ho) (by simp)
      rw [this] at h
      refine s_f ?_
      rw [h2 rfl]; simpa using h
    · rw [h1.2 rfl] at h
      refine s_t ?_
      simpa using h
  refine s_ar rfl ?_
  refine s_ar rfl ?_
  refine s_ar rfl ?_
  refine s_ar e ?_
  have ov : overS a b = true ↔ (9223372036854775807 < a + b ∨ a + b < -9223372036854775808) := by
    unfold overS
    simp only [decide_eq_true_eq]; omega
  have neg : HG B Γ (Ite (decide (a < 0)) (Ite (decide (b < 0)) (ref07_sum.s1 Q (if 9223372036854775807 < a + b then a + b - 18446744073709551616 else if a + b < -9223372036854775808 then a + b + 18446744073709551616 else a + b) (decide ((0 : Int) ≤ if 9223372036854775807 < a + b then a + b - 18446744073709551616 else if a + b < -9223372036854775808 then a + b + 18446744073709551616 else a + b)))
      (ref07_sum.s1 Q (if 9223372036854775807 < a + b then a + b - 18446744073709551616 else if a + b < -9223372036854775808 then a + b + 18446744073709551616 else a + b) false)) (ref07_sum.s1 Q (if 9223372036854775807 < a + b then a + b - 18446744073709551616 else if a + b < -9223372036854775808 then a + b + 18446744073709551616 else a + b) false)) ∨ (0 ≤ a ∧ 0 ≤ b) := by
    by_cases hab : 0 ≤ a ∧ 0 ≤ b
    · exact .inr hab
    left
    refine s_ite (fun h1 => ?_) fun h1 => ?_
    · simp only [decide_eq_true_eq] at h1
      refine s_ite (fun h2 => ?_) fun h2 => ?_
      · simp only [decide_eq_true_eq] at h2
        refine fin _ _ (by rw [ov]; simp only [decide_eq_true_eq]; split <;> (try split) <;> omega) (fun h3 => ?_)
        simp only [decide_eq_false_iff_not] at h3
        revert h3
        split <;> (try split) <;> omega
      · simp only [decide_eq_false_iff_not] at h2
        refine fin _ _ (by rw [ov]; simp; omega) (fun _ => ?_)
        split <;> (try split) <;> omega
    · simp only [decide_eq_false_iff_not] at h1
      refine fin _ _ (by rw [ov]; simp; omega) (fun _ => ?_)
      split <;> (try split) <;> omega
  refine s_ite (fun h1 => ?_) fun h1 => ?_
  · simp only [decide_eq_true_eq] at h1
    refine s_ite (fun h2 => ?_) fun h2 => ?_
    · simp only [decide_eq_true_eq] at h2
      refine s_ite (fun h3 => ?_) fun h3 => ?_
      · simp only [decide_eq_true_eq] at h3
        refine fin _ _ (by rw [ov]; simp only [iff_true]; revert h3; split <;> (try split) <;> omega) (fun h => by cases h)
      · simp only [decide_eq_false_iff_not] at h3
        refine s_f ?_
        refine fin _ _ (by rw [ov]; simp only [Bool.false_eq_true, iff_false]; revert h3; split <;> (try split) <;> omega) (fun _ => ?_)
        revert h3
        split <;> (try split) <;> omega
    · simp only [decide_eq_false_iff_not] at h2
      exact neg.resolve_right (by omega)
  · simp only [decide_eq_false_iff_not] at h1
    exact neg.resolve_right (by omega)
theorem delete6_hg {k : ByteArray} {Q : K} (hk : k.size < 1000000000000) (hL : M.length < 1000000) (h : HG B (Ref6 sd n (sDel n M k) P :: Γ) Q) : HG B (Ref6 sd n M P :: Γ) (ref06_Store_Delete.call (some ⟨sd, 0, none⟩) k Q) := by
  refine fun w hw => ref06_Store_Delete_ok _ _ _ _ ?_
  refine hg hw ?_
  clear hw w
  unfold ref06_Store_Delete
  refine get6_hg hk (by omega) fun sl hok hv => ?_
  have hsp : sDel n M k = setM M k { sGet n M k with has := false, val := [] } := rfl
  rw [hsp] at h
  generalize sGet n M k = r at *
  refine s_new fun r6 => ?_
  refine s_stN (b := r6) (l' := recL r sl) ?_
  repeat refine s_nx ?_
  obtain ⟨o1, o2, o3⟩ := hok
  refine s_own sd ?_
  refine set6_hg (r := { r with has := false, val := [] }) (s := ⟨none, 0, 0⟩) ⟨o1, o2, by simp⟩ (.inl ⟨rfl, rfl⟩) (by omega) ?_
  exact s_end h
theorem copy6_hg {Q : Option Addr → K} (hL : M.length < 1000000) (h : ∀ c, HG B (Ref6 c n M P :: Ref6 sd n M P :: Γ) (Q (some ⟨c, 0, none⟩))) : HG B (Ref6 sd n M P :: Γ) (ref06_Store_Copy.call (some ⟨sd, 0, none⟩) Q) := by
  refine fun w hw => ref06_Store_Copy_ok _ _ _ ?_
  refine hg hw ?_
  clear hw w
  refine s_ref6 fun rs X hf => ?_
  have hXl : X.length = M.length := by rw [hf.mod]; simp
  refine s_cap rs fun a1 a2 a3 a4 => ?_
  rw [flatMap_len _ 5 rowF6_len] at a1
  unfold ref06_Store_Copy
  refine s_dr ?_
  refine s_wsD [blk sd (.cells [.int .i64 n, rs.val].toArray ty_argosyref06_Store (0, 0))] ?_
  refine s_nn ?_
  repeat refine s_nx ?_
  refine s_new fun t7 => ?_
  repeat refine s_nx ?_
  refine s_conv (A' := SlC ty_api_Row 5 ⟨some ⟨t7, 0, none⟩, 0, 0⟩ (([] : List RecX).flatMap rowF6)) (blk_SlC (vs := []) rfl (by simp)) ?_
  refine s_append (s := ⟨some ⟨t7, 0, none⟩, 0, 0⟩) (esz := 5) (us := X.flatMap rowF6) (fun w hw => (own_rd (s := rs) hw).1) (rowF6_fl X) (by simp only; omega) fun s2 _ => ?_
  rw [List.flatMap_nil, List.nil_append]
  repeat refine s_nx ?_
  refine s_new fun c => ?_
  refine s_end (Δ := ref6L sd n rs X (ref6L c n s2 X Γ)) ?_
  refine s_mkRef6 hf ?_
  refine s_ownS s2 ?_
  refine s_own c ?_
  refine s_mkRef6 hf ?_
  exact s_end (h c)
/-- What was put out lies among the values, or is the operation's own. -/
abbrev OutIn (P : Pool) (osl : Sl) (ov : List UInt8) (x : (Bool × List UInt8) × Sl) : Prop := inP P x.2 x.1.2 ∨ (x.2 = osl ∧ x.1.2 = ov)
theorem step7_hg {o : OpM} {osl : Sl} {Q : Sl → Int → K} (ho : o.ok) (hv8 : o.val.length ≤ 90000000) (hL : C.length < 900000) (hr : ∀ w, Holds B Γ w → RdB w osl o.val)
    (h : ∀ s P' (O : OX), (∀ x ∈ P, x ∈ P') → O.map Prod.fst = (stepC n C o).2.1 → (∀ x ∈ O, OutIn P' osl o.val x) → HG B (SlC ty_api_Out 2 s (O.flatMap oF) :: Ref6 sd n (stepC n C o).1 P' :: poolR P' :: Γ) (Q s (stepC n C o).2.2)) :
    HG B (Ref6 sd n C P :: poolR P :: Γ) (ref07_step.call (some ⟨sd, 0, none⟩) (opF (o, osl)).toArray Q) := by
  obtain ⟨o1, o2, o3, o4⟩ := ho
  have hks : (bs o.key).size < 1000000000000 := o1
  refine fun w hw => ref07_step_ok _ _ _ _ ?_
  refine hg hw ?_
  clear hw w
  unfold ref07_step
  refine s_new fun o3b => ?_
  refine s_ld (b := o3b) (off := 1) (l := opF (o, osl)) (x := bs o.key) ?_
  refine s_own sd ?_
  refine get6_hg hks (by omega) fun sl hok hv => ?_
  refine s_new fun r6 => ?_
  refine s_stN (b := r6) (l' := recL (sGet n C (bs o.key)) sl) ?_
  refine s_ld (b := o3b) (l := opF (o, osl)) (x := o.kind) ?_
  -- nothing put out
  have none : ∀ {C' : Recs} {P' : Pool} {e : Int} {t : Nat}, (∀ x ∈ P, x ∈ P') → stepC n C o = (C', [], e) → HG B (blk t (.cells ([] : List Value).toArray ty_api_Out (0, 0)) :: Ref6 sd n C' P' :: poolR P' :: Γ) (Q (Sl.mk (some ⟨t, 0, none⟩) 0 0) e) := fun {C' P' e t} hP he => by
    have h1 := h ⟨some ⟨t, 0, none⟩, 0, 0⟩ P' [] hP (by rw [he]; rfl) (by simp)
    rw [he] at h1
    exact s_conv (A' := SlC ty_api_Out 2 ⟨some ⟨t, 0, none⟩, 0, 0⟩ (([] : OX).flatMap oF)) (blk_SlC (vs := []) rfl (by simp)) h1
  have S1 : ∀ {C' : Recs} {P' : Pool}, (∀ x ∈ P, x ∈ P') → stepC n C o = (C', [], 0) → HG B (Ref6 sd n C' P' :: poolR P' :: Γ) (ref07_step.s1 Q) := fun {C' P'} hP he => by
    unfold ref07_step.s1
    refine s_new fun t => ?_
    exact none hP he
  have one : ∀ {x : (Bool × List UInt8) × Sl} {t : Nat}, OutIn P osl o.val x → stepC n C o = (C, [x.1], 0) → HG B (blk t (.cells [.bool x.1.1, x.2.val].toArray ty_api_Out (0, 0)) :: Ref6 sd n C P :: poolR P :: Γ) (Q (Sl.mk (some ⟨t, 0, Option.none⟩) 1 1) 0) := fun {x t} hx he => by
    have h1 := h ⟨some ⟨t, 0, Option.none⟩, 1, 1⟩ P [x] (fun x hx => hx) (by rw [he]; rfl) (by simpa using hx)
    rw [he] at h1
    refine s_conv (A' := SlC ty_api_Out 2 ⟨some ⟨t, 0, Option.none⟩, 1, 1⟩ ([x].flatMap oF)) (blk_SlC (vs := [x].flatMap oF) (by simp [oF]) (by simp [oF])) h1
  refine s_ite (fun c1 => ?_) fun c1 => ?_
  · have hk : o.kind = 1 := by simpa using c1
    repeat refine s_nx ?_
    refine s_new fun t => ?_
    refine s_end (Δ := blk t (.cells [.bool (sGet n C (bs o.key)).has, sl.val].toArray ty_api_Out (0, 0)) :: Ref6 sd n C P :: poolR P :: Γ) ?_
    exact one (x := (((sGet n C (bs o.key)).has, (sGet n C (bs o.key)).val), sl)) (.inl hv) (by unfold stepC; rw [if_pos hk])
  have k1 : o.kind ≠ 1 := by simpa using c1
  refine s_ite (fun c7 => ?_) fun c7 => ?_
  · have hk : o.kind = 7 := by simpa using c7
    refine s_ld (b := o3b) (off := 2) (l := opF (o, osl)) (x := osl) ?_
    repeat refine s_nx ?_
    refine s_new fun t => ?_
    refine s_end (Δ := blk t (.cells [.bool true, osl.val].toArray ty_api_Out (0, 0)) :: Ref6 sd n C P :: poolR P :: Γ) ?_
    exact one (x := ((true, o.val), osl)) (.inr ⟨rfl, rfl⟩) (by unfold stepC; rw [if_neg k1, if_pos hk])
  have k7 : o.kind ≠ 7 := by simpa using c7
  refine s_ite (fun c2 => ?_) fun c2 => ?_
  · have hk : o.kind = 2 := by simpa using c2
    refine s_ld (b := o3b) (off := 1) (l := opF (o, osl)) (x := bs o.key) ?_
    refine s_ld (b := o3b) (off := 2) (l := opF (o, osl)) (x := osl) ?_
    refine s_end (Δ := Ref6 sd n C P :: poolR P :: Γ) ?_
    refine put6P_hg hks (by omega) (fun w hw => hr w hw) hv8 fun P' hP => ?_
    exact S1 hP (by unfold stepC; rw [if_neg k1, if_neg k7, if_pos hk])
  have k2 : o.kind ≠ 2 := by simpa using c2
  refine s_ite (fun c3 => ?_) fun c3 => ?_
  · have hk : o.kind = 3 := by simpa using c3
    refine s_ld (b := o3b) (off := 1) (l := opF (o, osl)) (x := bs o.key) ?_
    refine s_end (Δ := Ref6 sd n C P :: poolR P :: Γ) ?_
    refine delete6_hg hks (by omega) ?_
    exact S1 (fun x hx => hx) (by unfold stepC; rw [if_neg k1, if_neg k7, if_neg k2, if_pos hk])
  have k3 : o.kind ≠ 3 := by simpa using c3
  have S2 : ∀ b : Bool, stepC n C o = (C, [], if b then 110 else 0) → HG B (Ref6 sd n C P :: poolR P :: Γ) (ref07_step.s2 Q b) := fun b he => by
    unfold ref07_step.s2
    cases b
    · exact s_f (S1 (fun x hx => hx) he)
    · refine s_t ?_
      refine s_new fun t => ?_
      exact none (fun x hx => hx) he
  refine s_ite (fun c4 => ?_) fun c4 => ?_
  · have hk : o.kind = 4 := by simpa using c4
    have e4 : stepC n C o = (C, [], if (sGet n C (bs o.key)).has = true ∧ (sGet n C (bs o.key)).val = o.val then 0 else 110) := by unfold stepC; rw [if_neg k1, if_neg k7, if_neg k2, if_neg k3, if_pos hk]
    refine s_ld (b := r6) (l := recL (sGet n C (bs o.key)) sl) (x := (sGet n C (bs o.key)).has) ?_
    refine s_ite (fun hh => ?_) fun hh => ?_
    · have hh' : (sGet n C (bs o.key)).has = false := by simpa using hh
      refine s_end (S2 true ?_)
      rw [e4, hh']; simp
    · have hh' : (sGet n C (bs o.key)).has = true := by simpa using hh
      refine s_ld (b := r6) (off := 1) (l := recL (sGet n C (bs o.key)) sl) (x := sl) ?_
      refine s_str (xs := (sGet n C (bs o.key)).val) (fun w hw => hv.rd (hw.drops (Δ := [poolR P]))) ?_
      refine s_ld (b := o3b) (off := 2) (l := opF (o, osl)) (x := osl) ?_
      refine s_str (xs := o.val) (fun w hw => hr w hw.drops) ?_
      refine s_end (S2 _ ?_)
      rw [e4, hh']
      by_cases hvv : (sGet n C (bs o.key)).val = o.val
      · simp [hvv]
      · have : ((bs (sGet n C (bs o.key)).val).toList == (bs o.val).toList) = false := by simpa using hvv
        simp [hvv]
  have k4 : o.kind ≠ 4 := by simpa using c4
  refine s_ite (fun c5 => ?_) fun c5 => ?_
  · have hk : o.kind = 5 := by simpa using c5
    have e5 : stepC n C o = (C, [], if (sGet n C (bs o.key)).has then 110 else 0) := by unfold stepC; rw [if_neg k1, if_neg k7, if_neg k2, if_neg k3, if_neg k4, if_pos hk]
    refine s_ld (b := r6) (l := recL (sGet n C (bs o.key)) sl) (x := (sGet n C (bs o.key)).has) ?_
    refine s_ite (fun hh => ?_) fun hh => ?_
    · refine s_new fun t => ?_
      refine s_end (Δ := blk t (.cells ([] : List Value).toArray ty_api_Out (0, 0)) :: Ref6 sd n C P :: poolR P :: Γ) ?_
      exact none (fun x hx => hx) (by rw [e5, hh]; rfl)
    · refine s_end (Δ := Ref6 sd n C P :: poolR P :: Γ) (S1 (fun x hx => hx) ?_)
      rw [e5, hh]; rfl
  have k5 : o.kind ≠ 5 := by simpa using c5
  have e6 : stepC n C o = ((addC n C o).1, [], (addC n C o).2) := by unfold stepC; rw [if_neg k1, if_neg k7, if_neg k2, if_neg k3, if_neg k4, if_neg k5]
  refine s_ld (b := r6) (off := 1) (l := recL (sGet n C (bs o.key)) sl) (x := sl) ?_
  refine fun w hw => ref07_Number_spec (xs := (sGet n C (bs o.key)).val) (hv.rd (hw.drops (Δ := [poolR P]))) ?_
  refine hg hw ?_
  clear hw w
  rw [show (if (sGet n C (bs o.key)).val.length = 8 then IntKind.wrap .i64 (num8 (sGet n C (bs o.key)).val : Int) else 0) = num7 (sGet n C (bs o.key)).val from rfl]
  have hnr : -9223372036854775808 ≤ num7 (sGet n C (bs o.key)).val ∧ num7 (sGet n C (bs o.key)).val ≤ 9223372036854775807 := by
    unfold num7
    split
    · exact wrap_range _
    · omega
  refine s_ld (b := r6) (l := recL (sGet n C (bs o.key)) sl) (x := (sGet n C (bs o.key)).has) ?_
  have S3 : ∀ b : Bool, (b = true ↔ (sGet n C (bs o.key)).has = true ∧ (sGet n C (bs o.key)).val.length ≠ 8) → HG B (blk o3b (.cells (opF (o, osl)).toArray ty_api_Op (0, 0)) :: Ref6 sd n C P :: poolR P :: Γ) (ref07_step.s3 Q (some ⟨sd, 0, Option.none⟩) ⟨o3b, 0, Option.none⟩ (num7 (sGet n C (bs o.key)).val) b) := fun b hb => by
    unfold ref07_step.s3
    cases b
    · have hnb : ¬ ((sGet n C (bs o.key)).has = true ∧ (sGet n C (bs o.key)).val.length ≠ 8) := fun hh => by have := hb.2 hh; cases this
      refine s_f ?_
      refine s_ld (b := o3b) (off := 3) (l := opF (o, osl)) (x := o.n) ?_
      refine sum7_hg hnr ⟨o3, o4⟩ ?_
      refine s_ite (fun hh => ?_) fun hh => ?_
      · have hov : overS (num7 (sGet n C (bs o.key)).val) o.n = true := by simpa using hh
        refine s_new fun t => ?_
        refine s_end (Δ := blk t (.cells ([] : List Value).toArray ty_api_Out (0, 0)) :: Ref6 sd n C P :: poolR P :: Γ) ?_
        exact none (fun x hx => hx) (by rw [e6]; unfold addC; rw [if_neg hnb, if_pos hov])
      · have hov : overS (num7 (sGet n C (bs o.key)).val) o.n = false := by simpa using hh
        rw [hov, if_neg Bool.false_ne_true]
        refine s_dr ?_
        refine s_wsD [blk o3b (.cells (opF (o, osl)).toArray ty_api_Op (0, 0))] ?_
        refine s_ldS (b := o3b) (off := 1) (l := opF (o, osl)) (x := bs o.key) ?_
        refine fun w hw => ref07_Value_spec hw fun sv w hw => ?_
        refine hg hw ?_
        clear hw w
        refine s_sv ?_
        refine s_end (Δ := Ref6 sd n C P :: poolR P :: Bytes ty_uint8 sv (valOf (num7 (sGet n C (bs o.key)).val + o.n)) :: Γ) ?_
        refine put6P_hg (xs := valOf (num7 (sGet n C (bs o.key)).val + o.n)) hks (by omega) (fun w hw => (own_rd (s := sv) hw).1) (by rw [valOf_len]; omega) fun P' hP => ?_
        refine s_end (Δ := Ref6 sd n (sPut n C (bs o.key) (valOf (num7 (sGet n C (bs o.key)).val + o.n))) P' :: poolR P' :: Γ) (S1 hP ?_)
        rw [e6]; unfold addC
        rw [if_neg hnb, if_neg (by simp [hov])]
    · refine s_t ?_
      refine s_new fun t => ?_
      refine s_end (Δ := blk t (.cells ([] : List Value).toArray ty_api_Out (0, 0)) :: Ref6 sd n C P :: poolR P :: Γ) ?_
      exact none (fun x hx => hx) (by rw [e6]; unfold addC; rw [if_pos (hb.1 rfl)])
  refine s_ite (fun hh => ?_) fun hh => ?_
  · refine s_end (S3 _ ?_)
    simp [hh]
  · refine s_end (S3 _ ?_)
    simp [hh]
theorem s_ldSS {s : Sl} {L : List TX} {i : Nat} {x : TX} {k : ByteArray → K} {Γ0 : List HProp} (hx : L[i]? = some x) (h : HG B Γ (k (bs x))) [o : OwnS s Γ0 (SlS s L) Δ] : HG B Γ (LdS (Holds B Γ0) (elA s i 1) Value.string k) := fun w hw => by
  refine ⟨bs x, fun w' hw' => ?_, h w hw⟩
  obtain ⟨h0, h1, h2, h3, h4⟩ := own_rd hw' (p := o)
  have := el_cell (i := i) (off := 0) (v := strV x) h0 h3 (by simp [hx])
  rwa [add0] at this
theorem fm1 (L : List TX) : L.flatMap (fun x => [strV x]) = L.map strV := by induction L <;> simp_all
theorem s_idxSA {s : Sl} {L : List TX} {j : Nat} {jj : Int} {x : TX} {k : Addr → K} (hr : ∀ w, Holds B Γ w → RdC w s 1 (L.map strV)) (hx : L[j]? = some x) (h : ∀ t, (∀ w, RdC w s 1 (L.map strV) → w.cell? t = some (strV x)) → HG B Γ (k t)) (hj : jj = (j : Int) := by first | rfl | omega) : HG B Γ (Idx s jj 1 k) := by
  have e := fm1 L
  refine s_idxFA (fun x : TX => [strV x]) (fun _ => rfl) (by omega) (fun w hw => by rw [e]; exact hr w hw) hx (fun t ht => h t fun w hw => ?_) hj
  have h1 := ht w (by rw [e]; exact hw) 0 (by simp)
  rw [add0] at h1
  simpa using h1
/-- What a run of the document's puts out lies among the values, or is an operation's own. -/
abbrev OutsIn (P : Pool) (t : TxX) (O : OX) : Prop := ∀ x ∈ O, inP P x.2 x.1.2 ∨ ∃ op ∈ t.ops, x.2 = op.2 ∧ x.1.2 = op.1.val
abbrev RowsIn (P : Pool) (R : WX) : Prop := ∀ x ∈ R, x.2.1.ok ∧ inP P x.2.2 x.2.1.val
theorem OutsIn.mono {P P' : Pool} {t : TxX} {O : OX} (h : OutsIn P t O) (hP : ∀ x ∈ P, x ∈ P') : OutsIn P' t O := fun x hx => (h x hx).imp (fun h => h.mono hP) id
theorem run7_hg {t : TxX} {Q : Array Value → Sl → K} (hop : ∀ x ∈ t.ops, x.1.ok ∧ x.1.val.length ≤ 90000000) (hl : t.ops.length ≤ 1000) (hM : M.length ≤ 100000) (hwk : ∀ k ∈ t.writes, k.length < 1000000000000) (h2 : t.kind = 2 → t.writes ≠ []) (ht : ∀ w, Holds B Γ w → txRd w t)
    (h : ∀ P' os (O : OX) rs (R : WX), (∀ x ∈ P, x ∈ P') → O.map Prod.fst = (runC n M t).1 → modW R = (runC n M t).2.2 → OutsIn P' t O → RowsIn P' R → HG B (SlC ty_api_Out 2 os (O.flatMap oF) :: SlC ty_api_Row 5 rs (R.flatMap rowF) :: Ref6 sd n M P' :: poolR P' :: Γ) (Q #[.int .i64 (runC n M t).2.1, os.val] rs)) :
    HG B (Ref6 sd n M P :: poolR P :: Γ) (ref07_Run.call (some ⟨sd, 0, none⟩) (txL t).toArray Q) := by
  refine fun w hw => ref07_Run_ok _ _ _ _ ?_
  refine hg hw ?_
  clear hw w
  have hon : ∀ w, Holds B Γ w → t.os.n = t.ops.length := fun w hw => rd_len opF_len (by omega) (ht w hw).2.2.1
  unfold ref07_Run
  refine s_new fun t3 => ?_
  refine s_new fun t4 => ?_
  refine s_own sd ?_
  refine copy6_hg (by omega) fun c => ?_
  refine s_new fun t18 => ?_
  refine s_new fun t19 => ?_
  refine s_ld (b := t3) (l := txL t) (x := t.kind) ?_
  have bad : ∀ {P' : Pool} {e : Int} {t33 : Nat}, (∀ x ∈ P, x ∈ P') → (runC n M t) = ([], e, []) → HG B (blk t33 (.cells ([] : List Value).toArray ty_api_Row (0, 0)) :: Ref6 sd n M P' :: poolR P' :: Γ) (Q #[.int .i64 e, Sl.val ⟨none, 0, 0⟩] (Sl.mk (some ⟨t33, 0, none⟩) 0 0)) := fun {P' e t33} hP he => by
    have h1 := h P' ⟨none, 0, 0⟩ [] ⟨some ⟨t33, 0, none⟩, 0, 0⟩ [] hP (by rw [he]; rfl) (by rw [he]; rfl) (by intro x hx; cases hx) (by intro x hx; cases hx)
    rw [he] at h1
    refine s_conv (A' := SlC ty_api_Row 5 ⟨some ⟨t33, 0, none⟩, 0, 0⟩ (([] : WX).flatMap rowF)) (blk_SlC (vs := []) rfl (by simp)) ?_
    refine fun w hw => hg (show Holds B (SlC ty_api_Out 2 ⟨none, 0, 0⟩ (([] : OX).flatMap oF) :: _) w from hw.nilSl _ _) h1
  refine s_ite (fun c2 => ?_) fun c2 => ?_
  · have hk2 : t.kind = 2 := by simpa using c2
    obtain ⟨k, hk⟩ : ∃ k, t.writes[0]? = some k := by
      cases hw : t.writes with
      | nil => exact absurd hw (h2 hk2)
      | cons k ks => exact ⟨k, rfl⟩
    have hkd : t.writes.headD [] = k := by
      cases hw : t.writes with
      | nil => rw [hw] at hk; cases hk
      | cons k' ks => rw [hw] at hk; simpa using hk
    have hkm : k ∈ t.writes := List.mem_of_getElem? hk
    have hks : (bs k).size < 1000000000000 := hwk k hkm
    have hr : runC n M t = if (sMove n M (bs k) t.to).2 ≠ 0 then ([], 111, []) else ([], 0, [(k, sGet n (sMove n M (bs k) t.to).1 (bs k))]) := by unfold runC; rw [if_pos hk2, hkd]
    refine s_dr ?_
    refine s_ld (b := t3) (off := 2) (l := txL t) (x := t.ws) ?_
    refine s_idxS (L := t.writes) (j := 0) (fun w hw => (ht w hw.drops).2.1) hk ?_
    refine s_ld (b := t3) (off := 4) (l := txL t) (x := t.to) ?_
    refine s_own c ?_
    refine move6_hg hks (by omega) ?_
    refine s_ite (fun hb => ?_) fun hb => ?_
    · refine s_new fun t33 => ?_
      refine s_stN (b := t4) (l' := [.int .i64 111, Sl.val ⟨none, 0, 0⟩]) ?_
      refine s_ldN (b := t4) (l' := [.int .i64 111, Sl.val ⟨none, 0, 0⟩]) ?_
      refine s_end (Δ := blk t33 (.cells ([] : List Value).toArray ty_api_Row (0, 0)) :: Ref6 sd n M P :: poolR P :: Γ) ?_
      exact bad (fun x hx => hx) (by rw [hr, if_pos (by simpa using hb)])
    · have hb' : ¬ (sMove n M (bs k) t.to).2 ≠ 0 := by simpa using hb
      rw [if_neg hb'] at hr
      refine s_dr ?_
      refine s_wsP (fun w => txRd w t ∧ w.cell? ((⟨t3, 0, none⟩ : Addr).add 2) = some t.ws.val) (fun w hw => ⟨ht w hw.drops, ?_⟩) ?_
      · rw [add_mk]; exact cell_block (own_blkOf hw (b := t3)) rfl
      refine s_ldSP (x := t.ws) (fun w hw => hw.2) ?_
      refine s_idxSA (L := t.writes) (j := 0) (fun w hw => (ht w hw.drops).2.1) hk fun a1 ha1 => ?_
      refine s_ldSP (x := bs k) (fun w hw => ha1 w hw.1.2.1) ?_
      refine s_ldSP (x := t.ws) (fun w hw => hw.2) ?_
      refine s_idxSA (L := t.writes) (j := 0) (fun w hw => (ht w hw.drops).2.1) hk fun a2 ha2 => ?_
      refine s_ldSP (x := bs k) (fun w hw => ha2 w hw.1.2.1) ?_
      have hml := sMove_len2 n M (bs k) t.to
      refine s_own c ?_
      refine get6_hg hks (by omega) fun sl hok hv => ?_
      have hsv : ∀ w, Holds B (Ref6 c n (sMove n M (bs k) t.to).1 P :: blk t4 (.cells [.int .i64 0, Sl.val ⟨none, 0, 0⟩].toArray ty_api_Result (0, 0)) :: blk t3 (.cells (txL t).toArray ty_api_Txn (0, 0)) :: Ref6 sd n M P :: poolR P :: Γ) w → txRd w t ∧ w.cell? ((⟨t3, 0, none⟩ : Addr).add 2) = some t.ws.val := fun w hw => ⟨ht w hw.drops, by rw [add_mk]; exact cell_block (own_blkOf hw (b := t3)) rfl⟩
      have fin : ∀ t46, HG B (blk t46 (.cells (rowF (k, (sGet n (sMove n M (bs k) t.to).1 (bs k), sl))).toArray ty_api_Row (0, 0)) :: blk t4 (.cells [.int .i64 0, Sl.val ⟨none, 0, 0⟩].toArray ty_api_Result (0, 0)) :: Ref6 sd n M P :: poolR P :: Γ) (ref07_Run.s1 Q ⟨t4, 0, none⟩ (Sl.mk (some ⟨t46, 0, none⟩) 1 1)) := fun t46 => by
        unfold ref07_Run.s1
        refine s_ldN (b := t4) (l' := [.int .i64 0, Sl.val ⟨none, 0, 0⟩]) ?_
        have h1 := h P ⟨none, 0, 0⟩ [] ⟨some ⟨t46, 0, none⟩, 1, 1⟩ [(k, (sGet n (sMove n M (bs k) t.to).1 (bs k), sl))] (fun x hx => hx) (by rw [hr]; rfl) (by rw [hr]; rfl) (by intro x hx; cases hx) (by intro x hx; rw [List.mem_singleton.1 hx]; exact ⟨hok, hv⟩)
        rw [hr] at h1
        refine s_conv (A' := SlC ty_api_Row 5 ⟨some ⟨t46, 0, none⟩, 1, 1⟩ ([(k, (sGet n (sMove n M (bs k) t.to).1 (bs k), sl))].flatMap rowF)) (blk_SlC (vs := [(k, (sGet n (sMove n M (bs k) t.to).1 (bs k), sl))].flatMap rowF) (by simp) (by simp [rowF])) ?_
        refine fun w hw => hg (show Holds B (SlC ty_api_Out 2 ⟨none, 0, 0⟩ (([] : OX).flatMap oF) :: _) w from hw.nilSl _ _) ?_
        exact s_end h1
      refine s_svP (fun w hw => hsv w hw.drops) ?_
      refine s_bld (cs := rowF (k, (sGet n (sMove n M (bs k) t.to).1 (bs k), sl))) ?_ rfl
      refine s_all2 ?_ ?_
      · refine s_bld1 (cs := rowF (k, (sGet n (sMove n M (bs k) t.to).1 (bs k), sl))) ?_
        refine s_new fun t46 => ?_
        refine s_stN (b := t4) (l' := [.int .i64 0, Sl.val ⟨none, 0, 0⟩]) ?_
        exact s_end (fin t46)
      · refine s_stN (b := t4) (l' := [.int .i64 0, Sl.val ⟨none, 0, 0⟩]) ?_
        refine s_svP (fun w hw => hsv w hw.drops) ?_
        refine s_bld1 (cs := rowF (k, (sGet n (sMove n M (bs k) t.to).1 (bs k), sl))) ?_
        refine s_new fun t46 => ?_
        exact s_end (fin t46)
  · have hk2 : ¬ t.kind = 2 := by simpa using c2
    have hr : runC n M t = if (opsC n t.ops M [] []).2.2.2 ≠ 0 then ([], (opsC n t.ops M [] []).2.2.2, []) else ((opsC n t.ops M [] []).2.1, 0, (keysT (opsC n t.ops M [] []).2.2.1).map fun k => (k, sGet n (opsC n t.ops M [] []).1 (bs k))) := by unfold runC; rw [if_neg hk2]
    refine s_own t18 ?_
    refine s_conv (A' := SlC ty_api_Out 2 ⟨some ⟨t18, 0, none⟩, 0, 0⟩ (([] : OX).flatMap oF)) (blk_SlC (vs := []) rfl (by simp)) ?_
    refine s_own t19 ?_
    refine s_conv (A' := SlS ⟨some ⟨t19, 0, none⟩, 0, 0⟩ []) (blk_SlC (vs := []) rfl (by simp)) ?_
    refine s_end (Δ := SlC ty_api_Out 2 ⟨some ⟨t18, 0, none⟩, 0, 0⟩ (([] : OX).flatMap oF) :: SlS ⟨some ⟨t19, 0, none⟩, 0, 0⟩ [] :: Ref6 c n M P :: poolR P :: Ref6 sd n M P :: blk t3 (.cells (txL t).toArray ty_api_Txn (0, 0)) :: blk t4 (.cells [.int .i64 0, Sl.val ⟨none, 0, 0⟩].toArray ty_api_Result (0, 0)) :: Γ) ?_
    refine s_loop (α := Sl × Sl × Int) (ι := Recs × OX × List TX × Pool × Nat) (fun x i => x.2.2 = (i.2.2.2.2 : Int) ∧ i.2.2.2.2 ≤ t.ops.length ∧ (∀ x ∈ P, x ∈ i.2.2.2.1) ∧ OutsIn i.2.2.2.1 t i.2.1 ∧ i.1.length ≤ M.length + i.2.2.2.2 ∧ i.2.1.length ≤ i.2.2.2.2 ∧ i.2.2.1.length ≤ i.2.2.2.2 ∧ (∀ k ∈ i.2.2.1, k.length < 1000000000000) ∧ opsC n (t.ops.drop i.2.2.2.2) i.1 (i.2.1.map Prod.fst) i.2.2.1 = opsC n t.ops M [] [])
      (fun x i => SlC ty_api_Out 2 x.1 (i.2.1.flatMap oF) :: SlS x.2.1 i.2.2.1 :: Ref6 c n i.1 i.2.2.2.1 :: poolR i.2.2.2.1 :: Ref6 sd n M i.2.2.2.1 :: blk t3 (.cells (txL t).toArray ty_api_Txn (0, 0)) :: blk t4 (.cells [.int .i64 0, Sl.val ⟨none, 0, 0⟩].toArray ty_api_Result (0, 0)) :: Γ) (fun x i => t.ops.length - i.2.2.2.2) (M, [], [], P, 0) ⟨rfl, Nat.zero_le _, fun x hx => hx, (by intro x hx; cases hx), Nat.le_refl _, Nat.le_refl _, Nat.le_refl _, (by intro x hx; cases hx), rfl⟩ ?_
    rintro k' ⟨os, ts, _⟩ ⟨C, O, T, P', i⟩ ⟨rfl, hi, hPP, hO, hCl, hOl, hTl, hTk, he⟩ hk'
    simp only at hi hPP hO hCl hOl hTl hTk he hk' ⊢
    unfold ref07_Run.b2
    refine s_ld (b := t3) (off := 3) (l := txL t) (x := t.os) ?_
    refine s_cap os fun a1 a2 a3 a4 => ?_
    rw [flatMap_len _ 2 oF_len] at a1
    refine s_cap ts fun b1 b2 b3 b4 => ?_
    refine fun w hw => hg hw ?_
    have hosn := hon w hw.drops
    clear hw w
    refine s_ite (fun hb => ?_) fun hb => ?_
    · have hil : i < t.ops.length := by simp only [decide_eq_true_eq] at hb; omega
      have hge : t.ops[i]? = some t.ops[i] := List.getElem?_eq_getElem hil
      have hmem : t.ops[i] ∈ t.ops := List.getElem_mem hil
      rw [List.drop_eq_getElem_cons hil] at he
      generalize t.ops[i] = x at hge hmem he
      obtain ⟨o, osl⟩ := x
      obtain ⟨ho1, ho2⟩ := hop _ hmem
      refine s_ld (b := t3) (off := 3) (l := txL t) (x := t.os) ?_
      refine s_idxN opF opF_len (fun w hw => (ht w hw.drops).2.2.1) hge ?_
      refine s_new fun o10 => ?_
      refine s_stN (b := o10) (l' := opF (o, osl)) ?_
      refine s_ldN (b := o10) (l' := opF (o, osl)) ?_
      refine s_end (Δ := Ref6 c n C P' :: poolR P' :: Ref6 sd n M P' :: blk o10 (.cells (opF (o, osl)).toArray ty_api_Op (0, 0)) :: SlC ty_api_Out 2 os (O.flatMap oF) :: SlS ts T :: blk t3 (.cells (txL t).toArray ty_api_Txn (0, 0)) :: blk t4 (.cells [.int .i64 0, Sl.val ⟨none, 0, 0⟩].toArray ty_api_Result (0, 0)) :: Γ) ?_
      refine step7_hg ho1 ho2 (by omega) (fun w hw => (ht w hw.drops).2.2.2 _ hmem) fun s2 P2 O2 hP2 hO2 hI2 => ?_
      rw [opsC_cons] at he
      have hst := stepC_len (n := n) (C := C) (o := o)
      have hPP2 : ∀ x ∈ P, x ∈ P2 := fun x hx => hP2 x (hPP x hx)
      refine s_ite (fun hc => ?_) fun hc => ?_
      · have hc' : (stepC n C o).2.2 ≠ 0 := by simpa using hc
        rw [if_pos hc'] at he
        refine s_new fun t69 => ?_
        refine s_stN (b := t4) (l' := [.int .i64 (stepC n C o).2.2, Sl.val ⟨none, 0, 0⟩]) ?_
        refine s_ldN (b := t4) (l' := [.int .i64 (stepC n C o).2.2, Sl.val ⟨none, 0, 0⟩]) ?_
        refine s_own sd ?_
        refine s_ref6P hP2 ?_
        refine s_end (Δ := blk t69 (.cells ([] : List Value).toArray ty_api_Row (0, 0)) :: Ref6 sd n M P2 :: poolR P2 :: Γ) ?_
        refine bad hPP2 ?_
        rw [hr, ← he, if_pos hc']
      have hc' : ¬ (stepC n C o).2.2 ≠ 0 := by simpa using hc
      rw [if_neg hc'] at he
      have hO2l : O2.length ≤ 1 := by have := congrArg List.length hO2; simp only [List.length_map] at this; omega
      refine s_cap s2 fun d1 d2 d3 d4 => ?_
      rw [flatMap_len _ 2 oF_len] at d1
      refine s_append (s := os) (esz := 2) (us := O2.flatMap oF) (fun w hw => (own_rd (s := s2) hw).1) (oF_flat O2) (by omega) fun os2 _ => ?_
      rw [← List.flatMap_append]
      refine s_own sd ?_
      refine s_ref6P hP2 ?_
      have hO3 : OutsIn P2 t (O ++ O2) := fun x hx => by
        rcases List.mem_append.1 hx with hx | hx
        · exact hO.mono hP2 x hx
        · exact (hI2 x hx).imp id fun hh => ⟨_, hmem, hh⟩
      have S3 : ∀ ts2 T2, T2 = (if isW o then T ++ [o.key] else T) → T2.length ≤ T.length + 1 → (∀ k ∈ T2, k.length < 1000000000000) → HG B (SlC ty_api_Out 2 os2 ((O ++ O2).flatMap oF) :: SlS ts2 T2 :: Ref6 c n (stepC n C o).1 P2 :: poolR P2 :: Ref6 sd n M P2 :: blk t3 (.cells (txL t).toArray ty_api_Txn (0, 0)) :: blk t4 (.cells [.int .i64 0, Sl.val ⟨none, 0, 0⟩].toArray ty_api_Result (0, 0)) :: Γ) (ref07_Run.s3 Q (fun outs7_2 touched8_2 i9_2 => k' (outs7_2, touched8_2, i9_2)) ⟨t3, 0, none⟩ ⟨t4, 0, none⟩ (some ⟨c, 0, none⟩) os2 ts2 (i : Int)) := fun ts2 T2 hT2 hT2l hT2k => by
        unfold ref07_Run.s3
        refine s_ai ?_
        refine hk' (os2, ts2, (i : Int) + 1) ((stepC n C o).1, O ++ O2, T2, P2, i + 1) ⟨by simp, hil, hPP2, hO3, by simp only; omega, by simp only [List.length_append]; omega, by simp only; omega, hT2k, ?_⟩ (by simp only; omega)
        simp only
        rw [List.map_append, hO2, hT2]; exact he
      have S4 : ∀ b : Bool, b = isW o → HG B (blk o10 (.cells (opF (o, osl)).toArray ty_api_Op (0, 0)) :: SlC ty_api_Out 2 os2 ((O ++ O2).flatMap oF) :: SlS ts T :: Ref6 c n (stepC n C o).1 P2 :: poolR P2 :: Ref6 sd n M P2 :: blk t3 (.cells (txL t).toArray ty_api_Txn (0, 0)) :: blk t4 (.cells [.int .i64 0, Sl.val ⟨none, 0, 0⟩].toArray ty_api_Result (0, 0)) :: Γ) (ref07_Run.s4 Q (fun outs7_2 touched8_2 i9_2 => k' (outs7_2, touched8_2, i9_2)) ⟨t3, 0, none⟩ ⟨t4, 0, none⟩ (some ⟨c, 0, none⟩) os2 ts (i : Int) ⟨o10, 0, none⟩ b) := fun b hb => by
        unfold ref07_Run.s4
        cases b
        · refine s_f ?_
          exact s_end (S3 ts T (by rw [← hb]; simp) (by omega) hTk)
        · refine s_t ?_
          refine s_ld (b := o10) (off := 1) (l := opF (o, osl)) (x := bs o.key) ?_
          refine s_new fun t89 => ?_
          refine s_append (s := ts) (esz := 1) (us := [strV o.key]) (blk_rd rfl) (by simp [flatV]) (by simp only; simp only [List.length_map] at b1; omega) fun ts2 _ => ?_
          rw [show T.map strV ++ [strV o.key] = (T ++ [o.key]).map strV by simp]
          exact s_end (S3 ts2 (T ++ [o.key]) (by rw [← hb]; simp) (by simp) fun k hk => by
            rcases List.mem_append.1 hk with hk | hk
            · exact hTk k hk
            · rw [List.mem_singleton.1 hk]; exact ho1.1)
      refine s_ld (b := o10) (l := opF (o, osl)) (x := o.kind) ?_
      refine s_ite (fun h2 => ?_) fun h2 => ?_
      · exact s_end (S4 true (by simp only [decide_eq_true_eq] at h2; simp [isW, h2]))
      refine s_ld (b := o10) (l := opF (o, osl)) (x := o.kind) ?_
      refine s_ite (fun h3 => ?_) fun h3 => ?_
      · exact s_end (S4 true (by simp only [decide_eq_true_eq] at h3; simp [isW, h3]))
      refine s_ld (b := o10) (l := opF (o, osl)) (x := o.kind) ?_
      exact s_end (S4 _ (by simp only [decide_eq_false_iff_not] at h2 h3; simp [isW, h2, h3]))
    · have hil : i = t.ops.length := by simp only [decide_eq_false_iff_not] at hb; omega
      rw [hil, List.drop_length, opsC_nil] at he
      rw [← he] at hr
      simp only [ne_eq, not_true_eq_false, if_false] at hr
      refine s_new fun t91 => ?_
      refine keys05_hg (t := ⟨0, [], T, [], 0, ⟨none, 0, 0⟩, ts, ⟨none, 0, 0⟩⟩) (fun w hw => RdC.none') (fun w hw => (own_rd (s := ts) hw).1) (by simp) (by simp; omega) fun ks => ?_
      rw [List.nil_append]
      have hkl := keysT_len T
      refine s_cap ks fun d1 d2 d3 d4 => ?_
      have hkn : ks.n = (keysT T).length := by simpa using d1.symm
      refine s_own t91 ?_
      refine s_conv (A' := SlC ty_api_Row 5 ⟨some ⟨t91, 0, none⟩, 0, 0⟩ (([] : WX).flatMap rowF)) (blk_SlC (vs := []) rfl (by simp)) ?_
      refine s_end (Δ := SlC ty_api_Row 5 ⟨some ⟨t91, 0, none⟩, 0, 0⟩ (([] : WX).flatMap rowF) :: SlS ks (keysT T) :: SlC ty_api_Out 2 os (O.flatMap oF) :: Ref6 c n C P' :: poolR P' :: Ref6 sd n M P' :: blk t4 (.cells [.int .i64 0, Sl.val ⟨none, 0, 0⟩].toArray ty_api_Result (0, 0)) :: Γ) ?_
      refine s_loop (α := Sl × Int) (ι := WX × Nat) (fun x i => x.2 = (i.2 : Int) ∧ i.2 ≤ (keysT T).length ∧ modW i.1 = ((keysT T).take i.2).map (fun k => (k, sGet n C (bs k))) ∧ RowsIn P' i.1)
        (fun x i => SlC ty_api_Row 5 x.1 (i.1.flatMap rowF) :: SlS ks (keysT T) :: SlC ty_api_Out 2 os (O.flatMap oF) :: Ref6 c n C P' :: poolR P' :: Ref6 sd n M P' :: blk t4 (.cells [.int .i64 0, Sl.val ⟨none, 0, 0⟩].toArray ty_api_Result (0, 0)) :: Γ) (fun x i => (keysT T).length - i.2) ([], 0) ⟨rfl, Nat.zero_le _, rfl, by intro x hx; cases hx⟩ ?_
      rintro k2 ⟨rs, _⟩ ⟨R, j⟩ ⟨rfl, hj, hR, hRi⟩ hk2
      simp only at hj hR hRi hk2 ⊢
      have hRl : R.length = j := by have := congrArg List.length hR; simpa [Nat.min_eq_left hj] using this
      refine s_cap rs fun e1 e2 e3 e4 => ?_
      rw [flatMap_len _ 5 rowF_len] at e1
      unfold ref07_Run.b5
      refine s_ite (fun hb2 => ?_) fun hb2 => ?_
      · have hjl : j < (keysT T).length := by simp only [decide_eq_true_eq] at hb2; omega
        have hge : (keysT T)[j]? = some (keysT T)[j] := List.getElem?_eq_getElem hjl
        have htk : (keysT T).take (j + 1) = (keysT T).take j ++ [(keysT T)[j]] := List.take_succ_eq_append_getElem hjl
        have hmk : (keysT T)[j] ∈ keysT T := List.getElem_mem hjl
        generalize (keysT T)[j] = k at hge htk hmk
        have hks : (bs k).size < 1000000000000 := hTk k (keysT_mem.1 hmk)
        refine s_dr ?_
        refine s_wsD [SlS ks (keysT T)] ?_
        refine s_idx (s := ks) (i := j) ?_
        refine s_idx (s := ks) (i := j) ?_
        refine s_ldSS (s := ks) hge ?_
        refine s_ldSS (s := ks) hge ?_
        refine s_own c ?_
        refine get6_hg hks (by omega) fun sl hok hv => ?_
        refine s_sv ?_
        refine s_bld (cs := rowF (k, (sGet n C (bs k), sl))) ?_ rfl
        refine s_bld1 (cs := rowF (k, (sGet n C (bs k), sl))) ?_
        refine s_new fun t113 => ?_
        refine s_append (s := rs) (esz := 5) (us := rowF (k, (sGet n C (bs k), sl))) (blk_rd rfl) (by intro v hv; simp only [rowF, recL, List.mem_cons, List.not_mem_nil, or_false] at hv; rcases hv with rfl | rfl | rfl | rfl | rfl <;> rfl) (by simp only; omega) fun rs2 _ => ?_
        rw [show R.flatMap rowF ++ rowF (k, (sGet n C (bs k), sl)) = (R ++ [(k, (sGet n C (bs k), sl))]).flatMap rowF by simp only [List.flatMap_append, List.flatMap_cons, List.flatMap_nil, List.append_nil]]
        refine s_ai ?_
        refine s_end (hk2 (rs2, (j : Int) + 1) (R ++ [(k, (sGet n C (bs k), sl))], j + 1) ⟨by simp, hjl, ?_, fun x hx => ?_⟩ (by simp only; omega))
        · simp only
          rw [htk, List.map_append, ← hR]
          simp only [modW, List.map_append]; rfl
        · rcases List.mem_append.1 hx with hx | hx
          · exact hRi x hx
          · rw [List.mem_singleton.1 hx]; exact ⟨hok, hv⟩
      · have hjl : j = (keysT T).length := by simp only [decide_eq_false_iff_not] at hb2; omega
        rw [hjl, List.take_length] at hR
        refine s_stN (b := t4) (l' := [.int .i64 0, os.val]) ?_
        refine s_ldN (b := t4) (l' := [.int .i64 0, os.val]) ?_
        have h1 := h P' os O rs R hPP (by rw [hr]) (by rw [hr]; exact hR) hO hRi
        rw [hr] at h1
        exact s_end h1
theorem part6 {t : Addr} {z : RecX} {s : Sl} {Z : List RecX} {k : Array Value → K} (ht : ∀ w, RdC w s 5 (Z.flatMap rowF6) → RdN w t (rowF6 z).toArray) (hz : ∀ w, Holds B Γ w → RdC w s 5 (Z.flatMap rowF6)) (hk : HG B Γ (k (recL z.2.1 z.2.2).toArray)) : HG B Γ (LdN (t.add 1) 4 k) := fun w hw => ⟨_, rfl, fun i hi => by
  have := ht w (hz w hw) (1 + i) (by simp at hi ⊢; omega)
  have e : (t.add 1).add i = t.add (1 + i) := by simp [Addr.add, Nat.add_assoc]
  rw [e, this]
  simp [Nat.add_comm 1 i], hk w hw⟩
/-- Rows into records. -/
def setsM (M : Recs) (W : WM) : Recs := W.foldl (fun M x => setM M (bs x.1) x.2) M
theorem setsM_len (M : Recs) (W : WM) : (setsM M W).length ≤ M.length + W.length := by
  unfold setsM
  induction W generalizing M with
  | nil => simp
  | cons x W ih =>
    have h1 := ih (setM M (bs x.1) x.2)
    have h2 := setM_len M (bs x.1) x.2
    simp only [List.foldl_cons, List.length_cons]; omega
theorem apply7_hg {rs : Sl} {R : WX} {Q : K} (hr : ∀ w, Holds B Γ w → RdC w rs 5 (R.flatMap rowF)) (hR : RowsIn P R) (hL : M.length + R.length < 1000000) (h : HG B (Ref6 sd n (setsM M (modW R)) P :: Γ) Q) : HG B (Ref6 sd n M P :: Γ) (ref07_Apply.call (some ⟨sd, 0, none⟩) rs Q) := fun w hw => by
  refine ref07_Apply_ok _ _ _ _ ?_
  have hsn : rs.n = R.length := rd_len rowF_len (by omega) (hr w hw.tail)
  refine hg hw ?_
  clear hw w
  have hr6 : ∀ {X : HProp} w, Holds B (X :: Γ) w → RdC w rs 5 ((R.map fun x => ((bs x.1, x.2) : RecX)).flatMap rowF6) := fun w hw => by rw [← rows_rec]; exact hr w hw.tail
  unfold ref07_Apply
  refine s_loop (α := Int) (ι := Nat) (fun x i => x = (i : Int) ∧ i ≤ R.length) (fun x i => Ref6 sd n (setsM M (modW (R.take i))) P :: Γ) (fun x i => R.length - i) 0 ⟨rfl, Nat.zero_le _⟩ ?_
  rintro k' _ i ⟨rfl, hi⟩ hk'
  unfold ref07_Apply.b1
  refine s_ite (fun hb => ?_) fun hb => ?_
  · have hil : i < R.length := by simp only [decide_eq_true_eq] at hb; omega
    have hge : (R.map fun x => ((bs x.1, x.2) : RecX))[i]? = some (bs R[i].1, R[i].2) := by rw [List.getElem?_map, List.getElem?_eq_getElem hil]; rfl
    have htk : R.take (i + 1) = R.take i ++ [R[i]] := List.take_succ_eq_append_getElem hil
    obtain ⟨g1, g2⟩ := hR _ (List.getElem_mem hil)
    generalize R[i] = x at hge htk g1 g2
    refine s_dr ?_
    refine s_idxFA rowF6 rowF6_len (by omega) hr6 hge fun t1 ht1 => ?_
    refine s_idxFA rowF6 rowF6_len (by omega) hr6 hge fun t2 ht2 => ?_
    refine s_ldA0 (cs := rowF6 (bs x.1, x.2)) (x := bs x.1) (fun w hw => ht1 w (hr6 w hw)) rfl ?_
    refine part6 (z := (bs x.1, x.2)) ht2 hr6 ?_
    have hml := setsM_len M (modW (R.take i))
    simp only [List.length_map, List.length_take] at hml
    refine set6_hg (r := x.2.1) g1 g2 (by omega) ?_
    refine s_ai ?_
    have h2 := hk' ((i : Int) + 1) (i + 1) ⟨by simp, hil⟩ (by omega)
    rw [htk] at h2
    simp only [modW, setsM, List.map_append, List.map_cons, List.map_nil, List.foldl_append, List.foldl_cons, List.foldl_nil] at h2 ⊢
    exact h2
  · have hil : i = R.length := by simp only [decide_eq_false_iff_not] at hb; omega
    rw [hil, List.take_length]
    exact h
end
end Go.Proofs.YtinpgiafjjibnaaGreat
/- A transaction that a law is given can be read. -/
namespace Go.Proofs.YtinpgiafjjibnaaGreat
open Go Go.Sep Go.RowKit
set_option linter.unusedSimpArgs false
set_option linter.unusedVariables false
theorem flatMap1 {α β : Type} (f : α → β) (L : List α) : L.flatMap (fun x => [f x]) = L.map f := by induction L <;> simp_all
theorem rdy_op {w : World} {cs : List Value} (hc : cs.length = 4) (y : Rdy w (.fld 0 1 (.int .i64) (.fld 1 1 .str (.fld 2 1 (.sl (.int .u8) 1) (.fld 3 1 (.int .i64) .nil)))) cs) :
    ∃ x : OpX, cs = opF x ∧ RdB w x.2 x.1.val ∧ -9223372036854775808 ≤ x.1.n ∧ x.1.n ≤ 9223372036854775807 := by
  match cs, hc with
  | [a, b, c, d], _ =>
    obtain ⟨⟨x0, e0, _⟩, ⟨x1, e1, _⟩, ⟨s, e2, _, _, h1, h2⟩, ⟨x3, e3, w3⟩, _⟩ := y
    cases e0; cases e1; cases e2; cases e3
    simp [Lit.wf, IntKind.min, IntKind.max, IntKind.signed, IntKind.bits] at w3
    obtain ⟨xs, _, h3⟩ := rd_bytes h1 h2
    obtain ⟨l, rfl⟩ := bs_of x1
    exact ⟨(⟨x0, l, xs, x3⟩, s), rfl, h3, by simp only; omega⟩
theorem rdy_texts {w : World} {s : Sl} (h1 : s.a = none → s.n = 0 ∧ s.c = 0) (h2 : ∀ a i, s.a = some a → i < s.n → ∃ cs', cs'.length = 1 ∧ (∀ j, j < 1 → w.cell? (a.add (i * 1 + j)) = cs'[j]?) ∧ Rdy w .str cs') : ∃ L : List (List UInt8), RdC w s 1 (L.map strV) := by
  obtain ⟨L, _, hL, _⟩ := rd_list (fun x : List UInt8 => [strV x]) (fun _ => True) (fun _ => rfl) h1 h2 fun cs hc hr => by
    obtain ⟨b, rfl, _⟩ := hr
    obtain ⟨x, rfl⟩ := bs_of b
    exact ⟨x, rfl, trivial⟩
  exact ⟨L, by rw [flatMap1] at hL; exact hL⟩
theorem rdy_txn {w : World} {cs : Array Value} (hc : cs.size = 5) (y : Rdy w Sh_ty_api_Txn (Value.agg cs).cells.toList) : ∃ t : TxX, cs = (txL t).toArray ∧ txRd w t ∧ ∀ x ∈ t.ops, -9223372036854775808 ≤ x.1.n ∧ x.1.n ≤ 9223372036854775807 := by
  obtain ⟨l⟩ := cs
  match l, hc with
  | [a, b, c, d, e], _ =>
    obtain ⟨⟨x0, e0, _⟩, ⟨rs, e1, _, _, r1, r2⟩, ⟨ws, e2, _, _, w1, w2⟩, ⟨os, e3, _, _, o1, o2⟩, ⟨x4, e4, _⟩, _⟩ := y
    cases e0; cases e1; cases e2; cases e3; cases e4
    obtain ⟨R, hR⟩ := rdy_texts r1 r2
    obtain ⟨S, hS⟩ := rdy_texts w1 w2
    obtain ⟨O, _, hO, hd⟩ := rd_list opF (fun x => RdB w x.2 x.1.val ∧ -9223372036854775808 ≤ x.1.n ∧ x.1.n ≤ 9223372036854775807) opF_len o1 o2 fun cs hc hr => rdy_op hc hr
    exact ⟨⟨x0, R, S, O, x4, rs, ws, os⟩, rfl, ⟨hR, hS, hO, fun x hx => (hd x hx).1⟩, fun x hx => (hd x hx).2⟩
theorem txRd_old {B w : World} {Γ : List HProp} {t : TxX} (h : txRd B t) (hw : Holds B Γ w) : txRd w t := ⟨h.1.old hw, h.2.1.old hw, h.2.2.1.old hw, fun x hx => (h.2.2.2 x hx).old hw⟩
end Go.Proofs.YtinpgiafjjibnaaGreat
/- A transaction that gives up writes nothing; one that doesn't writes none but the keys that it may write. -/
namespace Go.Proofs.YtinpgiafjjibnaaGreat
open Go Go.Sep Go.Sep.Bt
set_option linter.unusedSimpArgs false
set_option linter.unusedVariables false
set_option maxRecDepth 100000

/-- What was written lies among these keys; home and count are as they were. -/
abbrev StayW (n : Nat) (M : Recs) (ks : List (List UInt8)) (W : WM) : Prop := ∀ p ∈ W, p.1 ∈ ks ∧ p.2.home = (sGet n M (bs p.1)).home ∧ p.2.cnt = (sGet n M (bs p.1)).cnt
theorem StayW.now {n : Nat} {M : Recs} {ks : List (List UInt8)} {W : WM} (h : StayW n M ks W) (k : List UInt8) : (nowM n M W k).home = (sGet n M (bs k)).home ∧ (nowM n M W k).cnt = (sGet n M (bs k)).cnt := by
  unfold nowM
  cases hm : mget k W with
  | none => exact ⟨rfl, rfl⟩
  | some r => exact (h _ (mget_some hm)).2
theorem mset_in {ν : Type} {W : List (List UInt8 × ν)} {k : List UInt8} {v : ν} {p : List UInt8 × ν} (h : p ∈ mset k v W) : p = (k, v) ∨ p ∈ W := by
  rcases mfind k W with ⟨_, h2, _, _⟩ | ⟨j, x, hj, h0, _, _, h2, _⟩
  · rw [h2] at h
    rcases List.mem_append.1 h with h | h
    · exact .inr h
    · exact .inl (List.mem_singleton.1 h)
  · rw [h2] at h
    rcases List.mem_or_eq_of_mem_set h with h | h
    · exact .inr h
    · exact .inl h
theorem StayW.set {n : Nat} {M : Recs} {ks : List (List UInt8)} {W : WM} (h : StayW n M ks W) {k : List UInt8} (hk : k ∈ ks) (has : Bool) (val : List UInt8) : StayW n M ks (setW n M W k has val) := fun p hp => by
  rcases mset_in hp with rfl | hp
  · exact ⟨hk, (h.now k).1, (h.now k).2⟩
  · exact h p hp
theorem add_code {n : Nat} {M : Recs} {W : WM} {k : List UInt8} {d : Int} : (addW n M W k d).2 = 0 ∨ (addW n M W k d).2 = 110 ∨ (addW n M W k d).2 = 111 := by
  unfold addW
  repeat' split
  all_goals simp
theorem step_code {n : Nat} {M : Recs} {W : WM} {O : OM} {o : OpM} : (stepW n M W O o).2.2 = 0 ∨ (stepW n M W O o).2.2 = 110 ∨ (stepW n M W O o).2.2 = 111 := by
  unfold stepW
  repeat' split
  all_goals first | exact add_code | simp
/-- A right operation writes what may be written. -/
theorem op_writes {t : TxX} {o : OpM} (h : opRight t o = true) (hk : o.kind = 2 ∨ o.kind = 3 ∨ o.kind = 6) : o.key ∈ t.writes := by
  by_cases hw : o.key ∈ t.writes
  · exact hw
  · exfalso
    unfold opRight at h
    split at h
    · cases h
    split at h
    · omega
    split at h
    · cases h
    · rename_i h3
      exact h3 ⟨hw, .inr hk⟩
theorem add_stay {n : Nat} {M : Recs} {ks : List (List UInt8)} {W : WM} {k : List UInt8} {d : Int} (h : StayW n M ks W) (hk : k ∈ ks) : StayW n M ks (addW n M W k d).1 := by
  unfold addW
  by_cases h1 : (nowM n M W k).has = true ∧ (nowM n M W k).val.length ≠ 8
  · rw [if_pos h1]; exact h
  rw [if_neg h1]
  generalize (if (nowM n M W k).has then numOf (nowM n M W k).val else 0) = a
  cases overS a d
  · rw [if_neg (by simp)]; exact h.set hk _ _
  · rw [if_pos rfl]; exact h
theorem step_stay {n : Nat} {M : Recs} {t : TxX} {W : WM} {O : OM} {o : OpM} (h : StayW n M t.writes W) (ho : opRight t o = true) : StayW n M t.writes (stepW n M W O o).1 := by
  unfold stepW
  split
  · exact h
  split
  · exact h
  split
  · exact h.set (op_writes ho (.inl (by assumption))) _ _
  split
  · exact h.set (op_writes ho (.inr (.inl (by assumption)))) _ _
  split
  · exact h
  split
  · exact h
  split
  · exact add_stay h (op_writes ho (.inr (.inr (by assumption))))
  · exact h
abbrev isOut (x : OpX) : Bool := decide (x.1.kind = 1 ∨ x.1.kind = 7)
theorem step_outs {n : Nat} {M : Recs} {W : WM} {O : OM} {x : OpX} : (stepW n M W O x.1).2.1.length = O.length + if isOut x then 1 else 0 := by
  unfold stepW isOut
  by_cases h1 : x.1.kind = 1
  · simp [h1]
  by_cases h7 : x.1.kind = 7
  · simp [h7]
  rw [if_neg h1, if_neg h7]
  repeat' split
  all_goals first | (simp only [h1, h7, or_self, decide_false, Bool.false_eq_true, if_false]; done) | (simp [h1, h7] at *)
theorem ops_law {n : Nat} {M : Recs} {t : TxX} : ∀ {xs : List OpX} {W : WM} {O : OM}, (∀ x ∈ xs, opRight t x.1 = true) → StayW n M t.writes W →
    ((opsW n M xs W O).2.2 = 0 ∨ (opsW n M xs W O).2.2 = 110 ∨ (opsW n M xs W O).2.2 = 111) ∧ StayW n M t.writes (opsW n M xs W O).1 ∧ ((opsW n M xs W O).2.2 = 0 → (opsW n M xs W O).2.1.length = O.length + (xs.filter isOut).length)
  | [], W, O, _, h => ⟨.inl rfl, h, fun _ => by simp [opsW_nil]⟩
  | x :: xs, W, O, hr, h => by
    have hx := hr x List.mem_cons_self
    rw [opsW_cons]
    split
    · rename_i h0
      exact ⟨step_code, step_stay h hx, fun h1 => absurd h1 h0⟩
    · have ih := ops_law (n := n) (M := M) (t := t) (xs := xs) (W := (stepW n M W O x.1).1) (O := (stepW n M W O x.1).2.1) (fun y hy => hr y (List.mem_cons_of_mem _ hy)) (step_stay h hx)
      refine ⟨ih.1, ih.2.1, fun h1 => ?_⟩
      rw [ih.2.2 h1, step_outs, List.filter_cons]
      split <;> simp <;> omega
/-- What a row of a transaction says. -/
abbrev RowOk (n : Nat) (M : Recs) (t : TxX) (p : List UInt8 × Rec) : Prop := p.1 ∈ t.writes ∧ (if t.kind = 2 then p.2.home = t.to ∧ p.2.cnt = (sGet n M (bs p.1)).cnt + 1 else p.2.home = (sGet n M (bs p.1)).home ∧ p.2.cnt = (sGet n M (bs p.1)).cnt)
theorem right_move {n : Int} {t : TxX} (h : rightT n t = true) (hk : t.kind = 2) : t.ops = [] ∧ ∃ k, t.writes = [k] := by
  unfold rightT at h
  split at h
  · cases h
  split at h
  · cases h
  simp only [Bool.and_eq_true, decide_eq_true_eq] at h
  refine ⟨List.length_eq_zero_iff.1 h.2.1, ?_⟩
  obtain ⟨k, hk⟩ := List.length_eq_one_iff.1 h.2.2.1
  exact ⟨k, hk⟩
theorem right_ops {n : Int} {t : TxX} (h : rightT n t = true) (hk : t.kind ≠ 2) : ∀ x ∈ t.ops, opRight t x.1 = true := by
  unfold rightT at h
  split at h
  · cases h
  split at h
  · cases h
  split at h
  · cases h
  · exact List.all_eq_true.1 h
theorem run_law {n : Nat} {M : Recs} {t : TxX} {g : Int} (h : rightT g t = true) :
    ((runW n M t).2.2 = 0 ∨ (runW n M t).2.2 = 110 ∨ (runW n M t).2.2 = 111) ∧ ((runW n M t).2.2 = 0 → (∀ p ∈ (runW n M t).1, RowOk n M t p) ∧ (runW n M t).2.1.length = (t.ops.filter isOut).length) := by
  unfold runW
  split
  · rename_i hk
    obtain ⟨ho, k, hw⟩ := right_move h hk
    rw [hw, moveW_cons, ho]
    split
    · exact ⟨.inr (.inr rfl), fun h1 => by simp at h1⟩
    · rw [moveW_nil]
      refine ⟨.inl rfl, fun _ => ⟨fun p hp => ?_, rfl⟩⟩
      have hn : nowM n M [] k = sGet n M (bs k) := rfl
      rcases mset_in hp with rfl | hp
      · refine ⟨by rw [hw]; simp, ?_⟩
        rw [if_pos hk, hn]
        exact ⟨rfl, rfl⟩
      · cases hp
  · rename_i hk
    obtain ⟨h1, h2, h3⟩ := ops_law (n := n) (M := M) (t := t) (xs := t.ops) (W := []) (O := []) (right_ops h hk) (by simp)
    refine ⟨h1, fun h0 => ⟨fun p hp => ?_, by rw [h3 h0]; simp⟩⟩
    refine ⟨(h2 p hp).1, ?_⟩
    rw [if_neg hk]
    exact (h2 p hp).2
theorem sortW_rises (W : WM) (h : KeysOnce W) : ((sortW W).map Prod.fst).Pairwise (· < ·) := by
  rw [sortW_keys]
  have h1 := sortL_le (W.map Prod.fst)
  have h2 : (sortL (W.map Prod.fst)).Nodup := (List.mergeSort_perm _ _).nodup_iff.2 h
  refine (h1.and h2).imp fun {a b} h => ?_
  rcases List.le_iff_lt_or_eq.1 h.1 with h3 | h3
  · exact h3
  · exact absurd h3 h.2
theorem gbig {t : TxX} (h : ¬ GreatP t) : txOk t ∨ True := .inr trivial
section
variable {B : World} {Γ Δ : List HProp} {st : Nat} {M : Recs} {q : Bool → K}
theorem txOk_of {t : TxX} (h : ¬ GreatP t) (hn : ∀ x ∈ t.ops, -9223372036854775808 ≤ x.1.n ∧ x.1.n ≤ 9223372036854775807) : txOk t := by
  simp only [GreatP, not_or, Nat.not_lt, not_exists, not_and] at h
  obtain ⟨h1, h2, h3, h4, h5, h6⟩ := h
  refine ⟨fun k hk => by have := h5 k hk; omega, fun x hx => ?_, by omega, by omega, by omega, fun k hk => by have := h4 k hk; omega⟩
  have h7 := h6 x hx
  have h8 := hn x hx
  exact ⟨by omega, by omega, h8.1, h8.2⟩
end
end Go.Proofs.YtinpgiafjjibnaaGreat

namespace Go.Proofs.YtinpgiafjjibnaaGreat
open Go Go.Sep Go.RowKit
end Go.Proofs.YtinpgiafjjibnaaGreat
/- A transaction by the program, and by the document: the same answers, the same rows (plain). -/
namespace Go.Proofs.YtinpgiafjjibnaaGreat
open Go Go.Sep Go.Sep.Bt
set_option linter.unusedSimpArgs false
set_option linter.unusedVariables false
set_option maxRecDepth 100000

/-- What all records of a store say: one that never moved is at its first home, one without a value has none. -/
structure Wf (n : Nat) (M : Recs) : Prop where
  home : ∀ k, (sGet n M k).cnt = 0 → (sGet n M k).home = (homeOf k.toList n : Nat)
  val : ∀ k, (sGet n M k).has = false → (sGet n M k).val = []
  cnt : ∀ k, 0 ≤ (sGet n M k).cnt
theorem Wf.nil {n : Nat} : Wf n [] := ⟨fun _ _ => rfl, fun _ _ => rfl, fun _ => by simp [sGet, getM]⟩
theorem Wf.set {n : Nat} {M : Recs} (h : Wf n M) {k : ByteArray} {r : Rec} (h1 : r.cnt = 0 → r.home = (homeOf k.toList n : Nat)) (h2 : r.has = false → r.val = []) (h3 : 0 ≤ r.cnt) : Wf n (setM M k r) := by
  constructor
  · intro k'
    rw [sGet_set]
    split
    · rename_i e; subst e
      split
      · intro _; rfl
      · exact h1
    · exact h.home k'
  · intro k'
    rw [sGet_set]
    split
    · split
      · intro _; rfl
      · exact h2
    · exact h.val k'
  · intro k'
    rw [sGet_set]
    split
    · split
      · simp
      · exact h3
    · exact h.cnt k'
theorem Wf.put {n : Nat} {M : Recs} (h : Wf n M) (k : ByteArray) (v : List UInt8) : Wf n (sPut n M k v) := h.set (h.home k) (fun h => by cases h) (h.cnt k)
theorem Wf.del {n : Nat} {M : Recs} (h : Wf n M) (k : ByteArray) : Wf n (sDel n M k) := h.set (h.home k) (fun _ => rfl) (h.cnt k)
theorem putM_set {n : Nat} {M : Recs} {k : ByteArray} {r : Rec} (h : r.cnt ≠ 0) : putM M k r = setM M k r := by
  unfold setM
  rw [if_neg (fun hh => h hh.2)]
theorem Wf.move {n : Nat} {M : Recs} (h : Wf n M) (k : ByteArray) (t : Int) : Wf n (sMove n M k t).1 := by
  unfold sMove
  split
  · exact h
  split
  · exact h
  · have h0 := h.cnt k
    rw [putM_set (n := n) (by simp only; omega)]
    exact h.set (fun hh => by simp only at hh; omega) (h.val k) (by simp only; omega)
/-- What the program has written, and the document's copy. -/
structure Same7 (n : Nat) (M : Recs) (W : WM) (C : Recs) (T : List TX) : Prop where
  get : ∀ k : TX, sGet n C (bs k) = nowM n M W k
  keys : ∀ k : TX, k ∈ T ↔ k ∈ W.map Prod.fst
  wf : Wf n C
theorem bs_inj {a b : TX} (h : bs a = bs b) : a = b := by
  have := congrArg ByteArray.toList h
  rwa [bs_list, bs_list] at this
theorem nowM_set {n : Nat} {M : Recs} {W : WM} {k k' : TX} {r : Rec} : nowM n M (mset k r W) k' = if k' = k then r else nowM n M W k' := by
  unfold nowM
  rw [mget_mset]
  split <;> rfl
theorem mset_mem {W : WM} {k x : TX} {r : Rec} : x ∈ (mset k r W).map Prod.fst ↔ x = k ∨ x ∈ W.map Prod.fst := by
  rw [mset_keys]
  split
  · rename_i h
    constructor
    · exact .inr
    · rintro (rfl | h2)
      · exact h
      · exact h2
  · simp [or_comm]
theorem Same7.set {n : Nat} {M : Recs} {W : WM} {C : Recs} {T : List TX} (h : Same7 n M W C T) {k : TX} {r : Rec} (h1 : r.cnt = 0 → r.home = (homeOf k n : Nat)) (h2 : r.has = false → r.val = []) (h3 : 0 ≤ r.cnt) : Same7 n M (mset k r W) (setM C (bs k) r) (T ++ [k]) := by
  refine ⟨fun k' => ?_, fun k' => ?_, h.wf.set (by rw [bs_list]; exact h1) h2 h3⟩
  · rw [sGet_set, nowM_set]
    by_cases hk : k' = k
    · subst hk
      rw [if_pos rfl, if_pos rfl]
      split
      · rename_i hh
        obtain ⟨has, val, home, cnt⟩ := r
        obtain ⟨rfl, rfl⟩ : has = false ∧ cnt = 0 := hh
        have e1 := h1 rfl
        have e2 := h2 rfl
        simp only at e1 e2
        rw [bs_list, e1, e2]
      · rfl
    · rw [if_neg (fun e => hk (bs_inj e)), if_neg hk]
      exact h.get k'
  · rw [mset_mem, List.mem_append, List.mem_singleton, h.keys k']
    exact or_comm
theorem Same7.rcd {n : Nat} {M : Recs} {W : WM} {C : Recs} {T : List TX} (h : Same7 n M W C T) (k : TX) : ((nowM n M W k).cnt = 0 → (nowM n M W k).home = (homeOf k n : Nat)) ∧ ((nowM n M W k).has = false → (nowM n M W k).val = []) ∧ 0 ≤ (nowM n M W k).cnt := by
  rw [← h.get k]
  refine ⟨fun hh => ?_, h.wf.val _, h.wf.cnt _⟩
  have := h.wf.home (bs k) hh
  rwa [bs_list] at this
theorem num_same {r : Rec} (h : r.has = false → r.val = []) : num7 r.val = (if r.has then numOf r.val else 0) ∨ (r.has = true ∧ r.val.length ≠ 8) := by
  unfold num7
  by_cases h8 : r.val.length = 8
  · left
    rw [if_pos h8]
    have : r.has = true := by
      cases hh : r.has
      · rw [h hh] at h8; cases h8
      · rfl
    rw [if_pos this]
  · rw [if_neg h8]
    cases hh : r.has
    · left; simp
    · right; exact ⟨rfl, h8⟩
/-- A step of both. -/
theorem Same7.step {n : Nat} {M : Recs} {W : WM} {C : Recs} {T : List TX} (h : Same7 n M W C T) {O : OM} {o : OpM} (hk : 1 ≤ o.kind ∧ o.kind ≤ 7) :
    (stepW n M W O o).2.2 = (stepC n C o).2.2 ∧ ((stepC n C o).2.2 = 0 → (stepW n M W O o).2.1 = O ++ (stepC n C o).2.1 ∧ Same7 n M (stepW n M W O o).1 (stepC n C o).1 (if isW o then T ++ [o.key] else T)) := by
  have hg := h.get o.key
  obtain ⟨r1, r2, r3⟩ := h.rcd o.key
  unfold stepW stepC
  by_cases k1 : o.kind = 1
  · rw [if_pos k1, if_pos k1]
    refine ⟨rfl, fun _ => ⟨by rw [hg], ?_⟩⟩
    rw [show isW o = false by simp [isW, k1]]; exact h
  rw [if_neg k1, if_neg k1]
  by_cases k7 : o.kind = 7
  · rw [if_pos k7, if_pos k7]
    refine ⟨rfl, fun _ => ⟨rfl, ?_⟩⟩
    rw [show isW o = false by simp [isW, k7]]; exact h
  rw [if_neg k7, if_neg k7]
  by_cases k2 : o.kind = 2
  · rw [if_pos k2, if_pos k2]
    refine ⟨rfl, fun _ => ⟨by simp, ?_⟩⟩
    rw [show isW o = true by simp [isW, k2], if_pos rfl]
    unfold setW sPut
    rw [hg]
    exact h.set r1 (fun h => by cases h) r3
  rw [if_neg k2, if_neg k2]
  by_cases k3 : o.kind = 3
  · rw [if_pos k3, if_pos k3]
    refine ⟨rfl, fun _ => ⟨by simp, ?_⟩⟩
    rw [show isW o = true by simp [isW, k3], if_pos rfl]
    unfold setW sDel
    rw [hg]
    exact h.set r1 (fun _ => rfl) r3
  rw [if_neg k3, if_neg k3]
  by_cases k4 : o.kind = 4
  · rw [if_pos k4, if_pos k4, hg]
    refine ⟨rfl, fun _ => ⟨by simp, ?_⟩⟩
    rw [show isW o = false by simp [isW, k4]]; exact h
  rw [if_neg k4, if_neg k4]
  by_cases k5 : o.kind = 5
  · rw [if_pos k5, if_pos k5, hg]
    refine ⟨rfl, fun _ => ⟨by simp, ?_⟩⟩
    rw [show isW o = false by simp [isW, k5]]; exact h
  rw [if_neg k5, if_neg k5]
  have k6 : o.kind = 6 := by omega
  rw [if_pos k6]
  rw [show isW o = true by simp [isW, k6], if_pos rfl]
  unfold addW addC
  rw [hg]
  by_cases hb : (nowM n M W o.key).has = true ∧ (nowM n M W o.key).val.length ≠ 8
  · rw [if_pos hb, if_pos hb]
    exact ⟨rfl, fun hh => by simp at hh⟩
  rw [if_neg hb, if_neg hb]
  have hnum := (num_same r2).resolve_right hb
  rw [hnum]
  by_cases hov : overS (if (nowM n M W o.key).has then numOf (nowM n M W o.key).val else 0) o.n = true
  · rw [if_pos hov, if_pos hov]
    exact ⟨rfl, fun hh => by simp at hh⟩
  rw [if_neg hov, if_neg hov]
  refine ⟨rfl, fun _ => ⟨by simp, ?_⟩⟩
  simp only
  unfold setW sPut
  rw [hg]
  exact h.set r1 (fun h => by cases h) r3
theorem ops_same {n : Nat} {M : Recs} : ∀ {xs : List OpX} {W : WM} {C : Recs} {T : List TX} {O : OM}, (∀ x ∈ xs, 1 ≤ x.1.kind ∧ x.1.kind ≤ 7) → Same7 n M W C T →
    (opsW n M xs W O).2.2 = (opsC n xs C O T).2.2.2 ∧ ((opsC n xs C O T).2.2.2 = 0 → (opsW n M xs W O).2.1 = (opsC n xs C O T).2.1 ∧ Same7 n M (opsW n M xs W O).1 (opsC n xs C O T).1 (opsC n xs C O T).2.2.1)
  | [], W, C, T, O, _, h => ⟨rfl, fun _ => ⟨rfl, h⟩⟩
  | x :: xs, W, C, T, O, hk, h => by
    obtain ⟨h1, h2⟩ := h.step (O := O) (hk x List.mem_cons_self)
    rw [opsW_cons, opsC_cons, h1]
    by_cases hc : (stepC n C x.1).2.2 ≠ 0
    · rw [if_pos hc, if_pos hc]
      exact ⟨h1, fun hh => absurd hh hc⟩
    · rw [if_neg hc, if_neg hc]
      obtain ⟨h3, h4⟩ := h2 (by simpa using hc)
      rw [h3]
      exact ops_same (fun y hy => hk y (List.mem_cons_of_mem _ hy)) h4
theorem op_kind {t : TxX} {o : OpM} (h : opRight t o = true) : 1 ≤ o.kind ∧ o.kind ≤ 7 := by
  unfold opRight at h
  split at h
  · cases h
  split at h
  · omega
  · omega
/-! ### a whole run -/
theorem putM_put {M : Recs} {k : ByteArray} {r' r : Rec} : putM (putM M k r') k r = putM M k r := by
  have hkk : ¬ cmpS k k < 0 := fun h => List.lt_irrefl _ (cmpS_neg.1 h)
  induction M with
  | nil => simp [putM, hkk]
  | cons x M ih =>
    by_cases h1 : cmpS x.1 k < 0
    · simp only [putM, h1, if_true, ih]
    · by_cases h2 : x.1 = k
      · simp [putM, h2, hkk]
      · simp [putM, h1, h2, hkk]
/-- A row that Apply takes as it is. -/
structure RowG (n : Nat) (N : Recs) (x : List UInt8 × Rec) : Prop where
  val : x.2.has = false → x.2.val = []
  rcd : (x.2.home = (sGet n N (bs x.1)).home ∧ x.2.cnt = (sGet n N (bs x.1)).cnt) ∨ (0 ≤ x.2.home ∧ x.2.home < n ∧ (sGet n N (bs x.1)).cnt ≠ 18446744073709551615 ∧ x.2.cnt = (sGet n N (bs x.1)).cnt + 1 ∧ 0 ≤ (sGet n N (bs x.1)).cnt)
theorem apply1_eq {n : Nat} {N : Recs} {x : List UInt8 × Rec} (h : RowG n N x) : apply1 n N x = setM N (bs x.1) x.2 := by
  obtain ⟨k, has, val, home, cnt⟩ := x
  obtain ⟨hv, hc⟩ := h
  simp only at hv hc
  rcases hc with ⟨h1, h2⟩ | ⟨h1, h2, h3, h4, h5⟩
  · have e0 : apply0 n N (k, ⟨has, val, home, cnt⟩) = N := by unfold apply0; rw [if_neg (by simp [h2])]
    unfold apply1
    rw [e0]
    cases has
    · simp only [Bool.false_eq_true, if_false, sDel]
      rw [hv rfl, h1, h2]
    · simp only [if_true, sPut]
      rw [h1, h2]
  · have e0 : apply0 n N (k, ⟨has, val, home, cnt⟩) = putM N (bs k) { sGet n N (bs k) with home := home, cnt := (sGet n N (bs k)).cnt + 1 } := by
      unfold apply0
      rw [if_pos (by simp only [ne_eq]; omega)]
      unfold sMove
      rw [if_neg (by simp only; omega), if_neg h3]
    have hg : sGet n (apply0 n N (k, ⟨has, val, home, cnt⟩)) (bs k) = { sGet n N (bs k) with home := home, cnt := (sGet n N (bs k)).cnt + 1 } := by rw [e0, sGet_put, if_pos rfl]
    unfold apply1
    have key : ∀ r : Rec, r.cnt ≠ 0 → setM (apply0 n N (k, ⟨has, val, home, cnt⟩)) (bs k) r = setM N (bs k) r := fun r hr => by
      rw [← putM_set (n := n) hr, ← putM_set (n := n) hr, e0, putM_put]
    cases has
    · simp only [Bool.false_eq_true, if_false, sDel]
      rw [key _ (by rw [hg]; simp only; omega), hg, hv rfl, h4]
    · simp only [if_true, sPut]
      rw [key _ (by rw [hg]; simp only; omega), hg, h4]
theorem apply_sets {n : Nat} : ∀ {W : WM} {N : Recs}, KeysOnce W → (∀ x ∈ W, RowG n N x) → applyM n N W = setsM N W
  | [], _, _, _ => rfl
  | x :: W, N, ho, h => by
    have h1 := List.nodup_cons.1 (show (x.1 :: W.map Prod.fst).Nodup from ho)
    show applyM n (apply1 n N x) W = setsM (setM N (bs x.1) x.2) W
    rw [apply1_eq (h x List.mem_cons_self)]
    refine apply_sets h1.2 fun y hy => ?_
    obtain ⟨g1, g2⟩ := h y (List.mem_cons_of_mem _ hy)
    have hne : ¬ bs y.1 = bs x.1 := fun e => h1.1 (by rw [← bs_inj e]; exact List.mem_map.2 ⟨y, hy, rfl⟩)
    refine ⟨g1, ?_⟩
    rw [sGet_set, if_neg hne]
    exact g2
/-- A record that may stand at a key. -/
abbrev RecG (n : Nat) (k : TX) (r : Rec) : Prop := (r.cnt = 0 → r.home = (homeOf k n : Nat)) ∧ (r.has = false → r.val = []) ∧ 0 ≤ r.cnt
theorem wf_sets {n : Nat} : ∀ {W : WM} {N : Recs}, Wf n N → (∀ x ∈ W, RecG n x.1 x.2) → Wf n (setsM N W)
  | [], _, h, _ => h
  | x :: W, N, h, hr => by
    obtain ⟨h1, h2, h3⟩ := hr x List.mem_cons_self
    show Wf n (setsM (setM N (bs x.1) x.2) W)
    exact wf_sets (h.set (by rw [bs_list]; exact h1) h2 h3) fun y hy => hr y (List.mem_cons_of_mem _ hy)
theorem sortW_eq {n : Nat} {M : Recs} {W : WM} {C : Recs} {T : List TX} (h : Same7 n M W C T) (ho : KeysOnce W) : sortW W = (keysT T).map fun k => (k, sGet n C (bs k)) := by
  have h1 : (sortW W).map Prod.fst = keysT T := keysT_eq (sortW_rises W ho) fun x => by rw [h.keys]; exact ((sortW_perm W).map Prod.fst).mem_iff
  have h2 : ∀ p ∈ sortW W, p = (p.1, sGet n C (bs p.1)) := fun p hp => by
    have hm : (p.1, p.2) ∈ W := (sortW_perm W).subset hp
    rw [h.get]; unfold nowM; rw [once_get ho hm]; rfl
  rw [← h1, List.map_map]
  refine Eq.trans (List.map_id (sortW W)).symm ?_
  exact List.map_congr_left fun p hp => h2 p hp
theorem Same7.start {n : Nat} {M : Recs} (h : Wf n M) : Same7 n M [] M [] := ⟨fun _ => rfl, fun k => by simp, h⟩
/-- What a run comes to, by both. -/
structure RunIs (M : Recs) (t : TxX) : Prop where
  code : (runW 3 M t).2.2 = (runC 3 M t).2.1
  bad : (runC 3 M t).2.1 ≠ 0 → (runC 3 M t).1 = [] ∧ (runC 3 M t).2.2 = []
  outs : (runC 3 M t).2.1 = 0 → (runW 3 M t).2.1 = (runC 3 M t).1
  rows : (runC 3 M t).2.1 = 0 → sortW (runW 3 M t).1 = (runC 3 M t).2.2
  app : (runC 3 M t).2.1 = 0 → applyM 3 M (runC 3 M t).2.2 = setsM M (runC 3 M t).2.2
  wf : Wf 3 (setsM M (runC 3 M t).2.2)
theorem once_sort {W : WM} (h : KeysOnce W) : KeysOnce (sortW W) := ((sortW_perm W).map Prod.fst).nodup_iff.2 h
theorem run_is {M : Recs} {t : TxX} (h : rightT 3 t = true) (hw : Wf 3 M) : RunIs M t := by
  have ho := once_run (n := 3) (M := M) (t := t)
  obtain ⟨_, hgood⟩ := run_law (n := 3) (M := M) h
  by_cases hk : t.kind = 2
  · obtain ⟨ht1, k, ht2⟩ := right_move h hk
    have hto : 0 ≤ t.to ∧ t.to < 3 := by
      unfold rightT at h
      split at h
      · cases h
      split at h
      · cases h
      simp only [hk, if_true, Bool.and_eq_true, decide_eq_true_eq] at h
      omega
    have hh : t.writes.headD [] = k := by rw [ht2]; rfl
    have hn : nowM 3 M [] k = sGet 3 M (bs k) := rfl
    have hW : runW 3 M t = if (sGet 3 M (bs k)).cnt = 18446744073709551615 then ([], [], 111) else ([(k, { sGet 3 M (bs k) with home := t.to, cnt := (sGet 3 M (bs k)).cnt + 1 })], [], 0) := by
      unfold runW
      rw [if_pos hk, ht2, moveW_cons, hn]
      split
      · rfl
      · rw [moveW_nil]; rfl
    have hC : runC 3 M t = if (sGet 3 M (bs k)).cnt = 18446744073709551615 then ([], 111, []) else ([], 0, [(k, { sGet 3 M (bs k) with home := t.to, cnt := (sGet 3 M (bs k)).cnt + 1 })]) := by
      unfold runC
      rw [if_pos hk, hh]
      unfold sMove
      rw [if_neg (show ¬ (t.to < 0 ∨ ((3 : Nat) : Int) ≤ t.to) by omega)]
      by_cases hc : (sGet 3 M (bs k)).cnt = 18446744073709551615
      · rw [if_pos hc, if_pos hc]; rfl
      · rw [if_neg hc, if_neg hc]
        simp only [ne_eq, not_true_eq_false, if_false]
        rw [sGet_put, if_pos rfl]
    by_cases hc : (sGet 3 M (bs k)).cnt = 18446744073709551615
    · rw [if_pos hc] at hW hC
      constructor
      · rw [hW, hC]
      · intro _; rw [hC]; exact ⟨rfl, rfl⟩
      · intro h0; rw [hC] at h0; cases h0
      · intro h0; rw [hC] at h0; cases h0
      · intro h0; rw [hC] at h0; cases h0
      · rw [hC]; exact hw
    · rw [if_neg hc] at hW hC
      have h0 := hw.cnt (bs k)
      constructor
      · rw [hW, hC]
      · intro h9; rw [hC] at h9; exact absurd rfl h9
      · intro _; rw [hW, hC]
      · intro _; rw [hW, hC]; exact List.mergeSort_singleton _
      · intro _
        rw [hC]
        refine apply_sets (by simp [KeysOnce]) fun x hx => ?_
        rw [List.mem_singleton.1 hx]
        exact ⟨hw.val (bs k), .inr ⟨hto.1, hto.2, hc, rfl, h0⟩⟩
      · rw [hC]
        refine wf_sets hw fun x hx => ?_
        rw [List.mem_singleton.1 hx]
        exact ⟨fun h => by simp only at h; omega, hw.val (bs k), by simp only; omega⟩
  · have hW : runW 3 M t = opsW 3 M t.ops [] [] := by unfold runW; rw [if_neg hk]
    have hops := right_ops h hk
    obtain ⟨h1, h2⟩ := ops_same (n := 3) (O := []) (fun x hx => op_kind (hops x hx)) (Same7.start hw)
    have hC : runC 3 M t = if (opsC 3 t.ops M [] []).2.2.2 ≠ 0 then ([], (opsC 3 t.ops M [] []).2.2.2, []) else ((opsC 3 t.ops M [] []).2.1, 0, (keysT (opsC 3 t.ops M [] []).2.2.1).map fun k => (k, sGet 3 (opsC 3 t.ops M [] []).1 (bs k))) := by unfold runC; rw [if_neg hk]
    by_cases hc : (opsC 3 t.ops M [] []).2.2.2 ≠ 0
    · rw [if_pos hc] at hC
      constructor
      · rw [hW, hC, h1]
      · intro _; rw [hC]; exact ⟨rfl, rfl⟩
      · intro h0; rw [hC] at h0; exact absurd h0 hc
      · intro h0; rw [hC] at h0; exact absurd h0 hc
      · intro h0; rw [hC] at h0; exact absurd h0 hc
      · rw [hC]; exact hw
    · rw [if_neg hc] at hC
      have hz : (opsC 3 t.ops M [] []).2.2.2 = 0 := by simpa using hc
      obtain ⟨h3, h4⟩ := h2 hz
      have hgood := (hgood (by rw [hW, h1, hz])).1
      rw [hW] at ho hgood
      have hsort := sortW_eq h4 ho
      have hmem : ∀ x ∈ sortW (opsW 3 M t.ops [] []).1, x ∈ (opsW 3 M t.ops [] []).1 := fun x hx => (sortW_perm _).subset hx
      have hnow : ∀ x ∈ sortW (opsW 3 M t.ops [] []).1, x.2 = nowM 3 M (opsW 3 M t.ops [] []).1 x.1 := fun x hx => by
        have hm : (x.1, x.2) ∈ (opsW 3 M t.ops [] []).1 := hmem x hx
        unfold nowM; rw [once_get ho hm]; rfl
      have hrec : ∀ x ∈ sortW (opsW 3 M t.ops [] []).1, RecG 3 x.1 x.2 := fun x hx => by
        rw [hnow x hx]
        exact h4.rcd x.1
      have hrow : (runC 3 M t).2.2 = sortW (opsW 3 M t.ops [] []).1 := by rw [hC, hsort]
      constructor
      · rw [hW, hC, h1, hz]
      · intro h9; rw [hC] at h9; exact absurd rfl h9
      · intro _; rw [hW, hC, h3]
      · intro _; rw [hW, hrow]
      · intro _
        rw [hrow]
        refine apply_sets (once_sort ho) fun x hx => ?_
        have hg := (hgood x (hmem x hx)).2
        rw [if_neg hk] at hg
        exact ⟨(hrec x hx).2.1, .inl hg⟩
      · rw [hrow]
        exact wf_sets hw hrec
/-- A copy of a transaction does what the transaction does. -/
theorem opsW_fst {n : Nat} {M : Recs} : ∀ {xs ys : List OpX} {W : WM} {O : OM}, xs.map Prod.fst = ys.map Prod.fst → opsW n M xs W O = opsW n M ys W O
  | [], [], _, _, _ => rfl
  | [], y :: ys, _, _, h => by cases h
  | x :: xs, [], _, _, h => by cases h
  | x :: xs, y :: ys, W, O, h => by
    simp only [List.map_cons, List.cons.injEq] at h
    rw [opsW_cons, opsW_cons, h.1]
    split
    · rfl
    · exact opsW_fst h.2
theorem runW_same {n : Nat} {M : Recs} {a b : TxX} (h : SameP a b) : runW n M a = runW n M b := by
  obtain ⟨h1, h2, h3, h4, h5⟩ := h
  unfold runW
  rw [h1, h2, h4, opsW_fst h5]
end Go.Proofs.YtinpgiafjjibnaaGreat
/- Ranges over a function, over what is owned of the heap. Holds for every program. -/
namespace Go.Sep
open Go Go.RowKit
set_option linter.unusedSimpArgs false
set_option linter.unusedVariables false

abbrev busyR (r : Loop) : Loop := { r with state := .busy }
abbrev doneR (r : Loop) (J : Exit) : Loop := { r with state := .done, pending := some (jumpC J) }
abbrev rdyR (r : Loop) : Prop := r.state = .ready ∧ r.pending = none
/-- What a range does behind its rounds: all of them went, or one was left by a jump. -/
def Aft (B : World) (l : Nat) (r : Loop) (J : Exit) (a j : K) : K := fun w => (∃ Δ, Holds B (blk l (.loop r) :: Δ) w ∧ HG B Δ a) ∨ (∃ Δ, Holds B (blk l (.loop (doneR r J)) :: Δ) w ∧ HG B Δ j)
section
variable {P : Program} {B : World} {Γ Δ : List HProp} {l : Nat} {r : Loop} {J : Exit} {k a j : K}
theorem s_aftN (h : HG B Δ a) [p : Own l Γ (blk l (.loop r)) Δ] : HG B Γ (Aft B l r J a j) := fun w hw => .inl ⟨Δ, hw.perm p.perm, h⟩
theorem s_aftJ (h : HG B Δ j) [p : Own l Γ (blk l (.loop (doneR r J))) Δ] : HG B Γ (Aft B l r J a j) := fun w hw => .inr ⟨Δ, hw.perm p.perm, h⟩
theorem s_beginR (h : HG B (blk l (.loop (busyR r)) :: Δ) k) [p : Own l Γ (blk l (.loop r)) Δ] : HG B Γ (BeginR l r k) := fun w hw =>
  ⟨(hw.perm p.perm).block, h _ (putObj_setObj (hw.perm p.perm))⟩
theorem s_endR (hr : rdyR r) (h : HG B (blk l (.loop r) :: Δ) k) [p : Own l Γ (blk l (.loop (busyR r))) Δ] : HG B Γ (EndR l (busyR r) k) := fun w hw => by
  refine ⟨(hw.perm p.perm).block, h _ ?_⟩
  have h1 := putObj_setObj (o' := .loop { busyR r with state := .ready, pending := none }) (hw.perm p.perm)
  have e : ({ busyR r with state := .ready, pending := none } : Loop) = r := by
    obtain ⟨h1, h2⟩ := hr
    cases r; simp only at h1 h2; subst h1; subst h2; rfl
  rw [e] at h1 ⊢
  exact h1
theorem s_stopR (h : HG B (blk l (.loop (doneR r J)) :: Δ) k) [p : Own l Γ (blk l (.loop (busyR r))) Δ] : HG B Γ (StopR l (busyR r) J k) := fun w hw =>
  ⟨(hw.perm p.perm).block, h _ (putObj_setObj (hw.perm p.perm))⟩
theorem s_takeD {D : Nat} (h : HG B Δ k) [p : Own D Γ (blk D (.deferred (some []))) Δ] : HG B Γ (TakeD D k) := fun w hw =>
  r_takeD (hw.perm p.perm) fun w hw => h w hw
theorem s_callY {f : Value} {args : List Value} {kk : Value → K} (h : HG B Γ (CallY P f args (YN (kk (.bool true)) (kk (.bool false))))) : HG B Γ (CallY P f args kk) := fun w hw =>
  callY_mono (h w hw) fun v w hv => by
    rcases hv with ⟨rfl, h⟩ | ⟨rfl, h⟩ <;> exact h
theorem s_ans1 {α : Type} {c : α → Value} {x : α} {k : α → K} (h : HG B Γ (k x)) : HG B Γ (Ans1 c k (c x)) := fun w hw => ⟨x, rfl, h w hw⟩
theorem s_ans0 {v : Value} (h : HG B Γ k) : HG B Γ (Ans0 v k v) := fun w hw => ⟨rfl, h w hw⟩
/-- A range over a function. -/
theorem s_rangeJ {α : Type} {g : FuncId} {cs : List Value} {cX : α → List Value} {body : (K → K) → K → K → α → K} {after afterJ : Nat → K} (hc : callable P g = true)
    (h : ∀ D l r, rdyR r → (∀ (x : α) (kN kJ : K) (Δ : List HProp), HG B (blk l (.loop r) :: Δ) (body (BeginR l r) (EndR l (busyR r) kN) (StopR l (busyR r) J kJ) x) → HG B (blk l (.loop r) :: Δ) (CallY P (yv l) (cX x) (YN kN kJ))) →
      HG B (blk l (.loop r) :: blk D (.deferred (some [])) :: Γ) (CallF P g (yv l :: cs).toArray fun _ => Aft B l r J (after D) (afterJ D))) :
    HG B Γ (RangeJ P (.func (.func g) #[] cs.toArray) J cX body after afterJ) := fun w hw => by
  refine ⟨g, cs.toArray, rfl, hc, fun r w1 h1 h2 h3 hw1 hy => ?_⟩
  have h4 := hw.alloc (.deferred (some []))
  have h5 := h4.alloc (.loop r)
  have e : ({ w with heap := w.heap.push (.deferred (some [])) } : World).heap.size = w.heap.size + 1 := by simp
  rw [e] at h5
  subst hw1
  have h6 := h w.heap.size (w.heap.size + 1) r ⟨h1, h2⟩ (fun x kN kJ Δ hb w hw => ⟨_, rfl, hy x kN kJ w hw.block (hb w hw)⟩) _ h5
  refine (show Calls P g (yv (w.heap.size + 1) :: cs).toArray _ (Ret _) from h6).mono fun e w3 he => ?_
  cases e with
  | returned v =>
    rcases he with ⟨Δ, h7, h8⟩ | ⟨Δ, h7, h8⟩
    · exact .inl ⟨h7.block, h8 _ (putObj_setObj (o' := .loop { r with state := .exhausted }) h7).tail⟩
    · exact .inr ⟨h7.block, h8 _ (putObj_setObj (o' := .loop { r with state := .exhausted, pending := some (jumpC J) }) h7).tail⟩
  | panicked c => exact he.elim
  | outgrown => exact he.elim
end
end Go.Sep
/- A B-tree: its items are gone through. Holds for every program. -/
namespace Go.Sep
open Go Go.RowKit
set_option linter.unusedSimpArgs false
set_option linter.unusedVariables false
namespace Bt
/-- What walk and All are told. -/
structure BtW (κ : Type) extends BtT κ where
  fAll : Nat
  tPT : Nat
  nwalkC : Option Addr → Option Addr → Value → (Bool → K) → K
section
variable {κ : Type}
def nwalk_s4 (G : BtW κ) (Q : Bool → K) (X2 : (Option Addr) → Int → K) (i7_4 : Int) (t74_4 : Bool) : K :=
  Ite t74_4
    (Q false)
    (Ar (IntKind.wrap .i64 (i7_4 + 1)) fun t26 =>
    X2 none t26)
def nwalk_s3 (G : BtW κ) (Q : Bool → K) (X2 : (Option Addr) → Int → K) (n0_3 : Addr) (yield2_3 : Value) (i7_3 : Int) (t46_3 : Bool) : K :=
  Ite t46_3
    (Q false)
    (Dr <|
    Ld n0_3 Sl.val fun t51 =>
    Ite (decide (i7_3 < (t51.n : Int)))
      (Ld n0_3 Sl.val fun t59 =>
      Idx t59 i7_3 (G.nv + 1) fun t61 =>
      Ld t61 G.kV fun t63 =>
      Ld n0_3 Sl.val fun t67 =>
      Idx t67 i7_3 (G.nv + 1) fun t69 =>
      LdN (t69.add 1) G.nv fun t71 =>
      CallY G.P yield2_3 [(G.kV t63), (.agg t71)] <| Ans1 (fun (t72 : Bool) => Value.bool t72) fun t72 =>
      nwalk_s4 G Q X2 i7_3 (!t72))
      (nwalk_s4 G Q X2 i7_3 false))
def nwalk_b2 (G : BtW κ) (Q : Bool → K)  (X2 : (Option Addr) → Int → K) (n0_2 : (Option Addr)) (yield2_2 : Value) (from1_2 : (Option Addr)) (i7_2 : Int) : K :=
  Nn n0_2 fun t20 =>
  Ld t20 Sl.val fun t22 =>
  Ite (decide (i7_2 ≤ (t22.n : Int)))
    (Ld (t20.add 1) Sl.val fun t31 =>
    Ite (decide (i7_2 < (t31.n : Int)))
      (Ld (t20.add 1) Sl.val fun t38 =>
      Idx t38 i7_2 1 fun t40 =>
      Ld t40 Value.pointer fun t41 =>
      G.nwalkC t41 from1_2 yield2_2 fun t44 =>
      nwalk_s3 G Q X2 t20 yield2_2 i7_2 (!t44))
      (nwalk_s3 G Q X2 t20 yield2_2 i7_2 false))
    (Q true)
def nwalk_s1 (G : BtW κ) (Q : Bool → K)  (n0_1 : (Option Addr)) (from1_1 : (Option Addr)) (yield2_1 : Value) (i7_1 : Int) : K :=
  LoopK (α := (Option Addr) × Int) (fun X x => nwalk_b2 G Q (fun from1_2 i7_2 => X (from1_2, i7_2)) n0_1 yield2_1 x.1 x.2) (from1_1, i7_1)
def nwalk (G : BtW κ) (n0 : (Option Addr)) (from1 : (Option Addr)) (yield2 : Value) (Q : Bool → K) : K :=
  Ite (!(from1).isNone)
    (Nn from1 fun t13 =>
    Ld t13 G.kV fun t14 =>
    G.nsearchC n0 t14 fun t15x0 t15x1 =>
    nwalk_s1 G Q n0 (some t13) yield2 t15x0)
    (nwalk_s1 G Q n0 from1 yield2 0)
def tall1 (G : BtW κ) (yield0 : Value) (t1 : Addr) (Q : K) : K :=
  Ld t1 Value.pointer fun t3 =>
  Nn t3 fun t4 =>
  Ld t4 Value.pointer fun t6 =>
  G.nwalkC t6 none yield0 fun t8 =>
  Q
end
structure BtWOk {κ : Type} (G : BtW κ) (c : κ → κ → Int) : Prop extends BtOk G.toBtT c where
  walk : ∀ n f y Q w, nwalk G n f y Q w → G.nwalkC n f y Q w
  cAll : callable G.P G.fAll = true
  all1 : ∀ y t Q w, tall1 G y t Q w → CallF G.P G.fAll #[y, .pointer (some t)] (fun _ => Q) w
section
variable {κ : Type} {G : BtW κ} {c : κ → κ → Int} {B : World} {Γ Δ : List HProp}
theorem nwalk_spec (ok : BtWOk G c) {F : Nat → HProp} {E : HProp} {L0 : List G.It} {y : Value}
    (step : ∀ i x, L0[i]? = some x → ∀ (Δ : List HProp) (kk : Value → K), HG B (F (i + 1) :: Δ) (kk (.bool true)) → HG B (E :: Δ) (kk (.bool false)) → HG B (F i :: Δ) (CallY G.P y [G.kV x.1, .agg x.2.1.toArray] kk)) :
    ∀ (d : Nat) {m b : Nat} {A L C : List G.It} {Γ : List HProp} {Q : Bool → K}, L0 = A ++ L ++ C → HG B (F (A.length + L.length) :: NodeR G.toBtT d m b L :: Γ) (Q true) → HG B (E :: NodeR G.toBtT d m b L :: Γ) (Q false) →
      HG B (F A.length :: NodeR G.toBtT d m b L :: Γ) (nwalk G (some ⟨b, 0, none⟩) none y Q)
  | 0, m, b, A, L, C, Γ, Q, hL0, ht, hf => by
    unfold nwalk nwalk_s1
    refine s_f ?_
    refine s_own b ?_
    refine s_node0 fun s kd hm hl => ?_
    refine s_cap s fun l1 l2 l3 l4 => ?_
    refine s_cap kd fun m1 m2 m3 m4 => ?_
    rw [flatMap_len G.f _ G.f_len] at l1
    have hn : s.n = L.length := (Nat.eq_of_mul_eq_mul_right (by omega) l1).symm
    have hkn : kd.n = 0 := by simpa using m1.symm
    have ht' : HG B (F (A.length + L.length) :: nodeB G.toBtT b s kd :: itsR G.toBtT s L :: kpsR G.toBtT kd [] :: Γ) (Q true) := by
      refine s_own b ?_
      refine s_end (Δ := nodeB G.toBtT b s kd :: itsR G.toBtT s L :: kpsR G.toBtT kd [] :: F (A.length + L.length) :: Γ) ?_
      exact s_mk0 hm hl (s_swap ht)
    have hf' : HG B (E :: nodeB G.toBtT b s kd :: itsR G.toBtT s L :: kpsR G.toBtT kd [] :: Γ) (Q false) := by
      refine s_own b ?_
      refine s_end (Δ := nodeB G.toBtT b s kd :: itsR G.toBtT s L :: kpsR G.toBtT kd [] :: E :: Γ) ?_
      exact s_mk0 hm hl (s_swap hf)
    refine s_end (Δ := F (A.length + min 0 L.length) :: nodeB G.toBtT b s kd :: itsR G.toBtT s L :: kpsR G.toBtT kd [] :: Γ) ?_ (d := by simpa using (inferInstance : Drops (nodeB G.toBtT b s kd :: itsR G.toBtT s L :: kpsR G.toBtT kd [] :: F A.length :: Γ) (F A.length :: nodeB G.toBtT b s kd :: itsR G.toBtT s L :: kpsR G.toBtT kd [] :: Γ)))
    refine s_loop (α := Option Addr × Int) (ι := Nat) (fun x i => x = (none, (i : Int)) ∧ i ≤ L.length + 1) (fun x i => F (A.length + min i L.length) :: nodeB G.toBtT b s kd :: itsR G.toBtT s L :: kpsR G.toBtT kd [] :: Γ) (fun x i => L.length + 1 - i) 0 ⟨rfl, Nat.zero_le _⟩ ?_
    rintro k' _ i ⟨rfl, hi⟩ hk'
    simp only at hk' ⊢
    unfold nwalk_b2
    refine s_nn ?_
    refine s_ld (b := b) (x := s) ?_
    refine s_ite (fun hb => ?_) fun hb => ?_
    · have hiL : i ≤ L.length := by simp only [decide_eq_true_eq] at hb; omega
      rw [Nat.min_eq_left hiL]
      refine s_ld (b := b) (x := kd) ?_
      refine s_f ?_
      unfold nwalk_s3
      refine s_f ?_
      refine s_dr ?_
      refine s_ld (b := b) (x := s) ?_
      refine s_ite (fun hb2 => ?_) fun hb2 => ?_
      · have hil : i < L.length := by simp only [decide_eq_true_eq] at hb2; omega
        have hge : L[i]? = some L[i] := List.getElem?_eq_getElem hil
        generalize L[i] = x at hge
        have hge0 : L0[A.length + i]? = some x := by
          rw [hL0, List.append_assoc, List.getElem?_append_right (by omega), Nat.add_sub_cancel_left, List.getElem?_append_left hil, hge]
        refine s_ld (b := b) (x := s) ?_
        refine s_idx (s := s) (i := i) ?_
        refine s_ldE0 (s := s) (x := x.1) (by exact (flatMap_off (off := 0) G.f_len hge (by omega)).trans rfl) ?_
        refine s_ld (b := b) (x := s) ?_
        refine s_idx (s := s) (i := i) ?_
        refine s_ldEN (s := s) (off := 1) (l' := x.2.1) ?_ x.2.2.1 ?_
        · have h1 := flatMap_el G.f_len hge
          have e : ((L.flatMap G.f).drop (i * (G.nv + 1) + 1)).take G.nv = (((L.flatMap G.f).drop (i * (G.nv + 1))).take (G.nv + 1)).drop 1 := by rw [← List.drop_drop, List.drop_take]; rfl
          rw [e, h1]; rfl
        refine step _ x hge0 _ _ ?_ ?_
        · refine s_ans1 ?_
          unfold nwalk_s4
          refine s_f ?_
          refine s_ai ?_
          have := hk' (none, (i : Int) + 1) (i + 1) ⟨by simp, by omega⟩ (by omega)
          rw [Nat.min_eq_left (show i + 1 ≤ L.length from hil)] at this
          exact this
        · refine s_ans1 ?_
          unfold nwalk_s4
          exact s_t hf'
      · have hil : i = L.length := by simp only [decide_eq_false_iff_not] at hb2; omega
        unfold nwalk_s4
        refine s_f ?_
        refine s_ai ?_
        have := hk' (none, (i : Int) + 1) (i + 1) ⟨by simp, by omega⟩ (by omega)
        rw [Nat.min_eq_right (by omega)] at this
        rw [hil]
        rw [hil] at this
        exact this
    · have hil : ¬ i ≤ L.length := by simp only [decide_eq_false_iff_not] at hb; omega
      rw [Nat.min_eq_right (by omega)]
      exact ht'
  | d + 1, m, b, A, L, C, Γ, Q, hL0, ht, hf => by
    unfold nwalk nwalk_s1
    refine s_f ?_
    refine s_own b ?_
    refine s_nodeS fun s kd q0 ps hne hl hM => ?_
    subst hM
    refine s_cap s fun l1 l2 l3 l4 => ?_
    refine s_cap kd fun m1 m2 m3 m4 => ?_
    rw [flatMap_len G.f _ G.f_len] at l1
    have hn : s.n = ps.length := by
      have := Nat.eq_of_mul_eq_mul_right (by omega) l1
      simpa using this.symm
    have hkn : kd.n = ps.length + 1 := by simpa using m1.symm
    have ht' : HG B (F (A.length + (psL q0 ps).length) :: nodeB G.toBtT b s kd :: itsR G.toBtT s (ps.map Prod.fst) :: kpsR G.toBtT kd ((q0 :: ps.map Prod.snd).map ptr) :: kidsR G.toBtT d (q0 :: ps.map Prod.snd) :: Γ) (Q true) := by
      refine s_own b ?_
      refine s_end (Δ := nodeB G.toBtT b s kd :: itsR G.toBtT s (ps.map Prod.fst) :: kpsR G.toBtT kd ((q0 :: ps.map Prod.snd).map ptr) :: kidsR G.toBtT d (q0 :: ps.map Prod.snd) :: F (A.length + (psL q0 ps).length) :: Γ) ?_
      exact s_mkS hne hl (s_swap ht)
    have hf' : HG B (E :: nodeB G.toBtT b s kd :: itsR G.toBtT s (ps.map Prod.fst) :: kpsR G.toBtT kd ((q0 :: ps.map Prod.snd).map ptr) :: kidsR G.toBtT d (q0 :: ps.map Prod.snd) :: Γ) (Q false) := by
      refine s_own b ?_
      refine s_end (Δ := nodeB G.toBtT b s kd :: itsR G.toBtT s (ps.map Prod.fst) :: kpsR G.toBtT kd ((q0 :: ps.map Prod.snd).map ptr) :: kidsR G.toBtT d (q0 :: ps.map Prod.snd) :: E :: Γ) ?_
      exact s_mkS hne hl (s_swap hf)
    let pos : Option (List (Kid G.toBtT × G.It) × Kid G.toBtT × List (G.It × Kid G.toBtT)) → Nat := fun i => match i with
      | none => A.length + (psL q0 ps).length
      | some (l, _, _) => A.length + (preL l).length
    let num : Option (List (Kid G.toBtT × G.It) × Kid G.toBtT × List (G.It × Kid G.toBtT)) → Nat := fun i => match i with
      | none => ps.length + 1
      | some (l, _, _) => l.length
    let Gd : Option (List (Kid G.toBtT × G.It) × Kid G.toBtT × List (G.It × Kid G.toBtT)) → Prop := fun i => match i with
      | none => True
      | some (l, q, r) => ps.map Prod.fst = l.map Prod.snd ++ r.map Prod.fst ∧ q0 :: ps.map Prod.snd = l.map Prod.fst ++ q :: r.map Prod.snd ∧ psL q0 ps = preL l ++ q.2 ++ postL r
    refine s_end (Δ := F (pos (some ([], q0, ps))) :: nodeB G.toBtT b s kd :: itsR G.toBtT s (ps.map Prod.fst) :: kpsR G.toBtT kd ((q0 :: ps.map Prod.snd).map ptr) :: kidsR G.toBtT d (q0 :: ps.map Prod.snd) :: Γ) ?_ (d := by
      show Drops _ (F A.length :: _)
      infer_instance)
    refine s_loop (α := Option Addr × Int) (ι := Option (List (Kid G.toBtT × G.It) × Kid G.toBtT × List (G.It × Kid G.toBtT))) (fun x i => x = (none, (num i : Int)) ∧ Gd i)
      (fun x i => F (pos i) :: nodeB G.toBtT b s kd :: itsR G.toBtT s (ps.map Prod.fst) :: kpsR G.toBtT kd ((q0 :: ps.map Prod.snd).map ptr) :: kidsR G.toBtT d (q0 :: ps.map Prod.snd) :: Γ) (fun x i => ps.length + 1 - num i) (some ([], q0, ps)) ⟨rfl, rfl, rfl, rfl⟩ ?_
    rintro k' _ i ⟨rfl, hg1⟩ hk'
    simp only at hk' ⊢
    unfold nwalk_b2
    refine s_nn ?_
    refine s_ld (b := b) (x := s) ?_
    match i, hg1, hk' with
    | none, _, hk' =>
      refine s_f ?_ (by simp only [num, decide_eq_false_iff_not]; omega)
      exact ht'
    | some (l, q, r), ⟨g1, g2, g3⟩, hk' =>
      simp only [pos, num] at hk' ⊢
      have hlen : ps.length = l.length + r.length := by have := congrArg List.length g1; simpa using this
      refine s_t ?_ (by simp only [decide_eq_true_eq]; omega)
      refine s_ld (b := b) (x := kd) ?_
      refine s_t ?_ (by simp only [decide_eq_true_eq]; omega)
      refine s_ld (b := b) (x := kd) ?_
      refine s_idx (s := kd) (i := l.length) ?_
      rw [g2]
      refine s_ldE0 (s := kd) (x := ptr q) (by simp) ?_
      refine s_pick (kidsR G.toBtT d (l.map Prod.fst ++ q :: r.map Prod.snd)) ?_
      refine s_kid ?_
      refine fun w hw => ok.walk _ _ _ _ _ ?_
      refine hg hw ?_
      clear hw w
      have hbk : ∀ {X : HProp} {kk : K}, HG B (X :: nodeB G.toBtT b s kd :: itsR G.toBtT s (ps.map Prod.fst) :: kpsR G.toBtT kd ((q0 :: ps.map Prod.snd).map ptr) :: kidsR G.toBtT d (q0 :: ps.map Prod.snd) :: Γ) kk →
          HG B (X :: NodeR G.toBtT d 2 q.1 q.2 :: kidsR G.toBtT d (l.map Prod.fst ++ r.map Prod.snd) :: nodeB G.toBtT b s kd :: itsR G.toBtT s (ps.map Prod.fst) :: kpsR G.toBtT kd ((l.map Prod.fst ++ q :: r.map Prod.snd).map ptr) :: Γ) kk := fun {X kk} h => by
        refine s_own q.1 ?_
        refine s_end (Δ := NodeR G.toBtT d 2 q.1 q.2 :: kidsR G.toBtT d (l.map Prod.fst ++ r.map Prod.snd) :: X :: nodeB G.toBtT b s kd :: itsR G.toBtT s (ps.map Prod.fst) :: kpsR G.toBtT kd ((l.map Prod.fst ++ q :: r.map Prod.snd).map ptr) :: Γ) ?_
        refine s_unkid ?_
        rw [← g2]
        exact s_end h
      have eA : A.length + (preL l).length = (A ++ preL l).length := by simp
      rw [eA]
      refine s_end (Δ := F (A ++ preL l).length :: NodeR G.toBtT d 2 q.1 q.2 :: kidsR G.toBtT d (l.map Prod.fst ++ r.map Prod.snd) :: nodeB G.toBtT b s kd :: itsR G.toBtT s (ps.map Prod.fst) :: kpsR G.toBtT kd ((l.map Prod.fst ++ q :: r.map Prod.snd).map ptr) :: Γ) ?_
      have hL0' : L0 = (A ++ preL l) ++ q.2 ++ (postL r ++ C) := by rw [hL0, g3]; simp
      refine nwalk_spec ok step d (C := postL r ++ C) hL0' (hbk ?_) (hbk ?_)
      · unfold nwalk_s3
        refine s_f ?_
        refine s_dr ?_
        refine s_ld (b := b) (x := s) ?_
        cases r with
        | nil =>
          refine s_f ?_ (by simp only [List.length_nil] at hlen; simp only [decide_eq_false_iff_not]; omega)
          unfold nwalk_s4
          refine s_f ?_
          refine s_ai ?_
          have := hk' (none, (l.length : Int) + 1) none ⟨by simp only [num]; simp only [List.length_nil] at hlen; rw [hlen]; simp, trivial⟩ (by simp only [num]; omega)
          simp only [pos] at this
          have e2 : (A ++ preL l).length + q.2.length = A.length + (psL q0 ps).length := by rw [g3]; simp [postL]; omega
          rw [e2]; exact this
        | cons p r =>
          obtain ⟨x, q'⟩ := p
          refine s_t ?_ (by simp only [List.length_cons] at hlen; simp only [decide_eq_true_eq]; omega)
          have hge : (ps.map Prod.fst)[l.length]? = some x := by rw [g1]; simp
          have hge0 : L0[(A ++ preL l).length + q.2.length]? = some x := by
            rw [hL0', show A ++ preL l ++ q.2 ++ (postL ((x, q') :: r) ++ C) = (A ++ preL l ++ q.2) ++ x :: (q'.2 ++ postL r ++ C) by simp [postL]]
            rw [List.getElem?_append_right (by simp; omega)]
            have e9 : (A ++ preL l).length + q.2.length - (A ++ preL l ++ q.2).length = 0 := by simp only [List.length_append]; omega
            rw [e9]; rfl
          refine s_ld (b := b) (x := s) ?_
          refine s_idx (s := s) (i := l.length) ?_ rfl (by simp only [List.length_cons] at hlen; omega)
          refine s_ldE0 (s := s) (x := x.1) (by exact (flatMap_off (off := 0) G.f_len hge (by omega)).trans rfl) ?_
          refine s_ld (b := b) (x := s) ?_
          refine s_idx (s := s) (i := l.length) ?_ rfl (by simp only [List.length_cons] at hlen; omega)
          refine s_ldEN (s := s) (off := 1) (l' := x.2.1) ?_ x.2.2.1 ?_
          · have h1 := flatMap_el G.f_len hge
            have e : (((ps.map Prod.fst).flatMap G.f).drop (l.length * (G.nv + 1) + 1)).take G.nv = ((((ps.map Prod.fst).flatMap G.f).drop (l.length * (G.nv + 1))).take (G.nv + 1)).drop 1 := by rw [← List.drop_drop, List.drop_take]; rfl
            rw [e, h1]; rfl
          refine step _ x hge0 _ _ ?_ ?_
          · refine s_ans1 ?_
            unfold nwalk_s4
            refine s_f ?_
            refine s_ai ?_
            have := hk' (none, (l.length : Int) + 1) (some (l ++ [(q, x)], q', r)) ⟨by simp [num], by rw [g1]; simp, by rw [g2]; simp, by rw [g3]; simp [preL, postL]⟩ (by simp only [num, List.length_append, List.length_cons, List.length_nil]; simp only [List.length_cons] at hlen; omega)
            simp only [pos] at this
            have e2 : A.length + (preL (l ++ [(q, x)])).length = (A ++ preL l).length + q.2.length + 1 := by simp [preL]; omega
            rw [e2] at this; exact this
          · refine s_ans1 ?_
            unfold nwalk_s4
            exact s_t hf'
      · unfold nwalk_s3
        exact s_t hf'
/-- A range over a tree's items. -/
theorem tree_range (ok : BtWOk G c) {t cb : Nat} {J : Exit} {F : Nat → HProp} {E : HProp} {L : List G.It} {body : (K → K) → K → K → κ × Array Value → K} {after afterJ : Nat → K}
    (step : ∀ i x, L[i]? = some x → ∀ l r kN kJ (Δ : List HProp), rdyR r → HG B (F (i + 1) :: blk l (.loop r) :: Δ) kN → HG B (E :: blk l (.loop (doneR r J)) :: Δ) kJ →
      HG B (F i :: blk l (.loop r) :: Δ) (body (BeginR l r) (EndR l (busyR r) kN) (StopR l (busyR r) J kJ) (x.1, x.2.1.toArray)))
    (ht : ∀ D, HG B (F L.length :: blk D (.deferred (some [])) :: blk cb (.cells [.pointer (some ⟨t, 0, none⟩)].toArray G.tPT (0, 0)) :: TreeR G.toBtT c t L :: Γ) (after D))
    (hj : ∀ D, HG B (E :: blk D (.deferred (some [])) :: blk cb (.cells [.pointer (some ⟨t, 0, none⟩)].toArray G.tPT (0, 0)) :: TreeR G.toBtT c t L :: Γ) (afterJ D)) :
    HG B (F 0 :: blk cb (.cells [.pointer (some ⟨t, 0, none⟩)].toArray G.tPT (0, 0)) :: TreeR G.toBtT c t L :: Γ) (RangeJ G.P (.func (.func G.fAll) #[] #[.pointer (some ⟨cb, 0, none⟩)]) J (fun x : κ × Array Value => [G.kV x.1, .agg x.2]) body after afterJ) := by
  refine s_rangeJ (cs := [.pointer (some ⟨cb, 0, none⟩)]) ok.cAll fun D l r hr hy => ?_
  refine fun w hw => ok.all1 _ _ _ _ ?_
  refine hg hw ?_
  clear hw w
  unfold tall1
  refine s_ld (b := cb) (x := some ⟨t, 0, none⟩) ?_
  refine s_nn ?_
  refine s_own t ?_
  refine s_tree fun d b hs => ?_
  refine s_ld (b := t) (x := some ⟨b, 0, none⟩) ?_
  refine fun w hw => ok.walk _ _ _ _ _ ?_
  refine hg hw ?_
  clear hw w
  let F' : Nat → HProp := fun i => Sep.stars [F i, blk l (.loop r)]
  let E' : HProp := Sep.stars [E, blk l (.loop (doneR r J))]
  have hin : ∀ {X Y : HProp} {Δ : List HProp} {k : K}, HG B (X :: Y :: Δ) k → HG B (Sep.stars [X, Y] :: Δ) k := fun h => s_flat h
  have hout : ∀ {X Y : HProp} {Δ : List HProp} {k : K}, HG B (Sep.stars [X, Y] :: Δ) k → HG B (X :: Y :: Δ) k := fun {X Y Δ k} h => s_unflat (Δ := [X, Y]) h
  refine s_end (Δ := F 0 :: blk l (.loop r) :: NodeR G.toBtT d 1 b L :: blk t (.cells [.pointer (some ⟨b, 0, none⟩), .int .i64 L.length].toArray G.tT (0, 0)) :: blk D (.deferred (some [])) :: blk cb (.cells [.pointer (some ⟨t, 0, none⟩)].toArray G.tPT (0, 0)) :: Γ) ?_
  refine hout ?_
  refine nwalk_spec ok (F := F') (E := E') (L0 := L) (fun i x hx Δ kk h1 h2 => ?_) d (A := []) (C := []) (by simp) ?_ ?_
  · refine s_callY ?_
    refine hin ?_
    refine s_swap ?_
    refine hy (x.1, x.2.1.toArray) _ _ _ ?_
    refine s_swap ?_
    exact step i x hx l r _ _ _ hr (hout h1) (hout h2)
  · refine hin ?_
    refine s_aftN ?_
    simp only [List.length_nil, Nat.zero_add]
    refine s_own t ?_
    refine s_own b ?_
    refine s_swap ?_
    refine s_mkTree hs ?_
    exact s_end (ht D)
  · refine hin ?_
    refine s_aftJ ?_
    refine s_own t ?_
    refine s_own b ?_
    refine s_swap ?_
    refine s_mkTree hs ?_
    exact s_end (hj D)
end
end Bt
end Go.Sep
/- The store's rows. -/
namespace Go.Proofs.YtinpgiafjjibnaaGreat
open Go Go.Sep Go.Sep.Bt
set_option linter.unusedSimpArgs false
set_option linter.unusedVariables false
set_option maxRecDepth 100000

noncomputable def btSW : BtW ByteArray where
  toBtT := btS
  fAll := 52
  tPT := ty_p_btree_Tree_string_api_Record
  nwalkC := btree_node_string_api_Record_walk.call
theorem btSW_ok : BtWOk btSW cmpS where
  toBtOk := btS_ok
  walk := fun n f y Q w h => btree_node_string_api_Record_walk_ok _ _ _ _ _ h
  cAll := by kernel_rfl
  all1 := fun y t Q w h => by
    have h1 := btree_Tree_string_api_Record_All_1_ok y t Q w h
    exact ret_mono h1 fun v w h => h.2
/-- Rows so far. -/
def rowsF (o : Nat) (X : List RecX) (i : Nat) : HProp := ex fun s => ex fun Y : List RecX => Sep.stars [pur (Y.map recM = (X.take i).map recM), blk o (.cells [s.val].toArray ty_s_api_Row (0, 0)), SlC ty_api_Row 5 s (Y.flatMap rowF6), Sep.stars (Y.map recB), Sep.stars (X.map recB)]
section
variable {B : World} {Γ Δ : List HProp} {o i st n : Nat} {M : Recs} {X : List RecX} {k : K}
theorem s_rowsF (h : ∀ s (Y : List RecX), Y.map recM = (X.take i).map recM → HG B (blk o (.cells [s.val].toArray ty_s_api_Row (0, 0)) :: SlC ty_api_Row 5 s (Y.flatMap rowF6) :: Sep.stars (Y.map recB) :: Sep.stars (X.map recB) :: Γ) k) : HG B (rowsF o X i :: Γ) k :=
  s_ex fun s => s_ex fun Y => s_flat <| s_pur fun h1 => h s Y h1
theorem s_mkRowsF {s : Sl} {Y : List RecX} (h1 : Y.map recM = (X.take i).map recM) (h : HG B (rowsF o X i :: Γ) k) : HG B (blk o (.cells [s.val].toArray ty_s_api_Row (0, 0)) :: SlC ty_api_Row 5 s (Y.flatMap rowF6) :: Sep.stars (Y.map recB) :: Sep.stars (X.map recB) :: Γ) k := fun w hw => by
  refine h w ?_
  have h3 : Holds B (Sep.stars [pur (Y.map recM = (X.take i).map recM), blk o (.cells [s.val].toArray ty_s_api_Row (0, 0)), SlC ty_api_Row 5 s (Y.flatMap rowF6), Sep.stars (Y.map recB), Sep.stars (X.map recB)] :: Γ) w := Holds.flat.2 (Holds.pur.2 ⟨h1, hw⟩)
  exact h3.imp fun g hg => ⟨s, Y, hg⟩
instance (priority := high) own_rowsF : Sep.Own o (rowsF o X i :: Γ) (rowsF o X i) Γ := ⟨.refl _⟩
theorem s_star1 {Y : List RecX} {y : RecX} (h : HG B (Sep.stars ((Y ++ [y]).map recB) :: Γ) k) : HG B (recB y :: Sep.stars (Y.map recB) :: Γ) k := by
  have := s_unmid (F := recB) (A := Y) (C := []) (x := y) h
  rwa [List.append_nil] at this
/-- Rows. -/
theorem rows_hg {Q : Sl → K} (hL : M.length < 10000000) (h : ∀ s (Y : List RecX), Y.map recM = M → HG B (SlC ty_api_Row 5 s (Y.flatMap rowF6) :: Sep.stars (Y.map recB) :: StoreR st n M :: Γ) (Q s)) : HG B (StoreR st n M :: Γ) (store_Store_Rows.call (some ⟨st, 0, none⟩) Q) := by
  refine fun w hw => store_Store_Rows_ok _ _ _ ?_
  refine hg hw ?_
  clear hw w
  refine s_store fun t X hM hok h1 h3 => ?_
  have hXl : X.length = M.length := by rw [hM]; simp
  unfold store_Store_Rows
  refine s_new fun o => ?_
  refine s_nn ?_
  repeat refine s_nx ?_
  refine fun w hw => btree_Tree_string_api_Record_All_ok _ _ _ ?_
  refine hg hw ?_
  clear hw w
  unfold btree_Tree_string_api_Record_All
  refine s_new fun cb => ?_
  refine fun w hw => hg (show Holds B (SlC ty_api_Row 5 ⟨none, 0, 0⟩ (([] : List RecX).flatMap rowF6) :: _) w from hw.nilSl _ _) ?_
  clear hw w
  refine fun w hw => hg (show Holds B (Sep.stars (([] : List RecX).map recB) :: _) w from Holds.flat.2 hw) ?_
  clear hw w
  refine s_end (Δ := blk o (.cells [(⟨none, 0, 0⟩ : Sl).val].toArray ty_s_api_Row (0, 0)) :: SlC ty_api_Row 5 ⟨none, 0, 0⟩ (([] : List RecX).flatMap rowF6) :: Sep.stars (([] : List RecX).map recB) :: Sep.stars (X.map recB) :: blk cb (.cells [.pointer (some ⟨t, 0, none⟩)].toArray ty_p_btree_Tree_string_api_Record (0, 0)) :: TreeR btS cmpS t (X.map recI) :: blk st (.cells [.int .i64 n, .pointer (some ⟨t, 0, none⟩)].toArray ty_store_Store (0, 0)) :: Γ) ?_
  refine s_mkRowsF (i := 0) (by simp) ?_
  refine tree_range btSW_ok (F := rowsF o X) (E := pur False) (fun i x hx l r kN kJ Δ hr hN hJ => ?_) (fun D => ?_) fun D => s_pur fun hf => hf.elim
  · obtain ⟨y, hy, hxy⟩ : ∃ y, X[i]? = some y ∧ recI y = x := by
      have h0 : (X.map recI)[i]? = some (x : btS.It) := hx
      rw [List.getElem?_map] at h0
      exact Option.map_eq_some_iff.1 h0
    subst hxy
    have hil : i < X.length := (List.getElem?_eq_some_iff.1 hy).1
    have hmem : y ∈ X := List.mem_of_getElem? hy
    have htk : X.take (i + 1) = X.take i ++ [y] := by
      rw [List.take_succ_eq_append_getElem hil, (List.getElem?_eq_some_iff.1 hy).2]
    have hyok : y.2.1.ok := hok (recM y) (by rw [hM]; exact List.mem_map.2 ⟨y, hmem, rfl⟩)
    refine s_new fun r4 => ?_
    refine s_stN (b := r4) (l' := recL y.2.1 y.2.2) ?_
    refine s_beginR ?_
    refine s_own o ?_
    refine s_rowsF fun s Y hY => ?_
    have hYl : Y.length = i := by have := congrArg List.length hY; simpa [Nat.min_eq_left (Nat.le_of_lt hil)] using this
    refine s_cap s fun a1 a2 a3 a4 => ?_
    rw [flatMap_len _ 5 rowF6_len] at a1
    repeat refine s_nx ?_
    refine bytesClone_hg (xs := y.2.1.val) (fun w hw => ?_) hyok.2.2 fun s' hs' => ?_
    · obtain ⟨Δ, h1⟩ := stars_mem' hmem (hw.drops (Δ := [Sep.stars (X.map recB)]))
      exact h1.rdC List.mem_cons_self
    repeat refine s_nx ?_
    refine s_new fun t20 => ?_
    refine s_append (s := s) (esz := 5) (us := rowF6 (y.1, (y.2.1, s'))) (blk_rd rfl) (by intro v hv; exact rowF6_fl [(y.1, (y.2.1, s'))] v (by simpa using hv)) (by simp only; omega) fun s2 hs2 => ?_
    rw [show Y.flatMap rowF6 ++ rowF6 (y.1, (y.2.1, s')) = (Y ++ [(y.1, (y.2.1, s'))]).flatMap rowF6 by simp only [List.flatMap_append, List.flatMap_cons, List.flatMap_nil, List.append_nil]]
    repeat refine s_nx ?_
    refine s_endR hr ?_
    refine s_end (Δ := recB (y.1, (y.2.1, s')) :: Sep.stars (Y.map recB) :: blk o (.cells [s2.val].toArray ty_s_api_Row (0, 0)) :: SlC ty_api_Row 5 s2 ((Y ++ [(y.1, (y.2.1, s'))]).flatMap rowF6) :: Sep.stars (X.map recB) :: blk l (.loop r) :: Δ) ?_
    refine s_star1 ?_
    refine s_end (Δ := blk o (.cells [s2.val].toArray ty_s_api_Row (0, 0)) :: SlC ty_api_Row 5 s2 ((Y ++ [(y.1, (y.2.1, s'))]).flatMap rowF6) :: Sep.stars ((Y ++ [(y.1, (y.2.1, s'))]).map recB) :: Sep.stars (X.map recB) :: blk l (.loop r) :: Δ) ?_
    exact s_mkRowsF (by rw [htk, List.map_append, hY, List.map_append]; rfl) hN
  · show HG B (rowsF o X (X.map recI : List btS.It).length :: blk D (.deferred (some [])) :: blk cb (.cells [.pointer (some ⟨t, 0, none⟩)].toArray ty_p_btree_Tree_string_api_Record (0, 0)) :: TreeR btS cmpS t (X.map recI) :: blk st (.cells [.int .i64 n, .pointer (some ⟨t, 0, none⟩)].toArray ty_store_Store (0, 0)) :: Γ) _
    refine s_rowsF fun s Y hY => ?_
    repeat refine s_nx ?_
    refine s_takeD ?_
    repeat refine s_nx ?_
    have hY2 : Y.map recM = M := hY.trans (by
      show ((X.take (X.map recI : List btS.It).length).map recM) = _
      rw [List.length_map, List.take_length, hM])
    refine s_pick (Sep.stars (X.map recB)) ?_
    refine s_own t ?_
    refine s_own st ?_
    rw [hM] at h
    refine s_mkStore (by rw [← hM]; exact hok) h1 h3 ?_
    exact s_end (h s Y (by rw [hY2, hM]))
end
end Go.Proofs.YtinpgiafjjibnaaGreat
/- What prog makes of a transaction: its keys, a copy of it. -/
namespace Go.Proofs.YtinpgiafjjibnaaGreat
open Go Go.Sep
set_option linter.unusedSimpArgs false
set_option linter.unusedVariables false
set_option maxRecDepth 100000

abbrev opB (x : OpX) : HProp := Bytes ty_uint8 x.2 x.1.val
/-- A transaction's own memory. -/
abbrev txC (t : TxX) (Γ : List HProp) : List HProp := SlS t.rs t.reads :: SlS t.ws t.writes :: SlC ty_api_Op 4 t.os (t.ops.flatMap opF) :: Sep.stars (t.ops.map opB) :: Γ
/-- A transaction is as another one. -/
abbrev TxIs (a b : TxX) : Prop := SameP a b
section
variable {B : World} {Γ Δ : List HProp} {k : K}
theorem stars_get {α : Type} {F : α → HProp} {l : List α} {x : α} {w : World} (hx : x ∈ l) (h : Holds B (Sep.stars (l.map F) :: Γ) w) : ∃ Δ, Holds B (F x :: Δ) w := by
  obtain ⟨i, hi⟩ := List.getElem?_of_mem hx
  exact ⟨_, stars_take i hi h⟩
theorem txC_rd {t : TxX} {w : World} (h : Holds B (txC t Γ) w) : txRd w t :=
  ⟨(own_rd (s := t.rs) h).1, (own_rd (s := t.ws) h).1, (own_rd (s := t.os) h).1, fun x hx => by
    obtain ⟨Δ, hd⟩ := stars_get (F := opB) hx h.tail.tail.tail
    exact hd.rdC (E := ty_uint8) List.mem_cons_self⟩
theorem s_clone {E T esz : Nat} {us : List Value} {s : Sl} {Q : Sl → K} (hr : ∀ w, Holds B Γ w → RdC w s esz us) (hfl : ∀ u ∈ us, flatV u = true) (hroom : us.length ≤ 100000000) (he : 0 < esz) (h : ∀ s', s'.n = s.n → HG B (SlC E esz s' us :: Γ) (Q s')) (hT : appT Tryz.prog T T E esz = true := by kernel_rfl) :
    HG B Γ (Ite s.a.isNone (Q (Sl.mk none 0 0)) (New E #[] fun t5 => Do Tryz.prog (Builtin.append_ #[T, T] T #[Sl.val (Sl.mk (some t5) 0 0), s.val]) Sl.val fun t7 => Q t7)) := fun w hw => by
  have hrw := hr w hw
  have hl := hrw.len
  have hsn : s.n ≤ us.length := by rw [hl]; exact Nat.le_mul_of_pos_right _ he
  refine Sep.hg hw ?_
  clear hw
  refine s_ite (fun hb => ?_) fun hb => ?_
  · have ha : s.a = none := by cases hs : s.a with
      | none => rfl
      | some a => rw [hs] at hb; cases hb
    have hn : s.n = 0 := hrw.nil ha
    have hus : us = [] := List.length_eq_zero_iff.1 (by rw [hl, hn, Nat.zero_mul])
    refine fun w2 hw2 => h ⟨none, 0, 0⟩ hn.symm w2 ?_
    rw [hus]
    exact hw2.nilSl E esz
  · refine s_new fun t5 => ?_
    refine s_conv (A' := SlC E esz ⟨some ⟨t5, 0, none⟩, 0, 0⟩ []) (blk_SlC (vs := []) rfl (by simp)) ?_
    refine s_append (s := ⟨some ⟨t5, 0, none⟩, 0, 0⟩) (us := us) (fun w hw => hr w hw.drops) hfl (by simp only; omega) (hT := hT) fun s' hs' => ?_
    exact h s' (by simp only at hs'; omega)
theorem bclone_hg {s : Sl} {xs : List UInt8} {Q : Sl → K} (hr : ∀ w, Holds B Γ w → RdB w s xs) (hl : xs.length ≤ 90000000) (h : ∀ s', HG B (Bytes ty_uint8 s' xs :: Γ) (Q s')) : HG B Γ (bytes_Clone.call s Q) := fun w hw => by
  refine bytes_Clone_ok _ _ _ ?_
  refine Sep.hg hw ?_
  clear hw w
  unfold bytes_Clone
  exact s_clone (us := xs.map byteV) hr (byteV_flat _) (by rw [List.length_map]; omega) (by omega) fun s' _ => h s'
theorem opF_flat (L : List OpX) : ∀ v ∈ L.flatMap opF, flatV v = true := fun v hv => by
  obtain ⟨x, _, hx⟩ := List.mem_flatMap.1 hv
  simp only [opF, List.mem_cons, List.not_mem_nil, or_false] at hx
  rcases hx with rfl | rfl | rfl | rfl <;> rfl
theorem flatMap_setAt {α : Type} {f : α → List Value} {esz : Nat} (hf : ∀ x, (f x).length = esz) : ∀ {L : List α} {i off : Nat} {x y : α} {v : Value}, L[i]? = some x → off < esz → (f x).set off v = f y → (L.flatMap f).set (i * esz + off) v = (L.set i y).flatMap f
  | [], i, off, x, y, v, hx, _, _ => by simp at hx
  | z :: L, 0, off, x, y, v, hx, ho, hy => by
    have hzx : z = x := by simpa using hx
    subst hzx
    rw [Nat.zero_mul, Nat.zero_add, List.flatMap_cons, List.set_cons_zero, List.flatMap_cons, List.set_append_left _ _ (by rw [hf]; exact ho), hy]
  | z :: L, i + 1, off, x, y, v, hx, ho, hy => by
    have ih := flatMap_setAt hf (L := L) (i := i) (by simpa using hx) ho hy
    rw [List.flatMap_cons, List.set_cons_succ, List.flatMap_cons, ← ih, List.set_append_right _ _ (by rw [hf, Nat.succ_mul]; omega), hf]
    congr 2
    rw [Nat.succ_mul]; omega
end
end Go.Proofs.YtinpgiafjjibnaaGreat
/- The document's copy of a transaction. -/
namespace Go.Proofs.YtinpgiafjjibnaaGreat
open Go Go.Sep
set_option linter.unusedSimpArgs false
set_option linter.unusedVariables false
set_option maxRecDepth 100000
set_option maxHeartbeats 4000000
section
variable {B : World} {Γ Δ Δ2 Δ3 : List HProp}
theorem s_all3 {x y z : K} (h1 : HG B Γ x) (h2 : HG B Γ y) (h3 : HG B Γ z) : HG B Γ (All [x, y, z]) := fun w hw => all_cons (h1 w hw) (all_cons (h2 w hw) (all_cons (h3 w hw) all_nil))
/-- What is read is put behind nothing. -/
theorem s_app0 {b T E esz : Nat} {x : Sl} {us : List Value} {k : Sl → K} (hx : ∀ w, Holds B Γ w → RdC w x esz us) (hfl : ∀ u ∈ us, flatV u = true) (hl : x.n ≤ 1000000) (h : ∀ s', s'.n = x.n → HG B (SlC E esz s' us :: Δ) (k s')) [p : Sep.Own b Γ (blk b (.cells ([] : List Value).toArray E (0, 0))) Δ] (hT : appT Tryz.prog T T E esz = true := by kernel_rfl) :
    HG B Γ (Do Tryz.prog (Builtin.append_ #[T, T] T #[Sl.val (Sl.mk (some ⟨b, 0, none⟩) 0 0), Sl.val x]) Sl.val k) := fun w hw => by
  have h1 : Holds B (SlC E esz ⟨some ⟨b, 0, none⟩, 0, 0⟩ [] :: Δ) w := (hw.perm p.perm).imp (blk_SlC (vs := []) rfl (by simp))
  obtain ⟨h1', h2, n, zv, h3, h4, h5, h6, h7, _⟩ := appT_spec hT
  refine r_append h1 h1' h2 h3 h6 h7 (hx w hw) hfl ?_ h5 fun s' w' h' hn _ => h s' (by simpa using hn) w' (by simpa using h')
  have h8 : (2 * (0 + x.n) + 800) * n ≤ 200000800 * 1000 := Nat.mul_le_mul (by omega) h4
  simp only
  omega
theorem strs_fl (L : List TX) : ∀ u ∈ L.map strV, flatV u = true := fun u hu => by obtain ⟨y, _, rfl⟩ := List.mem_map.1 hu; rfl
attribute [local irreducible] Do Ld LdN St StN New Ar Dr WithS Sv LdS LdNS Nn Idx Bld All LoopK
theorem copy05_hg {t : TxX} {Q : Array Value → K} (hr : ∀ w, Holds B Γ w → txRd w t) (hl : t.reads.length ≤ 1000 ∧ t.writes.length ≤ 1000 ∧ t.ops.length ≤ 1000 ∧ ∀ x ∈ t.ops, x.1.val.length ≤ 1000000) (h : ∀ t', TxIs t' t → HG B (txC t' Γ) (Q (txL t').toArray)) : HG B Γ (ref05_Copy.call (txL t).toArray Q) := fun w hw => by
  refine ref05_Copy_ok _ _ _ ?_
  obtain ⟨n1, n2, n3⟩ := tx_lens (hr w hw)
  refine Sep.hg hw ?_
  clear hw w
  obtain ⟨hl1, hl2, hl3, hl4⟩ := hl
  unfold ref05_Copy
  refine s_new fun t1 => ?_
  refine s_new fun t2 => ?_
  -- the operations
  have leaf : ∀ (a b : Sl) (o : Nat), HG B (blk o (.cells [.int .i64 t.kind, a.val, b.val, Sl.val ⟨none, 0, 0⟩, .int .i64 t.to].toArray ty_api_Txn (0, 0)) :: SlS a t.reads :: SlS b t.writes :: blk t1 (.cells (txL t).toArray ty_api_Txn (0, 0)) :: blk t2 (.cells [.int .i64 0, Sl.val ⟨none, 0, 0⟩, Sl.val ⟨none, 0, 0⟩, Sl.val ⟨none, 0, 0⟩, .int .i64 0].toArray ty_api_Txn (0, 0)) :: Γ) (ref05_Copy.s1 Q ⟨t1, 0, none⟩ ⟨t2, 0, none⟩ ⟨o, 0, none⟩) := fun a b o => by
    unfold ref05_Copy.s1
    refine fun w hw => Sep.hg (show Holds B (Sep.stars (([] : List OpX).map opB) :: _) w from hw.starsNil) ?_
    clear hw w
    refine fun w hw => Sep.hg (show Holds B (SlC ty_api_Op 4 ⟨none, 0, 0⟩ (([] : List OpX).flatMap opF) :: _) w from hw.nilSl _ _) ?_
    clear hw w
    refine s_end (Δ := blk o (.cells [.int .i64 t.kind, a.val, b.val, Sl.val ⟨none, 0, 0⟩, .int .i64 t.to].toArray ty_api_Txn (0, 0)) :: SlC ty_api_Op 4 ⟨none, 0, 0⟩ (([] : List OpX).flatMap opF) :: Sep.stars (([] : List OpX).map opB) :: SlS a t.reads :: SlS b t.writes :: blk t1 (.cells (txL t).toArray ty_api_Txn (0, 0)) :: blk t2 (.cells [.int .i64 0, Sl.val ⟨none, 0, 0⟩, Sl.val ⟨none, 0, 0⟩, Sl.val ⟨none, 0, 0⟩, .int .i64 0].toArray ty_api_Txn (0, 0)) :: Γ) ?_
    refine s_loop (α := Int) (ι := Nat × List OpX × Sl) (fun x i => x = (i.1 : Int) ∧ i.1 ≤ t.ops.length ∧ i.2.1.map Prod.fst = (t.ops.take i.1).map Prod.fst)
      (fun x i => blk o (.cells [.int .i64 t.kind, a.val, b.val, i.2.2.val, .int .i64 t.to].toArray ty_api_Txn (0, 0)) :: SlC ty_api_Op 4 i.2.2 (i.2.1.flatMap opF) :: Sep.stars (i.2.1.map opB) :: SlS a t.reads :: SlS b t.writes :: blk t1 (.cells (txL t).toArray ty_api_Txn (0, 0)) :: blk t2 (.cells [.int .i64 0, Sl.val ⟨none, 0, 0⟩, Sl.val ⟨none, 0, 0⟩, Sl.val ⟨none, 0, 0⟩, .int .i64 0].toArray ty_api_Txn (0, 0)) :: Γ)
      (fun x i => t.ops.length - i.1) (0, [], ⟨none, 0, 0⟩) ⟨rfl, Nat.zero_le _, rfl⟩ ?_
    rintro k' _ ⟨i, L, os⟩ ⟨rfl, hi, hm⟩ hk'
    simp only at hi hm hk' ⊢
    have hLl : L.length = i := by have := congrArg List.length hm; simpa [Nat.min_eq_left hi] using this
    refine s_cap os fun a1 a2 a3 a4 => ?_
    rw [flatMap_len _ 4 opF_len] at a1
    unfold ref05_Copy.b2
    refine s_ld (b := t1) (off := 3) (l := txL t) (x := t.os) ?_
    refine s_ite (fun hb => ?_) fun hb => ?_
    · have hil : i < t.ops.length := by simp only [decide_eq_true_eq] at hb; omega
      have hge : t.ops[i]? = some t.ops[i] := List.getElem?_eq_getElem hil
      have hmem : t.ops[i] ∈ t.ops := List.getElem_mem hil
      have htk : t.ops.take (i + 1) = t.ops.take i ++ [t.ops[i]] := List.take_succ_eq_append_getElem hil
      generalize t.ops[i] = x at hge hmem htk
      have hvl := hl4 x hmem
      refine s_ld (b := t1) (off := 3) (l := txL t) (x := t.os) ?_
      refine s_idxN opF opF_len (fun w hw => (hr w hw.drops).2.2.1) hge ?_
      refine s_new fun o5 => ?_
      refine s_stN (b := o5) (l' := opF x) ?_
      refine s_new fun t31 => ?_
      refine s_ld (b := t1) (off := 3) (l := txL t) (x := t.os) ?_
      refine s_idxF1 opF (off := 2) (c := Sl.val) (v := x.2) opF_len (fun w hw => (hr w hw.drops).2.2.1) hge rfl ?_
      refine fun w hw => ?_
      have hvn : x.2.n = x.1.val.length := by have := ((hr w hw.drops).2.2.2 x hmem).len; simpa using this.symm
      refine Sep.hg hw ?_
      clear hw w
      refine s_app0 (b := t31) (E := ty_uint8) (esz := 1) (us := x.1.val.map byteV) (fun w hw => (hr w hw.drops).2.2.2 x hmem) (byteV_flat _) (by omega) fun vs _ => ?_
      refine s_st (b := o5) (l := opF x) (l' := opF (x.1, vs)) ?_ rfl rfl
      repeat refine s_nx ?_
      refine s_new fun t43 => ?_
      refine s_append (s := os) (esz := 4) (us := opF (x.1, vs)) (blk_rd rfl) (by intro v hv; exact opF_flat [(x.1, vs)] v (by simpa using hv)) (by simp only; omega) fun os2 _ => ?_
      rw [show L.flatMap opF ++ opF (x.1, vs) = (L ++ [(x.1, vs)]).flatMap opF by simp only [List.flatMap_append, List.flatMap_cons, List.flatMap_nil, List.append_nil]]
      repeat refine s_nx ?_
      refine s_ai ?_
      have h9 := hk' ((i : Int) + 1) (i + 1, L ++ [(x.1, vs)], os2) ⟨by simp, hil, by simp only; rw [htk, List.map_append, List.map_append, hm]; rfl⟩ (by simp only; omega)
      have := s_unmid (F := opB) (A := L) (C := []) (x := ((x.1, vs) : OpX)) (Γ := blk o (.cells [.int .i64 t.kind, a.val, b.val, os2.val, .int .i64 t.to].toArray ty_api_Txn (0, 0)) :: SlC ty_api_Op 4 os2 ((L ++ [(x.1, vs)]).flatMap opF) :: SlS a t.reads :: SlS b t.writes :: blk t1 (.cells (txL t).toArray ty_api_Txn (0, 0)) :: blk t2 (.cells [.int .i64 0, Sl.val ⟨none, 0, 0⟩, Sl.val ⟨none, 0, 0⟩, Sl.val ⟨none, 0, 0⟩, .int .i64 0].toArray ty_api_Txn (0, 0)) :: Γ) (s_end h9)
      rw [List.append_nil] at this
      refine s_ownS vs ?_
      refine s_conv (A' := opB (x.1, vs)) (fun _ h => h) ?_
      exact s_end (Δ := Bytes ty_uint8 vs x.1.val :: Sep.stars (L.map opB) :: blk o (.cells [.int .i64 t.kind, a.val, b.val, os2.val, .int .i64 t.to].toArray ty_api_Txn (0, 0)) :: SlC ty_api_Op 4 os2 ((L ++ [(x.1, vs)]).flatMap opF) :: SlS a t.reads :: SlS b t.writes :: blk t1 (.cells (txL t).toArray ty_api_Txn (0, 0)) :: blk t2 (.cells [.int .i64 0, Sl.val ⟨none, 0, 0⟩, Sl.val ⟨none, 0, 0⟩, Sl.val ⟨none, 0, 0⟩, .int .i64 0].toArray ty_api_Txn (0, 0)) :: Γ) this
    · have hil : i = t.ops.length := by simp only [decide_eq_false_iff_not] at hb; omega
      rw [hil, List.take_length] at hm
      repeat refine s_nx ?_
      have := h ⟨t.kind, t.reads, t.writes, L, t.to, a, b, os⟩ ⟨rfl, rfl, rfl, rfl, hm⟩
      exact s_end this
  refine s_dr ?_
  refine s_wsD [blk t1 (.cells (txL t).toArray ty_api_Txn (0, 0))] ?_
  refine s_ldS (b := t1) (l := txL t) (x := t.kind) ?_
  refine s_ldS (b := t1) (off := 4) (l := txL t) (x := t.to) ?_
  refine s_ldS (b := t1) (off := 1) (l := txL t) (x := t.rs) ?_
  refine s_ldS (b := t1) (off := 2) (l := txL t) (x := t.ws) ?_
  have hTS : appT Tryz.prog ty_s_string ty_s_string ty_string 1 = true := by kernel_rfl
  refine s_all3 ?_ ?_ ?_
  · refine s_new fun ta => ?_
    refine s_sv ?_
    refine s_all3 ?_ ?_ ?_
    · refine s_app0 (b := ta) (E := ty_string) (x := t.rs) (esz := 1) (us := t.reads.map strV) (fun w hw => (hr w hw.drops).1) (strs_fl _) (by omega) (fun av _ => ?_) (hT := hTS)
      refine s_sv ?_
      refine s_all2 ?_ ?_
      · refine s_new fun tb => ?_
        refine s_sv ?_
        refine s_all2 ?_ ?_
        · refine s_app0 (b := tb) (E := ty_string) (x := t.ws) (esz := 1) (us := t.writes.map strV) (fun w hw => (hr w hw.drops).2.1) (strs_fl _) (by omega) (fun bv _ => ?_) (hT := hTS)
          refine s_sv ?_
          refine s_new fun ob => ?_
          refine s_sv ?_
          refine s_stN (b := ob) (l' := [.int .i64 t.kind, Sl.val av, Sl.val bv, Sl.val ⟨none, 0, 0⟩, .int .i64 t.to]) ?_
          exact s_end (leaf av bv ob)
        · refine s_new fun ob => ?_
          refine s_sv ?_
          refine s_app0 (b := tb) (E := ty_string) (x := t.ws) (esz := 1) (us := t.writes.map strV) (fun w hw => (hr w hw.drops).2.1) (strs_fl _) (by omega) (fun bv _ => ?_) (hT := hTS)
          refine s_sv ?_
          refine s_stN (b := ob) (l' := [.int .i64 t.kind, Sl.val av, Sl.val bv, Sl.val ⟨none, 0, 0⟩, .int .i64 t.to]) ?_
          exact s_end (leaf av bv ob)
      · refine s_new fun ob => ?_
        refine s_sv ?_
        refine s_new fun tb => ?_
        refine s_sv ?_
        refine s_app0 (b := tb) (E := ty_string) (x := t.ws) (esz := 1) (us := t.writes.map strV) (fun w hw => (hr w hw.drops).2.1) (strs_fl _) (by omega) (fun bv _ => ?_) (hT := hTS)
        refine s_sv ?_
        refine s_stN (b := ob) (l' := [.int .i64 t.kind, Sl.val av, Sl.val bv, Sl.val ⟨none, 0, 0⟩, .int .i64 t.to]) ?_
        exact s_end (leaf av bv ob)
    · refine s_new fun tb => ?_
      refine s_sv ?_
      refine s_all2 ?_ ?_
      · refine s_app0 (b := ta) (E := ty_string) (x := t.rs) (esz := 1) (us := t.reads.map strV) (fun w hw => (hr w hw.drops).1) (strs_fl _) (by omega) (fun av _ => ?_) (hT := hTS)
        refine s_sv ?_
        refine s_all2 ?_ ?_
        · refine s_app0 (b := tb) (E := ty_string) (x := t.ws) (esz := 1) (us := t.writes.map strV) (fun w hw => (hr w hw.drops).2.1) (strs_fl _) (by omega) (fun bv _ => ?_) (hT := hTS)
          refine s_sv ?_
          refine s_new fun ob => ?_
          refine s_sv ?_
          refine s_stN (b := ob) (l' := [.int .i64 t.kind, Sl.val av, Sl.val bv, Sl.val ⟨none, 0, 0⟩, .int .i64 t.to]) ?_
          exact s_end (leaf av bv ob)
        · refine s_new fun ob => ?_
          refine s_sv ?_
          refine s_app0 (b := tb) (E := ty_string) (x := t.ws) (esz := 1) (us := t.writes.map strV) (fun w hw => (hr w hw.drops).2.1) (strs_fl _) (by omega) (fun bv _ => ?_) (hT := hTS)
          refine s_sv ?_
          refine s_stN (b := ob) (l' := [.int .i64 t.kind, Sl.val av, Sl.val bv, Sl.val ⟨none, 0, 0⟩, .int .i64 t.to]) ?_
          exact s_end (leaf av bv ob)
      · refine s_new fun ob => ?_
        refine s_sv ?_
        refine s_app0 (b := ta) (E := ty_string) (x := t.rs) (esz := 1) (us := t.reads.map strV) (fun w hw => (hr w hw.drops).1) (strs_fl _) (by omega) (fun av _ => ?_) (hT := hTS)
        refine s_sv ?_
        refine s_app0 (b := tb) (E := ty_string) (x := t.ws) (esz := 1) (us := t.writes.map strV) (fun w hw => (hr w hw.drops).2.1) (strs_fl _) (by omega) (fun bv _ => ?_) (hT := hTS)
        refine s_sv ?_
        refine s_stN (b := ob) (l' := [.int .i64 t.kind, Sl.val av, Sl.val bv, Sl.val ⟨none, 0, 0⟩, .int .i64 t.to]) ?_
        exact s_end (leaf av bv ob)
    · refine s_new fun ob => ?_
      refine s_sv ?_
      refine s_all2 ?_ ?_
      · refine s_app0 (b := ta) (E := ty_string) (x := t.rs) (esz := 1) (us := t.reads.map strV) (fun w hw => (hr w hw.drops).1) (strs_fl _) (by omega) (fun av _ => ?_) (hT := hTS)
        refine s_sv ?_
        refine s_new fun tb => ?_
        refine s_sv ?_
        refine s_app0 (b := tb) (E := ty_string) (x := t.ws) (esz := 1) (us := t.writes.map strV) (fun w hw => (hr w hw.drops).2.1) (strs_fl _) (by omega) (fun bv _ => ?_) (hT := hTS)
        refine s_sv ?_
        refine s_stN (b := ob) (l' := [.int .i64 t.kind, Sl.val av, Sl.val bv, Sl.val ⟨none, 0, 0⟩, .int .i64 t.to]) ?_
        exact s_end (leaf av bv ob)
      · refine s_new fun tb => ?_
        refine s_sv ?_
        refine s_app0 (b := ta) (E := ty_string) (x := t.rs) (esz := 1) (us := t.reads.map strV) (fun w hw => (hr w hw.drops).1) (strs_fl _) (by omega) (fun av _ => ?_) (hT := hTS)
        refine s_sv ?_
        refine s_app0 (b := tb) (E := ty_string) (x := t.ws) (esz := 1) (us := t.writes.map strV) (fun w hw => (hr w hw.drops).2.1) (strs_fl _) (by omega) (fun bv _ => ?_) (hT := hTS)
        refine s_sv ?_
        refine s_stN (b := ob) (l' := [.int .i64 t.kind, Sl.val av, Sl.val bv, Sl.val ⟨none, 0, 0⟩, .int .i64 t.to]) ?_
        exact s_end (leaf av bv ob)
  · refine s_new fun tb => ?_
    refine s_sv ?_
    refine s_all2 ?_ ?_
    · refine s_new fun ta => ?_
      refine s_sv ?_
      refine s_all2 ?_ ?_
      · refine s_app0 (b := ta) (E := ty_string) (x := t.rs) (esz := 1) (us := t.reads.map strV) (fun w hw => (hr w hw.drops).1) (strs_fl _) (by omega) (fun av _ => ?_) (hT := hTS)
        refine s_sv ?_
        refine s_all2 ?_ ?_
        · refine s_app0 (b := tb) (E := ty_string) (x := t.ws) (esz := 1) (us := t.writes.map strV) (fun w hw => (hr w hw.drops).2.1) (strs_fl _) (by omega) (fun bv _ => ?_) (hT := hTS)
          refine s_sv ?_
          refine s_new fun ob => ?_
          refine s_sv ?_
          refine s_stN (b := ob) (l' := [.int .i64 t.kind, Sl.val av, Sl.val bv, Sl.val ⟨none, 0, 0⟩, .int .i64 t.to]) ?_
          exact s_end (leaf av bv ob)
        · refine s_new fun ob => ?_
          refine s_sv ?_
          refine s_app0 (b := tb) (E := ty_string) (x := t.ws) (esz := 1) (us := t.writes.map strV) (fun w hw => (hr w hw.drops).2.1) (strs_fl _) (by omega) (fun bv _ => ?_) (hT := hTS)
          refine s_sv ?_
          refine s_stN (b := ob) (l' := [.int .i64 t.kind, Sl.val av, Sl.val bv, Sl.val ⟨none, 0, 0⟩, .int .i64 t.to]) ?_
          exact s_end (leaf av bv ob)
      · refine s_new fun ob => ?_
        refine s_sv ?_
        refine s_app0 (b := ta) (E := ty_string) (x := t.rs) (esz := 1) (us := t.reads.map strV) (fun w hw => (hr w hw.drops).1) (strs_fl _) (by omega) (fun av _ => ?_) (hT := hTS)
        refine s_sv ?_
        refine s_app0 (b := tb) (E := ty_string) (x := t.ws) (esz := 1) (us := t.writes.map strV) (fun w hw => (hr w hw.drops).2.1) (strs_fl _) (by omega) (fun bv _ => ?_) (hT := hTS)
        refine s_sv ?_
        refine s_stN (b := ob) (l' := [.int .i64 t.kind, Sl.val av, Sl.val bv, Sl.val ⟨none, 0, 0⟩, .int .i64 t.to]) ?_
        exact s_end (leaf av bv ob)
    · refine s_new fun ob => ?_
      refine s_sv ?_
      refine s_new fun ta => ?_
      refine s_sv ?_
      refine s_app0 (b := ta) (E := ty_string) (x := t.rs) (esz := 1) (us := t.reads.map strV) (fun w hw => (hr w hw.drops).1) (strs_fl _) (by omega) (fun av _ => ?_) (hT := hTS)
      refine s_sv ?_
      refine s_app0 (b := tb) (E := ty_string) (x := t.ws) (esz := 1) (us := t.writes.map strV) (fun w hw => (hr w hw.drops).2.1) (strs_fl _) (by omega) (fun bv _ => ?_) (hT := hTS)
      refine s_sv ?_
      refine s_stN (b := ob) (l' := [.int .i64 t.kind, Sl.val av, Sl.val bv, Sl.val ⟨none, 0, 0⟩, .int .i64 t.to]) ?_
      exact s_end (leaf av bv ob)
  · refine s_new fun ob => ?_
    refine s_sv ?_
    refine s_all2 ?_ ?_
    · refine s_new fun ta => ?_
      refine s_sv ?_
      refine s_all2 ?_ ?_
      · refine s_app0 (b := ta) (E := ty_string) (x := t.rs) (esz := 1) (us := t.reads.map strV) (fun w hw => (hr w hw.drops).1) (strs_fl _) (by omega) (fun av _ => ?_) (hT := hTS)
        refine s_sv ?_
        refine s_new fun tb => ?_
        refine s_sv ?_
        refine s_app0 (b := tb) (E := ty_string) (x := t.ws) (esz := 1) (us := t.writes.map strV) (fun w hw => (hr w hw.drops).2.1) (strs_fl _) (by omega) (fun bv _ => ?_) (hT := hTS)
        refine s_sv ?_
        refine s_stN (b := ob) (l' := [.int .i64 t.kind, Sl.val av, Sl.val bv, Sl.val ⟨none, 0, 0⟩, .int .i64 t.to]) ?_
        exact s_end (leaf av bv ob)
      · refine s_new fun tb => ?_
        refine s_sv ?_
        refine s_app0 (b := ta) (E := ty_string) (x := t.rs) (esz := 1) (us := t.reads.map strV) (fun w hw => (hr w hw.drops).1) (strs_fl _) (by omega) (fun av _ => ?_) (hT := hTS)
        refine s_sv ?_
        refine s_app0 (b := tb) (E := ty_string) (x := t.ws) (esz := 1) (us := t.writes.map strV) (fun w hw => (hr w hw.drops).2.1) (strs_fl _) (by omega) (fun bv _ => ?_) (hT := hTS)
        refine s_sv ?_
        refine s_stN (b := ob) (l' := [.int .i64 t.kind, Sl.val av, Sl.val bv, Sl.val ⟨none, 0, 0⟩, .int .i64 t.to]) ?_
        exact s_end (leaf av bv ob)
    · refine s_new fun tb => ?_
      refine s_sv ?_
      refine s_new fun ta => ?_
      refine s_sv ?_
      refine s_app0 (b := ta) (E := ty_string) (x := t.rs) (esz := 1) (us := t.reads.map strV) (fun w hw => (hr w hw.drops).1) (strs_fl _) (by omega) (fun av _ => ?_) (hT := hTS)
      refine s_sv ?_
      refine s_app0 (b := tb) (E := ty_string) (x := t.ws) (esz := 1) (us := t.writes.map strV) (fun w hw => (hr w hw.drops).2.1) (strs_fl _) (by omega) (fun bv _ => ?_) (hT := hTS)
      refine s_sv ?_
      refine s_stN (b := ob) (l' := [.int .i64 t.kind, Sl.val av, Sl.val bv, Sl.val ⟨none, 0, 0⟩, .int .i64 t.to]) ?_
      exact s_end (leaf av bv ob)
end
end Go.Proofs.YtinpgiafjjibnaaGreat
/- Keys that a transaction doesn't declare play no part in what becomes of it. -/
namespace Go.Proofs.YtinpgiafjjibnaaGreat
open Go Go.Sep Go.Sep.Bt
set_option linter.unusedSimpArgs false
set_option linter.unusedVariables false
set_option maxRecDepth 100000

theorem now_eq {n : Nat} {M M' : Recs} {k : List UInt8} (h : sGet n M (bs k) = sGet n M' (bs k)) (W : WM) : nowM n M W k = nowM n M' W k := by
  unfold nowM; rw [h]
theorem step_eq {n : Nat} {M M' : Recs} {W : WM} {O : OM} {o : OpM} (h : o.kind = 7 ∨ sGet n M (bs o.key) = sGet n M' (bs o.key)) : stepW n M W O o = stepW n M' W O o := by
  rcases h with h | h
  · simp [stepW, h]
  · have h2 := now_eq h W
    simp only [stepW, addW, setW, h2]
theorem ops_eq {n : Nat} {M M' : Recs} : ∀ {xs : List OpX} {W : WM} {O : OM}, (∀ x ∈ xs, x.1.kind = 7 ∨ sGet n M (bs x.1.key) = sGet n M' (bs x.1.key)) → opsW n M xs W O = opsW n M' xs W O
  | [], _, _, _ => rfl
  | x :: xs, W, O, h => by
    rw [opsW_cons, opsW_cons, step_eq (h x List.mem_cons_self), ops_eq fun y hy => h y (List.mem_cons_of_mem _ hy)]
theorem move_eq {n : Nat} {M M' : Recs} {to : Int} : ∀ {ks : List (List UInt8)} {W : WM}, (∀ k ∈ ks, sGet n M (bs k) = sGet n M' (bs k)) → moveW n M to ks W = moveW n M' to ks W
  | [], _, _ => rfl
  | k :: ks, W, h => by
    rw [moveW_cons, moveW_cons, now_eq (h k List.mem_cons_self), move_eq fun y hy => h y (List.mem_cons_of_mem _ hy)]
theorem op_key {t : TxX} {o : OpM} (h : opRight t o = true) : o.kind = 7 ∨ o.key ∈ t.reads ++ t.writes := by
  unfold opRight at h
  split at h
  · cases h
  split at h
  · exact .inl (by assumption)
  split at h
  · cases h
  · rename_i h1
    refine .inr ?_
    by_cases h2 : o.key ∈ t.writes
    · simp [h2]
    · by_cases h3 : o.key ∈ t.reads
      · simp [h3]
      · exact absurd ⟨h2, .inl h3⟩ h1
theorem run_eq {n : Nat} {M M' : Recs} {t : TxX} {g : Int} (hr : rightT g t = true) (h : ∀ k ∈ t.reads ++ t.writes, sGet n M (bs k) = sGet n M' (bs k)) : runW n M t = runW n M' t := by
  unfold runW
  split
  · rw [move_eq fun k hk => h k (List.mem_append_right _ hk)]
  · rename_i hk
    exact ops_eq fun x hx => (op_key (right_ops hr hk x hx)).imp id (h _)
theorem other_eq {n : Nat} {M : Recs} {key k : ByteArray} {xs : List UInt8} {to : Int} (h : k ≠ key) : sGet n M k = sGet n (sMove n (sPut n M key xs) key to).1 k := by
  unfold sMove
  split
  · rw [sPut, sGet_set, if_neg h]
  split
  · rw [sPut, sGet_set, if_neg h]
  · rw [sGet_put, if_neg h, sPut, sGet_set, if_neg h]
section
variable {B : World} {Γ Δ : List HProp} {q : Bool → K}
theorem stars_rdO {O : OX} {x : (Bool × List UInt8) × Sl} {w : World} (hx : x ∈ O) (h : Holds B (Sep.stars (O.map oB) :: Γ) w) : RdB w x.2 x.1.2 := by
  obtain ⟨Δ, h2⟩ := stars_mem hx h
  exact rdB_of h2
theorem stars_rdW {R : WX} {x : List UInt8 × (Rec × Sl)} {w : World} (hx : x ∈ R) (h : Holds B (Sep.stars (R.map wB) :: Γ) w) : RdB w x.2.2 x.2.1.val := by
  obtain ⟨Δ, h2⟩ := stars_mem hx h
  exact rdB_of h2
end
end Go.Proofs.YtinpgiafjjibnaaGreat

namespace Go.Proofs.YtinpgiafjjibnaaGreat
open Go Go.Sep Go.RowKit
end Go.Proofs.YtinpgiafjjibnaaGreat
/- Plain forms of functions, and that their code comes to them (package law07_EvalRuns). -/
namespace Go.Proofs.YtinpgiafjjibnaaGreat
open Go Go.Sep
set_option linter.unusedVariables false
set_option linter.unusedSimpArgs false
set_option maxRecDepth 100000
set_option maxHeartbeats 4000000
attribute [local irreducible] G Gp Cx Tx Ex Sx Dx Ox Ax Lx Rx Fx Bx Bj Al Do Ld LdN St StN New CallF Ar DoU Rd Rd2 Pu Cd Ite Fv CallV CallY Ans0 Ans1 Ans2 Ans3 Ans4 Ans5 Ext Dead Dr WithS Sv LdS LdNS RdS Rd2S Nn Idx IdxA IdxS Fld Bld Slc SlcS Cat All LoopK RangeF RangeJ TakeD
namespace F_IRLaw07EvalRuns
instance at_26 : AT Tryz.prog 26 5 := ⟨by kernel_rfl⟩
instance at_38 : AT Tryz.prog 38 2 := ⟨by kernel_rfl⟩
instance cb_10 : CB Tryz.prog 10 := ⟨by kernel_rfl⟩
instance cb_11 : CB Tryz.prog 11 := ⟨by kernel_rfl⟩
instance cb_12 : CB Tryz.prog 12 := ⟨by kernel_rfl⟩
instance cb_13 : CB Tryz.prog 13 := ⟨by kernel_rfl⟩
instance cb_14 : CB Tryz.prog 14 := ⟨by kernel_rfl⟩
instance cb_15 : CB Tryz.prog 15 := ⟨by kernel_rfl⟩
instance cb_16 : CB Tryz.prog 16 := ⟨by kernel_rfl⟩
instance cb_17 : CB Tryz.prog 17 := ⟨by kernel_rfl⟩
instance cb_18 : CB Tryz.prog 18 := ⟨by kernel_rfl⟩
instance cb_5 : CB Tryz.prog 5 := ⟨by kernel_rfl⟩
instance cb_6 : CB Tryz.prog 6 := ⟨by kernel_rfl⟩
instance cb_7 : CB Tryz.prog 7 := ⟨by kernel_rfl⟩
instance cb_8 : CB Tryz.prog 8 := ⟨by kernel_rfl⟩
instance cb_9 : CB Tryz.prog 9 := ⟨by kernel_rfl⟩
instance ct_36 : CT Tryz.prog 36 := ⟨by kernel_rfl⟩
instance ct_39 : CT Tryz.prog 39 := ⟨by kernel_rfl⟩
instance ct_52 : CT Tryz.prog 52 := ⟨by kernel_rfl⟩
instance ft_38_1 : FT Tryz.prog 38 1 1 1 := ⟨by kernel_rfl⟩
instance ft_45_1 : FT Tryz.prog 45 1 1 1 := ⟨by kernel_rfl⟩
instance ft_54_1 : FT Tryz.prog 54 1 1 1 := ⟨by kernel_rfl⟩
instance ft_57_1 : FT Tryz.prog 57 1 1 1 := ⟨by kernel_rfl⟩
instance ft_59_1 : FT Tryz.prog 59 1 1 4 := ⟨by kernel_rfl⟩
instance mx : MX Tryz.prog := ⟨mixed⟩
instance sl_36 : SLT Tryz.prog 36 54 2 := ⟨by kernel_rfl⟩
instance sl_39 : SLT Tryz.prog 39 59 5 := ⟨by kernel_rfl⟩
instance sl_52 : SLT Tryz.prog 52 5 1 := ⟨by kernel_rfl⟩
instance sz_26 : SZ Tryz.prog 26 5 := ⟨by kernel_rfl⟩
instance sz_38 : SZ Tryz.prog 38 2 := ⟨by kernel_rfl⟩
instance sz_5 : SZ Tryz.prog 5 1 := ⟨by kernel_rfl⟩
instance un_30 : UN Tryz.prog 30 (.pointer 88) := ⟨Tryz.underlying30⟩
instance zt_26 : ZT Tryz.prog 26 (.agg #[(.int .i64 0), (Sl.val ⟨none, 0, 0⟩), (Sl.val ⟨none, 0, 0⟩), (Sl.val ⟨none, 0, 0⟩), (.int .i64 0)]) := ⟨Tryz.t26, by kernel_rfl, by kernel_rfl⟩
instance zt_38 : ZT Tryz.prog 38 (.agg #[(.int .i64 0), (Sl.val ⟨none, 0, 0⟩)]) := ⟨Tryz.t38, by kernel_rfl, by kernel_rfl⟩
end F_IRLaw07EvalRuns
def law07_EvalRuns.b5 (Q : Bool → K) (X4 : Int → K) (X5 : Int → K) (s5_5 : (Option Addr)) (m6_5 : (Option Addr)) (r8_5 : Addr) (w9_5 : Sl) (i12_5 : Int) (t80_5 : Int) (t81_5 : Int) (t90_5 : Int) (t91_5 : Int) : K :=
  Ite (decide (t91_5 < t90_5))
    (Ld (r8_5.add 1) Sl.val fun t95 =>
    Idx t95 i12_5 2 fun t97 =>
    Ld (t97.add 1) Sl.val fun t99 =>
    Idx t99 t91_5 1 fun t101 =>
    St t101 (.int .u8 238) <|
    Ar (IntKind.wrap .i64 (t91_5 + 1)) fun t102 =>
    X5 t102)
    (Ar (IntKind.wrap .i64 (t81_5 + 1)) fun t103 =>
    X4 t103)
def law07_EvalRuns.b7 (Q : Bool → K) (X4 : Int → K) (X6 : Int → K) (X7 : Int → K) (s5_7 : (Option Addr)) (m6_7 : (Option Addr)) (w9_7 : Sl) (i14_7 : Int) (t105_7 : Int) (t106_7 : Int) (t115_7 : Int) (t116_7 : Int) : K :=
  Ite (decide (t116_7 < t115_7))
    (Idx w9_7 i14_7 5 fun t121 =>
    Ld ((t121.add 1).add 1) Sl.val fun t124 =>
    Idx t124 t116_7 1 fun t126 =>
    St t126 (.int .u8 238) <|
    Ar (IntKind.wrap .i64 (t116_7 + 1)) fun t127 =>
    X7 t127)
    (Ar (IntKind.wrap .i64 (t106_7 + 1)) fun t128 =>
    X6 t128)
def law07_EvalRuns.b6 (Q : Bool → K) (X4 : Int → K) (X6 : Int → K) (s5_6 : (Option Addr)) (m6_6 : (Option Addr)) (w9_6 : Sl) (t105_6 : Int) (t106_6 : Int) : K :=
  Ite (decide (t106_6 < t105_6))
    (Idx w9_6 t106_6 5 fun t111 =>
    Ld ((t111.add 1).add 1) Sl.val fun t114 =>
    LoopK (α := Int) (fun X x => law07_EvalRuns.b7 Q X4 X6 X s5_6 m6_6 w9_6 t106_6 t105_6 t106_6 (t114.n : Int) x) 0)
    (Dr <| WithS fun S =>
    Nn m6_6 fun t132 =>
    LdS S (t132.add 1) Sl.val fun t134 =>
    store_Store_Rows.call s5_6 fun t130 =>
    Sv S <|
    ref06_Same.call t130 t134 fun t135 =>
    Q t135)
def law07_EvalRuns.b4 (Q : Bool → K)  (X4 : Int → K) (s5_4 : (Option Addr)) (m6_4 : (Option Addr)) (r8_4 : Addr) (w9_4 : Sl) (t80_4 : Int) (t81_4 : Int) : K :=
  Ite (decide (t81_4 < t80_4))
    (Ld (r8_4.add 1) Sl.val fun t85 =>
    Idx t85 t81_4 2 fun t87 =>
    Ld (t87.add 1) Sl.val fun t89 =>
    LoopK (α := Int) (fun X x => law07_EvalRuns.b5 Q X4 X s5_4 m6_4 r8_4 w9_4 t81_4 t80_4 t81_4 (t89.n : Int) x) 0)
    (LoopK (α := Int) (fun X x => law07_EvalRuns.b6 Q X4 X s5_4 m6_4 w9_4 (w9_4.n : Int) x) 0)
def law07_EvalRuns.s3 (Q : Bool → K)  (s5_3 : (Option Addr)) (m6_3 : (Option Addr)) (r8_3 : Addr) (w9_3 : Sl) (rows11_3 : Sl) (t71_3 : Bool) : K :=
  Ite t71_3
    (Q false)
    (eval_Apply.call s5_3 w9_3 <|
    ref07_Apply.call m6_3 rows11_3 <|
    Ld (r8_3.add 1) Sl.val fun t79 =>
    LoopK (α := Int) (fun X x => law07_EvalRuns.b4 Q X s5_3 m6_3 r8_3 w9_3 (t79.n : Int) x) 0)
def law07_EvalRuns.s2 (Q : Bool → K)  (t3_2 : Addr) (s5_2 : (Option Addr)) (m6_2 : (Option Addr)) (r8_2 : Addr) (w9_2 : Sl) (t52_2 : Bool) : K :=
  Ite t52_2
    (Q false)
    (LdN t3_2 5 fun t53 =>
    ref05_Right.call t53 3 fun t54 =>
    Ite (!t54)
      (Q true)
      (LdN t3_2 5 fun t58 =>
      ref07_Run.call m6_2 t58 fun t59x0 t59x1 =>
      New 38 #[(.int .i64 0), (Sl.val ⟨none, 0, 0⟩)] fun want10 =>
      StN want10 2 t59x0 <|
      LdN r8_2 2 fun t62 =>
      LdN want10 2 fun t63 =>
      ref07_Same.call t62 t63 fun t64 =>
      Ite (!t64)
        (law07_EvalRuns.s3 Q s5_2 m6_2 r8_2 w9_2 t59x1 true)
        (ref06_Same.call w9_2 t59x1 fun t69 =>
        law07_EvalRuns.s3 Q s5_2 m6_2 r8_2 w9_2 t59x1 (!t69))))
def law07_EvalRuns.s1 (Q : Bool → K)  (cells0_1 : Sl) (t3_1 : Addr) (t23_1 : Bool) : K :=
  Ite t23_1
    (Q true)
    (law07_filled.call cells0_1 fun t26x0 t26x1 =>
    Ite ((t26x0).isNone)
      (Q false)
      (LdN t3_1 5 fun t31 =>
      ref05_Copy.call t31 fun t32 =>
      New 26 #[(.int .i64 0), (Sl.val ⟨none, 0, 0⟩), (Sl.val ⟨none, 0, 0⟩), (Sl.val ⟨none, 0, 0⟩), (.int .i64 0)] fun in7 =>
      StN in7 5 t32 <|
      LdN in7 5 fun t35 =>
      eval_Run.call t26x0 t35 fun t36x0 t36x1 =>
      New 38 #[(.int .i64 0), (Sl.val ⟨none, 0, 0⟩)] fun r8 =>
      StN r8 2 t36x0 <|
      Dr <| WithS fun S =>
      Nn t26x1 fun t42 =>
      LdS S (t42.add 1) Sl.val fun t44 =>
      store_Store_Rows.call t26x0 fun t40 =>
      Sv S <|
      ref06_Same.call t40 t44 fun t45 =>
      Sv S <|
      Ite (!t45)
        (law07_EvalRuns.s2 Q t3_1 t26x0 (some t42) r8 t36x1 true)
        (LdNS S in7 5 fun t48 =>
        LdNS S t3_1 5 fun t49 =>
        ref05_Same.call t48 t49 fun t50 =>
        law07_EvalRuns.s2 Q t3_1 t26x0 (some t42) r8 t36x1 (!t50))))
def law07_EvalRuns (cells0 : Sl) (t1 : (Array Value)) (Q : Bool → K) : K :=
  New 26 t1 fun t3 =>
  law07_speaks.call  fun t16 =>
  Ite (!t16)
    (Q false)
    (law07_great.call cells0 fun t19 =>
    Ite t19
      (law07_EvalRuns.s1 Q cells0 t3 true)
      (LdN t3 5 fun t21 =>
      ref05_Great.call t21 fun t22 =>
      law07_EvalRuns.s1 Q cells0 t3 t22))
theorem law07_EvalRuns_ok (cells0 : Sl) (t1 : (Array Value)) (Q : Bool → K) (w : World) (h : law07_EvalRuns cells0 t1 Q w) : law07_EvalRuns.call cells0 t1 Q w := by
  have hL23 : ∀ (X4 : Int → K), XH 20 X4 → ∀ (s5_5 : (Option Addr)) (m6_5 : (Option Addr)) (r8_5 : Addr) (w9_5 : Sl) (i12_5 : Int) (t80_5 : Int) (t81_5 : Int) (t90_5 : Int), LH 23 (fun x : Int => [(5, (.pointer s5_5)), (6, (.pointer m6_5)), (8, (.pointer (some r8_5))), (9, (Sl.val w9_5)), (12, (.int .i64 i12_5)), (80, (.int .i64 t80_5)), (81, (.int .i64 t81_5)), (90, (.int .i64 t90_5)), (91, (.int .i64 x))]) (fun X x => law07_EvalRuns.b5 Q X4 X s5_5 m6_5 r8_5 w9_5 i12_5 t80_5 t81_5 t90_5 x) := by intros; exact ⟨⟩
  have hL32 : ∀ (X4 : Int → K), XH 20 X4 → ∀ (X6 : Int → K), XH 29 X6 → ∀ (s5_7 : (Option Addr)) (m6_7 : (Option Addr)) (w9_7 : Sl) (i14_7 : Int) (t105_7 : Int) (t106_7 : Int) (t115_7 : Int), LH 32 (fun x : Int => [(5, (.pointer s5_7)), (6, (.pointer m6_7)), (9, (Sl.val w9_7)), (14, (.int .i64 i14_7)), (105, (.int .i64 t105_7)), (106, (.int .i64 t106_7)), (115, (.int .i64 t115_7)), (116, (.int .i64 x))]) (fun X x => law07_EvalRuns.b7 Q X4 X6 X s5_7 m6_7 w9_7 i14_7 t105_7 t106_7 t115_7 x) := by intros; exact ⟨⟩
  have hD37 : DH 37 2 [6] (.s [0, 2, 3, 4, 5] (.a [(1, 1, .a [(6, 0, .s [7] .e)])])) := by intros; exact ⟨⟩
  have hL29 : ∀ (X4 : Int → K), XH 20 X4 → ∀ (s5_6 : (Option Addr)) (m6_6 : (Option Addr)) (w9_6 : Sl) (t105_6 : Int), LH 29 (fun x : Int => [(5, (.pointer s5_6)), (6, (.pointer m6_6)), (9, (Sl.val w9_6)), (105, (.int .i64 t105_6)), (106, (.int .i64 x))]) (fun X x => law07_EvalRuns.b6 Q X4 X s5_6 m6_6 w9_6 t105_6 x) := by intros; exact ⟨⟩
  have hL20 : ∀ (s5_4 : (Option Addr)) (m6_4 : (Option Addr)) (r8_4 : Addr) (w9_4 : Sl) (t80_4 : Int), LH 20 (fun x : Int => [(5, (.pointer s5_4)), (6, (.pointer m6_4)), (8, (.pointer (some r8_4))), (9, (Sl.val w9_4)), (80, (.int .i64 t80_4)), (81, (.int .i64 x))]) (fun X x => law07_EvalRuns.b4 Q X s5_4 m6_4 r8_4 w9_4 t80_4 x) := by intros; exact ⟨⟩
  have hJ16 : JH 16 fun D => ∃ (s5_3 : (Option Addr)) (m6_3 : (Option Addr)) (r8_3 : Addr) (w9_3 : Sl) (rows11_3 : Sl), D [(5, (.pointer s5_3)), (6, (.pointer m6_3)), (8, (.pointer (some r8_3))), (9, (Sl.val w9_3)), (11, (Sl.val rows11_3))] (fun C => ∀ (t71_3 : Bool), C [(5, (.pointer s5_3)), (6, (.pointer m6_3)), (8, (.pointer (some r8_3))), (9, (Sl.val w9_3)), (11, (Sl.val rows11_3)), (71, (.bool t71_3))] (law07_EvalRuns.s3 Q s5_3 m6_3 r8_3 w9_3 rows11_3 t71_3)) := by intros; exact ⟨fun _ ⟨_, _, _, _, _, h⟩ => ⟨_, _, h⟩⟩
  have hJ11 : JH 11 fun D => ∃ (t3_2 : Addr) (s5_2 : (Option Addr)) (m6_2 : (Option Addr)) (r8_2 : Addr) (w9_2 : Sl), D [(3, (.pointer (some t3_2))), (5, (.pointer s5_2)), (6, (.pointer m6_2)), (8, (.pointer (some r8_2))), (9, (Sl.val w9_2))] (fun C => ∀ (t52_2 : Bool), C [(3, (.pointer (some t3_2))), (5, (.pointer s5_2)), (6, (.pointer m6_2)), (8, (.pointer (some r8_2))), (9, (Sl.val w9_2)), (52, (.bool t52_2))] (law07_EvalRuns.s2 Q t3_2 s5_2 m6_2 r8_2 w9_2 t52_2)) := by intros; exact ⟨fun _ ⟨_, _, _, _, _, h⟩ => ⟨_, _, h⟩⟩
  have hD10 : DH 10 2 [11] (.s [0, 2, 3, 4, 5] (.a [(1, 1, .a [(6, 1, .s [7, 8] (.i (.s [9, 10, 11, 12, 13] .e) (.s [9, 10] (.a [(11, 0, .s [12, 13] .e)]))))])])) := by intros; exact ⟨⟩
  have hJ4 : JH 4 fun D => ∃ (cells0_1 : Sl) (t3_1 : Addr), D [(0, (Sl.val cells0_1)), (3, (.pointer (some t3_1)))] (fun C => ∀ (t23_1 : Bool), C [(0, (Sl.val cells0_1)), (3, (.pointer (some t3_1))), (23, (.bool t23_1))] (law07_EvalRuns.s1 Q cells0_1 t3_1 t23_1)) := by intros; exact ⟨fun _ ⟨_, _, h⟩ => ⟨_, _, h⟩⟩
  exact g_walk 136 h Tryz.func3
end Go.Proofs.YtinpgiafjjibnaaGreat
/- EvalRuns: what becomes of any right transaction over any records is told exactly. -/
namespace Go.Proofs.YtinpgiafjjibnaaGreat
open Go Go.Sep Go.Sep.Bt
set_option linter.unusedSimpArgs false
set_option linter.unusedVariables false
set_option maxRecDepth 100000

/-- Values are never great. -/
theorem nowM_mset {n : Nat} {M : Recs} {W : WM} {k : TX} {r : Rec} {N : Nat} (h : ∀ k, (nowM n M W k).val.length ≤ N) (hr : r.val.length ≤ N) : ∀ k', (nowM n M (mset k r W) k').val.length ≤ N := fun k' => by
  rw [nowM_set]
  split
  · exact hr
  · exact h k'
theorem add_small {n : Nat} {M : Recs} {W : WM} {k : TX} {d : Int} {N : Nat} (h8 : 8 ≤ N) (h : ∀ k, (nowM n M W k).val.length ≤ N) : ∀ k', (nowM n M (addW n M W k d).1 k').val.length ≤ N := by
  unfold addW
  by_cases h1 : (nowM n M W k).has = true ∧ (nowM n M W k).val.length ≠ 8
  · rw [if_pos h1]; exact h
  rw [if_neg h1]
  generalize (if (nowM n M W k).has then numOf (nowM n M W k).val else 0) = a
  cases overS a d
  · rw [if_neg (by simp)]
    exact nowM_mset h (by show (valOf (a + d)).length ≤ N; rw [valOf_len]; exact h8)
  · rw [if_pos rfl]; exact h
theorem step_small {n : Nat} {M : Recs} {W : WM} {O : OM} {o : OpM} {N : Nat} (h8 : 8 ≤ N) (ho : o.val.length ≤ N) (h : ∀ k, (nowM n M W k).val.length ≤ N) (hO : ∀ p ∈ O, p.2.length ≤ N) :
    (∀ k, (nowM n M (stepW n M W O o).1 k).val.length ≤ N) ∧ ∀ p ∈ (stepW n M W O o).2.1, p.2.length ≤ N := by
  have hadd : ∀ {x : Bool × List UInt8}, x.2.length ≤ N → ∀ p ∈ O ++ [x], p.2.length ≤ N := fun {x} hx p hp => by
    rcases List.mem_append.1 hp with hp | hp
    · exact hO p hp
    · rw [List.mem_singleton.1 hp]; exact hx
  unfold stepW
  split
  · exact ⟨h, hadd (h _)⟩
  split
  · exact ⟨h, hadd ho⟩
  split
  · exact ⟨nowM_mset h ho, hO⟩
  split
  · exact ⟨nowM_mset h (by simp), hO⟩
  split
  · exact ⟨h, hO⟩
  split
  · exact ⟨h, hO⟩
  split
  · exact ⟨add_small h8 h, hO⟩
  · exact ⟨h, hO⟩
theorem ops_small {n : Nat} {M : Recs} {N : Nat} (h8 : 8 ≤ N) : ∀ {xs : List OpX} {W : WM} {O : OM}, (∀ x ∈ xs, x.1.val.length ≤ N) → (∀ k, (nowM n M W k).val.length ≤ N) → (∀ p ∈ O, p.2.length ≤ N) → ∀ p ∈ (opsW n M xs W O).2.1, p.2.length ≤ N
  | [], W, O, _, _, hO => hO
  | x :: xs, W, O, hx, h, hO => by
    obtain ⟨h1, h2⟩ := step_small h8 (hx x List.mem_cons_self) h hO
    rw [opsW_cons]
    split
    · exact h2
    · exact ops_small h8 (fun y hy => hx y (List.mem_cons_of_mem _ hy)) h1 h2
theorem run_small {n : Nat} {M : Recs} {t : TxX} (hM : ∀ x ∈ M, x.2.ok) (ht : ∀ x ∈ t.ops, x.1.val.length ≤ 1000000000) : ∀ p ∈ (runW n M t).2.1, p.2.length ≤ 1000000000 := by
  unfold runW
  split
  · simp
  · refine ops_small (by omega) ht (fun k => ?_) (by simp)
    show ((sGet n M (bs k)).val.length ≤ 1000000000)
    unfold sGet
    cases hg : getM M (bs k) with
    | none => simp
    | some r => exact (hM _ (getM_mem hg)).2.2
/-- Some bytes of one's own. -/
abbrev anyB (s : Sl) : HProp := Sep.ex fun v : List UInt8 => Sep.stars [pur (v.length ≤ 1000000000), Bytes ty_uint8 s v]
section
variable {B : World} {Γ Δ : List HProp} {q : Bool → K} {st n : Nat} {M : Recs}
/-- Run, whatever becomes of it. -/
theorem eval_RunU_hg {Q : Array Value → Sl → K} {t : TxX} (htx : txOk t) (ht : ∀ w, Holds B Γ w → txRd w t)
    (h : ∀ (e : Int) (os : Sl) (O : OX) (rows : Sl) (R : WX), e = (runW n M t).2.2 → (e ≠ 0 → O = [] ∧ R = []) → (e = 0 → O.map Prod.fst = (runW n M t).2.1 ∧ modW R = sortW (runW n M t).1) → (∀ p ∈ R, p.2.1.ok) → HG B (SlC ty_api_Out 2 os (O.flatMap oF) :: Sep.stars (O.map oB) :: SlC ty_api_Row 5 rows (R.flatMap rowF) :: Sep.stars (R.map wB) :: StoreR st n M :: Γ) (Q #[.int .i64 e, os.val] rows)) :
    HG B (StoreR st n M :: Γ) (eval_Run.call (some ⟨st, 0, none⟩) (txL t).toArray Q) := by
  refine eval_Run_hg (t := t) htx ht (fun hb => ?_) fun hz os O rows R hO hR hRok => ?_
  · refine fun w hw => ?_
    have h1 : Holds B (SlC ty_api_Out 2 ⟨none, 0, 0⟩ (([] : OX).flatMap oF) :: Sep.stars (([] : OX).map oB) :: SlC ty_api_Row 5 ⟨none, 0, 0⟩ (([] : WX).flatMap rowF) :: Sep.stars (([] : WX).map wB) :: _) w := ((hw.starsNil.nilSl ty_api_Row 5).starsNil).nilSl ty_api_Out 2
    exact h _ _ [] _ [] rfl (fun _ => ⟨rfl, rfl⟩) (fun h0 => absurd h0 hb) (by simp) w h1
  · exact h 0 os O rows R hz.symm (fun h0 => absurd rfl h0) (fun _ => ⟨hO, hR⟩) hRok
theorem s_any {s : Sl} {k : K} (h : ∀ v : List UInt8, v.length ≤ 1000000000 → HG B (Bytes ty_uint8 s v :: Γ) k) : HG B (anyB s :: Γ) k := s_ex fun v => s_flat <| s_pur fun h1 => h v h1
theorem s_mkAny {s : Sl} {v : List UInt8} {k : K} (h1 : v.length ≤ 1000000000) (h : HG B (anyB s :: Γ) k) : HG B (Bytes ty_uint8 s v :: Γ) k := fun w hw => by
  refine h w ?_
  have h3 : Holds B (Sep.stars [pur (v.length ≤ 1000000000), Bytes ty_uint8 s v] :: Γ) w := Holds.flat.2 (Holds.pur.2 ⟨h1, hw⟩)
  exact h3.imp fun g hg => ⟨v, hg⟩
theorem s_mapImp {α : Type} {F G : α → HProp} : ∀ {L : List α} {Γ : List HProp} {k : K}, (∀ x ∈ L, ∀ (Γ' : List HProp) (k' : K), HG B (G x :: Γ') k' → HG B (F x :: Γ') k') → HG B (Sep.stars (L.map G) :: Γ) k → HG B (Sep.stars (L.map F) :: Γ) k
  | [], Γ, k, _, h => h
  | x :: L, Γ, k, h1, h => by
    refine s_flat (Δ := F x :: L.map F) ?_
    refine h1 x List.mem_cons_self _ _ ?_
    refine fun w hw => ?_
    refine (s_mapImp (F := F) (G := G) (L := L) (Γ := G x :: Γ) (fun y hy => h1 y (List.mem_cons_of_mem _ hy)) ?_) w (Holds.flat.2 (hw.perm List.perm_middle.symm))
    exact fun w hw => h w (Holds.flat.2 ((Holds.flat.1 hw).perm List.perm_middle))
theorem s_toAny {α : Type} {f : α → Sl} {v : α → List UInt8} {L : List α} {k : K} (hv : ∀ x ∈ L, (v x).length ≤ 1000000000) (h : HG B (Sep.stars (L.map fun x => anyB (f x)) :: Γ) k) : HG B (Sep.stars (L.map fun x => Bytes ty_uint8 (f x) (v x)) :: Γ) k :=
  s_mapImp (fun x hx Γ' k' h => s_mkAny (hv x hx) h) h
theorem storeR_ok {k : K} (h : (∀ x ∈ M, x.2.ok) → HG B (StoreR st n M :: Γ) k) : HG B (StoreR st n M :: Γ) k := s_store fun t X hM hok h1 h3 => by
  subst hM
  exact s_mkStore hok h1 h3 (h hok)
/-- A slice's bytes are written over, one after the other. -/
theorem s_set1 {s : Sl} {v : List UInt8} {i : Nat} {k : K} (hi : i < s.n) (h : ∀ v', v'.length = v.length → HG B (Bytes ty_uint8 s v' :: Δ) k) [p : OwnS s Γ (Bytes ty_uint8 s v) Δ] : HG B Γ (St (elA s i 1) (.int .u8 238) k) := by
  refine fun w hw => ?_
  have hw1 : Holds B (SlC ty_uint8 1 s (v.map byteV) :: Δ) w := hw.perm p.perm
  refine Sep.hg hw1 ?_
  clear hw1 hw w
  refine s_cap s fun c1 c2 c3 c4 => ?_
  have hvl : v.length = s.n := by simpa using c1
  rw [← add0 (elA s i 1)]
  refine s_stE (s := s) (i := i) (off := 0) ?_ (by simp; omega)
  have e : (v.map byteV).set (i * 1 + 0) (.int .u8 238) = (v.set i 238).map byteV := by
    rw [List.map_set]; simp; rfl
  rw [e]
  exact h _ (by simp)
theorem s_ldA2 {α : Type} {a : Addr} {cs : List Value} {c : α → Value} {x : α} {k : α → K} (hn : ∀ w, Holds B Γ w → RdN w a cs.toArray) (hv : cs[2]? = some (c x)) (h : HG B Γ (k x)) : HG B Γ (Ld ((a.add 1).add 1) c k) := fun w hw => ⟨x, by
  have := hn w hw 2 (by have := (List.getElem?_eq_some_iff.1 hv).1; simpa using this)
  have e : (a.add 1).add 1 = a.add 2 := by simp [Addr.add]
  rw [e, this]; simpa using hv, h w hw⟩
/-- One of some parts comes to the front. -/
theorem s_memO {α : Type} {F : α → HProp} {L : List α} {x : α} {k : K} (hx : x ∈ L) (h : ∀ Z : HProp, (∀ {Γ' : List HProp} {k : K}, HG B (Sep.stars (L.map F) :: Γ') k → HG B (F x :: Z :: Γ') k) → HG B (F x :: Z :: Γ) k) : HG B (Sep.stars (L.map F) :: Γ) k := by
  obtain ⟨A, C, rfl⟩ := List.append_of_mem hx
  exact s_mid (F := F) (h _ fun h => s_unmid (F := F) h)
end
section
variable {B : World} {Γ Δ : List HProp} {q : Bool → K}
theorem EvalRuns_hg {L : List CellX} {s : Sl} {t : TxX} (hL : RdC B s 4 (L.flatMap cellF)) (hLv : ∀ x ∈ L, RdB B x.2 x.1.val) (ht : txRd B t) (htn : ∀ x ∈ t.ops, -9223372036854775808 ≤ x.1.n ∧ x.1.n ≤ 9223372036854775807) (h : HG B Γ (q true)) : HG B Γ (law07_EvalRuns.call s (txL t).toArray q) := fun w hw => by
  refine law07_EvalRuns_ok _ _ _ _ ?_
  refine Sep.hg hw ?_
  clear hw w
  unfold law07_EvalRuns
  refine s_new fun t3 => ?_
  have out : HG B (blk t3 (.cells (txL t).toArray ty_api_Txn (0, 0)) :: Γ) (law07_EvalRuns.s1 q s ⟨t3, 0, none⟩ true) := by
    unfold law07_EvalRuns.s1
    exact s_t (s_end h)
  refine speaks7 ?_
  refine s_f ?_
  refine great7_hg (L := L) (fun w hw => hL.old hw) (fun x hx w hw => (hLv x hx).old hw) ?_
  refine s_ite (fun hb => out) fun hb => ?_
  have hcg : ¬ CGreat L := by simpa only [decide_eq_false_iff_not] using hb
  repeat refine s_nx ?_
  refine great05_hg (t := t) (fun w hw => txRd_old ht hw) ?_
  by_cases htg : GreatP t
  · rw [decide_eq_true htg]; exact out
  rw [decide_eq_false htg]
  have hok := txOk_of htg htn
  have hsm := htg
  simp only [GreatP, not_or, Nat.not_lt, not_exists, not_and] at hsm
  obtain ⟨l1, l2, l3, l4, l5, l6⟩ := hsm
  unfold law07_EvalRuns.s1
  refine s_f ?_
  refine filledI_hg (I := Wf 3) Wf.nil (fun M k v h => h.put k v) (fun M k t h => h.move k t) (L := L) (fun w hw => hL.old hw) (fun x hx w hw => (hLv x hx).old hw) hcg fun st sd M P hWf hM => ?_
  refine s_f ?_
  repeat refine s_nx ?_
  refine copy05_hg (t := t) (fun w hw => txRd_old ht hw) ⟨by omega, by omega, by omega, fun x hx => by have := (l6 x hx).2; omega⟩ fun t' hsame => ?_
  have hok' : txOk t' := by
    obtain ⟨e1, e2, e3, e4, e5⟩ := hsame
    have hol : t'.ops.length = t.ops.length := by have := congrArg List.length e5; simpa using this
    obtain ⟨k1, k2, k3, k4, k5, k6⟩ := hok
    refine ⟨by rw [e4]; exact k1, fun x hx => ?_, by omega, by rw [e4]; exact k4, by rw [e3]; exact k5, by rw [e3]; exact k6⟩
    have hx2 : x.1 ∈ t.ops.map Prod.fst := by rw [← e5]; exact List.mem_map.2 ⟨x, hx, rfl⟩
    obtain ⟨y, hy, e⟩ := List.mem_map.1 hx2
    rw [← e]; exact k2 y hy
  have hrun : runW 3 M t' = runW 3 M t := runW_same hsame
  refine s_new fun in7 => ?_
  refine s_stN (b := in7) (l' := txL t') ?_
  refine s_ldN (b := in7) (l' := txL t') ?_
  refine s_end (Δ := StoreR st 3 M :: txC t' (blk in7 (.cells (txL t').toArray ty_api_Txn (0, 0)) :: Ref6 sd 3 M P :: poolR P :: blk t3 (.cells (txL t).toArray ty_api_Txn (0, 0)) :: Γ)) ?_
  refine eval_RunU_hg (t := t') hok' (fun w hw => txC_rd hw) fun e os O rows R he hbad hgood hRok => ?_
  rw [hrun] at he hgood
  refine s_new fun r8 => ?_
  refine s_stN (b := r8) (l' := [.int .i64 e, os.val]) ?_
  refine s_own sd ?_
  refine s_ref6 fun rs X hf => ?_
  refine s_dr ?_
  refine s_wsD [blk sd (.cells [.int .i64 (3 : Nat), rs.val].toArray ty_argosyref06_Store (0, 0)), blk in7 (.cells (txL t').toArray ty_api_Txn (0, 0)), blk t3 (.cells (txL t).toArray ty_api_Txn (0, 0))] ?_
  refine s_nn ?_
  refine s_ldS (b := sd) (off := 1) (l := [.int .i64 (3 : Nat), rs.val]) (x := rs) ?_
  refine s_own st ?_
  refine rows_hg (by omega) fun s6 Y hY => ?_
  refine s_sv ?_
  have hXl : X.length = M.length := by rw [hf.mod]; simp
  have hYl : Y.length = M.length := by rw [← hY]; simp
  refine same6_hg (X := Y) (Y := X) (by omega) (by rw [hY, hf.mod]) (fun w hw => (own_rd (s := s6) hw).1) (fun w hw => (own_rd (s := rs) hw).1) (fun x hx w hw => ?_) (fun x hx w hw => ?_) ?_
  · obtain ⟨Δ, h1⟩ := stars_mem' hx (hw.drops (Δ := [Sep.stars (Y.map recB)]))
    exact h1.rdC List.mem_cons_self
  · exact (hf.ok x hx).2.rd (hw.drops (Δ := [poolR P]))
  refine s_sv ?_
  refine s_f ?_
  refine s_ldNS (b := in7) (l' := txL t') ?_
  refine s_ldNS (b := t3) (l' := txL t) ?_
  have hol' : t'.ops.length = t.ops.length := by have := congrArg List.length hsame.2.2.2.2; simpa using this
  refine same05_hg (a := t') (b := t) (fun w hw => txC_rd (hw.drops (Δ := txC t' []))) (fun w hw => txRd_old ht hw) ⟨by rw [hsame.2.2.1]; omega, by rw [hsame.2.2.2.1]; omega, by omega⟩ ?_
  rw [decide_eq_true (show SameP t' t from hsame)]
  unfold law07_EvalRuns.s2
  refine s_f ?_
  refine s_ldN (b := t3) (l' := txL t) ?_
  refine right05_hg (t := t) (n := 3) (fun w hw => txRd_old ht hw) ⟨by omega, by omega, by omega⟩ ?_
  by_cases hrt : rightT 3 t = true
  rotate_left
  · rw [show rightT 3 t = false by simpa using hrt]
    exact s_t (s_end h)
  rw [hrt]
  refine s_f ?_
  refine s_ldN (b := t3) (l' := txL t) ?_
  refine s_ownS rs ?_
  refine s_own sd ?_
  refine s_mkRef6 hf ?_
  have ri := run_is hrt hWf
  refine s_own st ?_
  refine storeR_ok fun hMok => ?_
  have hOv : ∀ x ∈ O, x.1.2.length ≤ 1000000000 := fun x hx => by
    by_cases h0 : e = 0
    · exact run_small hMok (fun x hx => by have := (l6 x hx).2; omega) x.1 (by rw [← (hgood h0).1]; exact List.mem_map.2 ⟨x, hx, rfl⟩)
    · rw [(hbad h0).1] at hx; cases hx
  refine s_end (Δ := Ref6 sd 3 M P :: poolR P :: blk r8 (.cells [.int .i64 e, os.val].toArray ty_api_Result (0, 0)) :: SlC ty_api_Out 2 os (O.flatMap oF) :: Sep.stars (O.map oB) :: SlC ty_api_Row 5 rows (R.flatMap rowF) :: Sep.stars (R.map wB) :: StoreR st 3 M :: Γ) ?_
  refine run7_hg (t := t) (fun x hx => ⟨hok.2.1 x hx, by have := (l6 x hx).2; omega⟩) (by omega) (by omega) hok.1 (fun h2 => ?_) (fun w hw => txRd_old ht hw) fun P' os2 O2 rs2 R2 hP hO2 hR2 hOi hRi => ?_
  · obtain ⟨_, k, hk⟩ := right_move hrt h2
    rw [hk]; simp
  have he2 : e = (runC 3 M t).2.1 := by rw [he, ri.code]
  have hOO : O.map Prod.fst = O2.map Prod.fst := by
    by_cases h0 : e = 0
    · rw [(hgood h0).1, hO2, ri.outs (by rw [← he2]; exact h0)]
    · rw [(hbad h0).1, hO2, (ri.bad (by rw [← he2]; exact h0)).1]; rfl
  have hRR : modW R = modW R2 := by
    by_cases h0 : e = 0
    · rw [(hgood h0).2, hR2, ri.rows (by rw [← he2]; exact h0)]
    · rw [(hbad h0).2, hR2, (ri.bad (by rw [← he2]; exact h0)).2]; rfl
  have happ : applyM 3 M (modW R) = setsM M (modW R) := by
    by_cases h0 : e = 0
    · rw [hRR, hR2, ri.app (by rw [← he2]; exact h0)]
    · rw [(hbad h0).2]; rfl
  rw [← he2]
  have hlens : O.length ≤ 60 ∧ R.length ≤ 100 ∧ ∀ x ∈ R, x.1.length ≤ 200 := by
    obtain ⟨_, hg2⟩ := run_law (n := 3) (M := M) hrt
    by_cases h0 : e = 0
    · have hc0 : (runW 3 M t).2.2 = 0 := by rw [← he]; exact h0
      obtain ⟨g1, g2⟩ := hg2 hc0
      obtain ⟨g3, g4⟩ := hgood h0
      refine ⟨?_, ?_, fun x hx => ?_⟩
      · have := congrArg List.length g3
        rw [List.length_map, g2] at this
        have := List.length_filter_le isOut t.ops
        omega
      · have e1 := congrArg List.length g4
        rw [(sortW_perm _).length_eq, List.length_map] at e1
        rw [e1]
        unfold runW
        split
        · have h5 := move_wlen (n := 3) (M := M) (to := t.to) (ks := t.writes) (W := [])
          simp only [List.length_nil] at h5
          simp only; omega
        · have h5 := ops_wlen (n := 3) (M := M) (xs := t.ops) (W := []) (O := [])
          simp only [List.length_nil] at h5
          omega
      · have hx2 : (x.1, x.2.1) ∈ (runW 3 M t).1 := (sortW_perm _).subset (by rw [← g4]; exact List.mem_map.2 ⟨x, hx, rfl⟩)
        exact l5 _ (g1 _ hx2).1
    · rw [(hbad h0).1, (hbad h0).2]; simp
  obtain ⟨hOl, hRl, hRk⟩ := hlens
  have hR2l : R2.length = R.length := by have := congrArg List.length hRR; simpa using this.symm
  refine s_new fun want => ?_
  refine s_stN (b := want) (l' := [.int .i64 e, os2.val]) ?_
  refine s_ldN (b := r8) (l' := [.int .i64 e, os.val]) ?_
  refine s_ldN (b := want) (l' := [.int .i64 e, os2.val]) ?_
  refine same7_hg (X := O) (Y := O2) (by omega) hOO (fun w hw => (own_rd (s := os) hw).1) (fun w hw => (own_rd (s := os2) hw).1) (fun x hx w hw => ?_) (fun x hx w hw => ?_) ?_
  · exact stars_rdO (Γ := []) hx hw.drops
  · rcases hOi x hx with h1 | ⟨op, hop, e1, e2⟩
    · exact h1.rd (hw.drops (Δ := [poolR P']))
    · rw [e1, e2]; exact (txRd_old ht hw).2.2.2 op hop
  refine s_f ?_
  have hrec : (R.map fun x => ((bs x.1, x.2) : RecX)).map recM = (R2.map fun x => ((bs x.1, x.2) : RecX)).map recM := by
    have := congrArg (List.map fun p : List UInt8 × Rec => (bs p.1, p.2)) hRR
    simpa [modW, recM, List.map_map, Function.comp_def] using this
  refine same6_hg (X := R.map fun x => ((bs x.1, x.2) : RecX)) (Y := R2.map fun x => ((bs x.1, x.2) : RecX)) (by rw [List.length_map]; omega) hrec (fun w hw => by rw [← rows_rec]; exact (own_rd (s := rows) hw).1) (fun w hw => by rw [← rows_rec]; exact (own_rd (s := rs2) hw).1) (fun x hx w hw => ?_) (fun x hx w hw => ?_) ?_
  · obtain ⟨y, hy, rfl⟩ := List.mem_map.1 hx
    exact stars_rdW (Γ := []) hy hw.drops
  · obtain ⟨y, hy, rfl⟩ := List.mem_map.1 hx
    exact (hRi y hy).2.rd (hw.drops (Δ := [poolR P']))
  unfold law07_EvalRuns.s3
  refine s_f ?_
  refine s_end (Δ := StoreR st 3 M :: Ref6 sd 3 M P' :: poolR P' :: blk r8 (.cells [.int .i64 e, os.val].toArray ty_api_Result (0, 0)) :: SlC ty_api_Out 2 os (O.flatMap oF) :: Sep.stars (O.map oB) :: SlC ty_api_Row 5 rows (R.flatMap rowF) :: Sep.stars (R.map wB) :: SlC ty_api_Row 5 rs2 (R2.flatMap rowF) :: Γ) ?_
  refine apply_hg (R := R) (fun w hw => (own_rd (s := rows) hw).1) (fun x hx w hw => stars_rdW (Γ := []) hx hw.drops) (fun x hx => ⟨by have := hRk x hx; omega, hRok x hx⟩) (by omega) ?_
  rw [happ]
  refine s_own sd ?_
  refine apply7_hg (R := R2) (fun w hw => (own_rd (s := rs2) hw).1) hRi (by omega) ?_
  rw [← hRR]
  have hM2 : (setsM M (modW R)).length ≤ 1000 := by have := setsM_len M (modW R); simp only [List.length_map] at this; omega
  generalize setsM M (modW R) = M2 at hM2
  refine s_ld (b := r8) (off := 1) (l := [.int .i64 e, os.val]) (x := os) ?_
  refine s_cap os fun a1 a2 a3 a4 => ?_
  rw [flatMap_len _ 2 oF_len] at a1
  refine s_cap rows fun b1 b2 b3 b4 => ?_
  rw [flatMap_len _ 5 rowF_len] at b1
  refine s_pick (Sep.stars (O.map oB)) ?_
  refine s_toAny (f := fun x : (Bool × List UInt8) × Sl => x.2) (v := fun x => x.1.2) hOv ?_
  refine s_pick (Sep.stars (R.map wB)) ?_
  refine s_toAny (f := fun x : List UInt8 × (Rec × Sl) => x.2.2) (v := fun x => x.2.1.val) (fun x hx => (hRok x hx).2.2) ?_
  have fin : HG B (StoreR st 3 M2 :: Ref6 sd 3 M2 P' :: poolR P' :: Γ) (Dr <| WithS fun S => Nn (some ⟨sd, 0, none⟩) fun t132 => LdS S (t132.add 1) Sl.val fun t134 => store_Store_Rows.call (some ⟨st, 0, none⟩) fun t130 => Sv S <| ref06_Same.call t130 t134 fun t135 => q t135) := by
    refine s_own sd ?_
    refine s_ref6 fun rs X hf => ?_
    refine s_dr ?_
    refine s_wsD [blk sd (.cells [.int .i64 (3 : Nat), rs.val].toArray ty_argosyref06_Store (0, 0))] ?_
    refine s_nn ?_
    refine s_ldS (b := sd) (off := 1) (l := [.int .i64 (3 : Nat), rs.val]) (x := rs) ?_
    refine s_own st ?_
    refine rows_hg (by omega) fun s6 Y hY => ?_
    refine s_sv ?_
    have hYl : Y.length = M2.length := by rw [← hY]; simp
    refine same6_hg (X := Y) (Y := X) (by omega) (by rw [hY, hf.mod]) (fun w hw => (own_rd (s := s6) hw).1) (fun w hw => (own_rd (s := rs) hw).1) (fun x hx w hw => ?_) (fun x hx w hw => ?_) ?_
    · obtain ⟨Δ, h1⟩ := stars_mem' hx (hw.drops (Δ := [Sep.stars (Y.map recB)]))
      exact h1.rdC List.mem_cons_self
    · exact (hf.ok x hx).2.rd (hw.drops (Δ := [poolR P']))
    exact s_end h
  refine s_end (Δ := Sep.stars (O.map fun x => anyB x.2) :: blk r8 (.cells [.int .i64 e, os.val].toArray ty_api_Result (0, 0)) :: SlC ty_api_Out 2 os (O.flatMap oF) :: Sep.stars (R.map fun x => anyB x.2.2) :: SlC ty_api_Row 5 rows (R.flatMap rowF) :: StoreR st 3 M2 :: Ref6 sd 3 M2 P' :: poolR P' :: Γ) ?_
  refine s_loopC (α := Int) (fun x => ∃ i : Nat, x = (i : Int) ∧ i ≤ O.length) (fun x => O.length - x.toNat) ⟨0, rfl, Nat.zero_le _⟩ fun k' x hx hk' => ?_
  obtain ⟨i, rfl, hi⟩ := hx
  unfold law07_EvalRuns.b4
  refine s_ite (fun hb => ?_) fun hb => ?_
  · have hil : i < O.length := by simp only [decide_eq_true_eq] at hb; omega
    have hge : O[i]? = some O[i] := List.getElem?_eq_getElem hil
    have hmem : O[i] ∈ O := List.getElem_mem hil
    generalize O[i] = x at hge hmem
    refine s_ld (b := r8) (off := 1) (l := [.int .i64 e, os.val]) (x := os) ?_
    refine s_idxF1 oF (off := 1) (c := Sl.val) (v := x.2) oF_len (fun w hw => (own_rd (s := os) hw).1) hge rfl ?_
    refine s_memO hmem fun Z back => ?_
    refine s_loopC (α := Int) (fun y => ∃ j : Nat, y = (j : Int) ∧ j ≤ x.2.n) (fun y => x.2.n - y.toNat) ⟨0, rfl, Nat.zero_le _⟩ fun k2 y hy hk2 => ?_
    obtain ⟨j, rfl, hj⟩ := hy
    unfold law07_EvalRuns.b5
    refine s_ite (fun hb2 => ?_) fun hb2 => ?_
    · have hjl : j < x.2.n := by simp only [decide_eq_true_eq] at hb2; omega
      refine s_ld (b := r8) (off := 1) (l := [.int .i64 e, os.val]) (x := os) ?_
      refine s_idxF1 oF (off := 1) (c := Sl.val) (v := x.2) oF_len (fun w hw => (own_rd (s := os) hw).1) hge rfl ?_
      refine s_any fun v hv => ?_
      refine s_cap x.2 fun z1 z2 z3 z4 => ?_
      have hvn : v.length = x.2.n := by simpa using z1
      refine s_idx (s := x.2) (i := j) ?_
      refine s_set1 (s := x.2) (v := v) hjl fun v' hv' => ?_
      refine s_mkAny (v := v') (by omega) ?_
      refine s_ai ?_
      exact hk2 _ ⟨j + 1, by simp, hjl⟩ (by omega)
    · refine s_ai ?_
      exact back (hk' _ ⟨i + 1, by simp, hil⟩ (by omega))
  · refine s_end (Δ := Sep.stars (R.map fun x => anyB x.2.2) :: SlC ty_api_Row 5 rows (R.flatMap rowF) :: StoreR st 3 M2 :: Ref6 sd 3 M2 P' :: poolR P' :: Γ) ?_
    refine s_loopC (α := Int) (fun x => ∃ i : Nat, x = (i : Int) ∧ i ≤ R.length) (fun x => R.length - x.toNat) ⟨0, rfl, Nat.zero_le _⟩ fun k3 x hx hk3 => ?_
    obtain ⟨i, rfl, hi⟩ := hx
    unfold law07_EvalRuns.b6
    refine s_ite (fun hb => ?_) fun hb => s_end fin
    have hil : i < R.length := by simp only [decide_eq_true_eq] at hb; omega
    have hge : R[i]? = some R[i] := List.getElem?_eq_getElem hil
    have hmem : R[i] ∈ R := List.getElem_mem hil
    generalize R[i] = x at hge hmem
    refine s_idxFA rowF rowF_len (by omega) (fun w hw => (own_rd (s := rows) hw).1) hge fun t1 ht1 => ?_
    refine s_ldA2 (cs := rowF x) (x := x.2.2) (fun w hw => ht1 w (own_rd (s := rows) hw).1) rfl ?_
    refine s_memO hmem fun Z back => ?_
    refine s_loopC (α := Int) (fun y => ∃ j : Nat, y = (j : Int) ∧ j ≤ x.2.2.n) (fun y => x.2.2.n - y.toNat) ⟨0, rfl, Nat.zero_le _⟩ fun k2 y hy hk2 => ?_
    obtain ⟨j, rfl, hj⟩ := hy
    unfold law07_EvalRuns.b7
    refine s_ite (fun hb2 => ?_) fun hb2 => ?_
    · have hjl : j < x.2.2.n := by simp only [decide_eq_true_eq] at hb2; omega
      refine s_idxFA rowF rowF_len (by omega) (fun w hw => (own_rd (s := rows) hw).1) hge fun t2 ht2 => ?_
      refine s_ldA2 (cs := rowF x) (x := x.2.2) (fun w hw => ht2 w (own_rd (s := rows) hw).1) rfl ?_
      refine s_any fun v hv => ?_
      refine s_cap x.2.2 fun z1 z2 z3 z4 => ?_
      have hvn : v.length = x.2.2.n := by simpa using z1
      refine s_idx (s := x.2.2) (i := j) ?_
      refine s_set1 (s := x.2.2) (v := v) hjl fun v' hv' => ?_
      refine s_mkAny (v := v') (by omega) ?_
      refine s_ai ?_
      exact hk2 _ ⟨j + 1, by simp, hjl⟩ (by omega)
    · refine s_ai ?_
      exact back (hk3 _ ⟨i + 1, by simp, hil⟩ (by omega))
open Go.RowKit in
theorem EvalRuns_walk (W : World) (s0 : Sl) (y0 : Rdy W Sh_ty_s_argosylaw07_Cell (Sl.val s0).cells.toList) (c1 : Array Value) (y1 : Rdy W Sh_ty_api_Txn (Value.agg c1).cells.toList) (h1 : c1.size = 5) :
    Calls Tryz.prog 3 #[s0.val, .agg c1] W (Ret fun v w' => v = .bool true ∧ Below W.heap.size W w') := by
  obtain ⟨L, hL, hLv⟩ := rdy_cells y0
  obtain ⟨t, rfl, ht, htn⟩ := rdy_txn h1 y1
  exact law_call (EvalRuns_hg (Γ := []) hL hLv ht htn (fun w h => ⟨rfl, h⟩) W (Holds.start W))
end
end Go.Proofs.YtinpgiafjjibnaaGreat
/- Plain forms of functions, and that their code comes to them (package law07_EvalPlays). -/
namespace Go.Proofs.YtinpgiafjjibnaaGreat
open Go Go.Sep
set_option linter.unusedVariables false
set_option linter.unusedSimpArgs false
set_option maxRecDepth 100000
set_option maxHeartbeats 4000000
attribute [local irreducible] G Gp Cx Tx Ex Sx Dx Ox Ax Lx Rx Fx Bx Bj Al Do Ld LdN St StN New CallF Ar DoU Rd Rd2 Pu Cd Ite Fv CallV CallY Ans0 Ans1 Ans2 Ans3 Ans4 Ans5 Ext Dead Dr WithS Sv LdS LdNS RdS Rd2S Nn Idx IdxA IdxS Fld Bld Slc SlcS Cat All LoopK RangeF RangeJ TakeD
namespace F_IRLaw07EvalPlays
instance at_26 : AT Tryz.prog 26 5 := ⟨by kernel_rfl⟩
instance at_38 : AT Tryz.prog 38 2 := ⟨by kernel_rfl⟩
instance cb_10 : CB Tryz.prog 10 := ⟨by kernel_rfl⟩
instance cb_11 : CB Tryz.prog 11 := ⟨by kernel_rfl⟩
instance cb_12 : CB Tryz.prog 12 := ⟨by kernel_rfl⟩
instance cb_14 : CB Tryz.prog 14 := ⟨by kernel_rfl⟩
instance cb_15 : CB Tryz.prog 15 := ⟨by kernel_rfl⟩
instance cb_16 : CB Tryz.prog 16 := ⟨by kernel_rfl⟩
instance cb_17 : CB Tryz.prog 17 := ⟨by kernel_rfl⟩
instance cb_18 : CB Tryz.prog 18 := ⟨by kernel_rfl⟩
instance cb_5 : CB Tryz.prog 5 := ⟨by kernel_rfl⟩
instance cb_7 : CB Tryz.prog 7 := ⟨by kernel_rfl⟩
instance cb_8 : CB Tryz.prog 8 := ⟨by kernel_rfl⟩
instance ct_39 : CT Tryz.prog 39 := ⟨by kernel_rfl⟩
instance ft_45_1 : FT Tryz.prog 45 1 1 1 := ⟨by kernel_rfl⟩
instance mx : MX Tryz.prog := ⟨mixed⟩
instance sl_61 : SLT Tryz.prog 61 26 5 := ⟨by kernel_rfl⟩
instance sz_26 : SZ Tryz.prog 26 5 := ⟨by kernel_rfl⟩
instance sz_38 : SZ Tryz.prog 38 2 := ⟨by kernel_rfl⟩
instance un_30 : UN Tryz.prog 30 (.pointer 88) := ⟨Tryz.underlying30⟩
instance zt_26 : ZT Tryz.prog 26 (.agg #[(.int .i64 0), (Sl.val ⟨none, 0, 0⟩), (Sl.val ⟨none, 0, 0⟩), (Sl.val ⟨none, 0, 0⟩), (.int .i64 0)]) := ⟨Tryz.t26, by kernel_rfl, by kernel_rfl⟩
instance zt_38 : ZT Tryz.prog 38 (.agg #[(.int .i64 0), (Sl.val ⟨none, 0, 0⟩)]) := ⟨Tryz.t38, by kernel_rfl, by kernel_rfl⟩
end F_IRLaw07EvalPlays
def law07_EvalPlays.s2 (Q : Bool → K) (X1 : Int → K) (s3_2 : (Option Addr)) (m4_2 : (Option Addr)) (t22_2 : Sl) (t23_2 : Int) (t24_2 : Int) : K :=
  Ar (IntKind.wrap .i64 (t24_2 + 1)) fun t65 =>
  X1 t65
def law07_EvalPlays.s3 (Q : Bool → K) (X1 : Int → K) (s3_3 : (Option Addr)) (m4_3 : (Option Addr)) (t22_3 : Sl) (t23_3 : Int) (t24_3 : Int) (t64_3 : Bool) : K :=
  Ite t64_3
    (Q false)
    (law07_EvalPlays.s2 Q X1 s3_3 m4_3 t22_3 t23_3 t24_3)
def law07_EvalPlays.b1 (Q : Bool → K)  (X1 : Int → K) (s3_1 : (Option Addr)) (m4_1 : (Option Addr)) (t22_1 : Sl) (t23_1 : Int) (t24_1 : Int) : K :=
  Ite (decide (t24_1 < t23_1))
    (Idx t22_1 t24_1 5 fun t26 =>
    LdN t26 5 fun t27 =>
    New 26 #[(.int .i64 0), (Sl.val ⟨none, 0, 0⟩), (Sl.val ⟨none, 0, 0⟩), (Sl.val ⟨none, 0, 0⟩), (.int .i64 0)] fun t6 =>
    StN t6 5 t27 <|
    LdN t6 5 fun t28 =>
    ref05_Great.call t28 fun t29 =>
    Ite t29
      (Q true)
      (LdN t6 5 fun t30 =>
      ref05_Right.call t30 3 fun t31 =>
      Ite (!t31)
        (law07_EvalPlays.s2 Q X1 s3_1 m4_1 t22_1 t23_1 t24_1)
        (LdN t6 5 fun t35 =>
        eval_Run.call s3_1 t35 fun t36x0 t36x1 =>
        New 38 #[(.int .i64 0), (Sl.val ⟨none, 0, 0⟩)] fun r7 =>
        StN r7 2 t36x0 <|
        LdN t6 5 fun t41 =>
        ref07_Run.call m4_1 t41 fun t42x0 t42x1 =>
        New 38 #[(.int .i64 0), (Sl.val ⟨none, 0, 0⟩)] fun want9 =>
        StN want9 2 t42x0 <|
        eval_Apply.call s3_1 t36x1 <|
        ref07_Apply.call m4_1 t42x1 <|
        Dr <| WithS fun S =>
        LdNS S r7 2 fun t51 =>
        LdNS S want9 2 fun t52 =>
        ref07_Same.call t51 t52 fun t53 =>
        Sv S <|
        Ite (!t53)
          (law07_EvalPlays.s3 Q X1 s3_1 m4_1 t22_1 t23_1 t24_1 true)
          (Nn m4_1 fun t59 =>
          LdS S (t59.add 1) Sl.val fun t61 =>
          store_Store_Rows.call s3_1 fun t57 =>
          Sv S <|
          ref06_Same.call t57 t61 fun t62 =>
          law07_EvalPlays.s3 Q X1 s3_1 (some t59) t22_1 t23_1 t24_1 (!t62)))))
    (Q true)
def law07_EvalPlays (list0 : Sl) (Q : Bool → K) : K :=
  law07_speaks.call  fun t11 =>
  Ite (!t11)
    (Q false)
    (Ite (decide ((30 : Int) < (list0.n : Int)))
      (Q true)
      (law07_filled.call (Sl.mk none 0 0) fun t17x0 t17x1 =>
      Ite ((t17x0).isNone)
        (Q false)
        (LoopK (α := Int) (fun X x => law07_EvalPlays.b1 Q X t17x0 t17x1 list0 (list0.n : Int) x) 0)))
theorem law07_EvalPlays_ok (list0 : Sl) (Q : Bool → K) (w : World) (h : law07_EvalPlays list0 Q w) : law07_EvalPlays.call list0 Q w := by
  have hJ20 : ∀ (X1 : Int → K), XH 9 X1 → JH 20 fun D => ∃ (s3_2 : (Option Addr)) (m4_2 : (Option Addr)) (t22_2 : Sl) (t23_2 : Int) (t24_2 : Int), D [(3, (.pointer s3_2)), (4, (.pointer m4_2)), (22, (Sl.val t22_2)), (23, (.int .i64 t23_2)), (24, (.int .i64 t24_2))] (fun C => C [(3, (.pointer s3_2)), (4, (.pointer m4_2)), (22, (Sl.val t22_2)), (23, (.int .i64 t23_2)), (24, (.int .i64 t24_2))] (law07_EvalPlays.s2 Q X1 s3_2 m4_2 t22_2 t23_2 t24_2)) := by intros; exact ⟨fun _ ⟨_, _, _, _, _, h⟩ => ⟨_, _, h⟩⟩
  have hJ19 : ∀ (X1 : Int → K), XH 9 X1 → JH 19 fun D => ∃ (s3_3 : (Option Addr)) (m4_3 : (Option Addr)) (t22_3 : Sl) (t23_3 : Int) (t24_3 : Int), D [(3, (.pointer s3_3)), (4, (.pointer m4_3)), (22, (Sl.val t22_3)), (23, (.int .i64 t23_3)), (24, (.int .i64 t24_3))] (fun C => ∀ (t64_3 : Bool), C [(3, (.pointer s3_3)), (4, (.pointer m4_3)), (22, (Sl.val t22_3)), (23, (.int .i64 t23_3)), (24, (.int .i64 t24_3)), (64, (.bool t64_3))] (law07_EvalPlays.s3 Q X1 s3_3 m4_3 t22_3 t23_3 t24_3 t64_3)) := by intros; exact ⟨fun _ ⟨_, _, _, _, _, h⟩ => ⟨_, _, h⟩⟩
  have hD18 : DH 18 2 [11] (.s [0, 1] (.a [(2, 1, .s [3, 4] (.i (.s [5, 6, 7, 8, 9, 10, 11, 12, 13] .e) (.s [5, 7, 8, 9, 10] (.a [(6, 1, .a [(11, 0, .s [12, 13] .e)])]))))])) := by intros; exact ⟨⟩
  have hL9 : ∀ (s3_1 : (Option Addr)) (m4_1 : (Option Addr)) (t22_1 : Sl) (t23_1 : Int), LH 9 (fun x : Int => [(3, (.pointer s3_1)), (4, (.pointer m4_1)), (22, (Sl.val t22_1)), (23, (.int .i64 t23_1)), (24, (.int .i64 x))]) (fun X x => law07_EvalPlays.b1 Q X s3_1 m4_1 t22_1 t23_1 x) := by intros; exact ⟨⟩
  exact g_walk 66 h Tryz.func4
end Go.Proofs.YtinpgiafjjibnaaGreat
/- EvalPlays: transactions one behind the other, each applied, leave the document's records. -/
namespace Go.Proofs.YtinpgiafjjibnaaGreat
open Go Go.Sep Go.Sep.Bt
set_option linter.unusedSimpArgs false
set_option linter.unusedVariables false
set_option maxRecDepth 100000
section
variable {B : World} {Γ Δ : List HProp} {q : Bool → K}
/-- How much is put out and written. -/
theorem run_lens {M : Recs} {t : TxX} (hrt : rightT 3 t = true) (hg : ¬ GreatP t) (hc : (runW 3 M t).2.2 = 0) : (runW 3 M t).2.1.length ≤ 60 ∧ (runW 3 M t).1.length ≤ 60 ∧ ∀ x ∈ (runW 3 M t).1, x.1.length ≤ 200 := by
  simp only [GreatP, not_or, Nat.not_lt, not_exists, not_and] at hg
  obtain ⟨l1, l2, l3, l4, l5, l6⟩ := hg
  obtain ⟨_, hg2⟩ := run_law (n := 3) (M := M) hrt
  obtain ⟨g1, g2⟩ := hg2 hc
  refine ⟨?_, ?_, fun x hx => l5 _ (g1 _ hx).1⟩
  · rw [g2]
    have := List.length_filter_le isOut t.ops
    omega
  · unfold runW
    split
    · have h5 := move_wlen (n := 3) (M := M) (to := t.to) (ks := t.writes) (W := [])
      simp only [List.length_nil] at h5
      simp only; omega
    · have h5 := ops_wlen (n := 3) (M := M) (xs := t.ops) (W := []) (O := [])
      simp only [List.length_nil] at h5
      omega
theorem EvalPlays_hg {L : List TxX} {s : Sl} (hL : RdC B s 5 (L.flatMap txL)) (hLt : ∀ t ∈ L, txRd B t ∧ ∀ x ∈ t.ops, -9223372036854775808 ≤ x.1.n ∧ x.1.n ≤ 9223372036854775807) (h : HG B Γ (q true)) : HG B Γ (law07_EvalPlays.call s q) := fun w hw => by
  refine law07_EvalPlays_ok _ _ _ ?_
  have hsn := rd_len (f := txL) (fun _ => rfl) (by omega) (hL.old hw)
  refine Sep.hg hw ?_
  clear hw w
  unfold law07_EvalPlays
  refine speaks7 ?_
  refine s_f ?_
  refine s_ite (fun hb => h) fun hb => ?_
  have hL30 : L.length ≤ 30 := by simp only [decide_eq_false_iff_not] at hb; omega
  refine filledI_hg (I := Wf 3) Wf.nil (fun M k v h => h.put k v) (fun M k t h => h.move k t) (L := []) (fun w hw => RdC.none') (by simp) (by simp [CGreat]) fun st sd M0 P0 hWf0 hM0 => ?_
  refine s_f ?_
  refine s_loop (α := Int) (ι := Nat × Recs × Pool) (fun x i => x = (i.1 : Int) ∧ i.1 ≤ L.length ∧ Wf 3 i.2.1 ∧ i.2.1.length ≤ 200 + 60 * i.1) (fun x i => StoreR st 3 i.2.1 :: Ref6 sd 3 i.2.1 i.2.2 :: poolR i.2.2 :: Γ) (fun x i => L.length - i.1) (0, M0, P0) ⟨rfl, Nat.zero_le _, hWf0, hM0⟩ ?_
  rintro k' _ ⟨i, M, P⟩ ⟨rfl, hi, hWf, hM⟩ hk'
  simp only at hi hWf hM hk' ⊢
  unfold law07_EvalPlays.b1
  refine s_ite (fun hb1 => ?_) fun hb1 => s_end h
  have hil : i < L.length := by simp only [decide_eq_true_eq] at hb1; omega
  have hge : L[i]? = some L[i] := List.getElem?_eq_getElem hil
  have hmem : L[i] ∈ L := List.getElem_mem hil
  generalize L[i] = t at hge hmem
  obtain ⟨ht, htn⟩ := hLt t hmem
  refine s_idxN txL (fun _ => rfl) (fun w hw => hL.old hw) hge ?_
  refine s_new fun t6 => ?_
  refine s_stN (b := t6) (l' := txL t) ?_
  refine s_ldN (b := t6) (l' := txL t) ?_
  refine great05_hg (t := t) (fun w hw => txRd_old ht hw) ?_
  by_cases htg : GreatP t
  · rw [decide_eq_true htg]
    exact s_t (s_end h)
  rw [decide_eq_false htg]
  refine s_f ?_
  have hok := txOk_of htg htn
  have hsm := htg
  simp only [GreatP, not_or, Nat.not_lt, not_exists, not_and] at hsm
  obtain ⟨l1, l2, l3, l4, l5, l6⟩ := hsm
  refine s_ldN (b := t6) (l' := txL t) ?_
  refine right05_hg (t := t) (n := 3) (fun w hw => txRd_old ht hw) ⟨by omega, by omega, by omega⟩ ?_
  have S2 : ∀ M' P', Wf 3 M' → M'.length ≤ M.length + 60 → HG B (StoreR st 3 M' :: Ref6 sd 3 M' P' :: poolR P' :: Γ) (law07_EvalPlays.s2 q k' (some ⟨st, 0, none⟩) (some ⟨sd, 0, none⟩) s (s.n : Int) (i : Int)) := fun M' P' hw' hl' => by
    unfold law07_EvalPlays.s2
    refine s_ai ?_
    exact hk' ((i : Int) + 1) (i + 1, M', P') ⟨by simp, hil, hw', by simp only; omega⟩ (by simp only; omega)
  by_cases hrt : rightT 3 t = true
  rotate_left
  · rw [show rightT 3 t = false by simpa using hrt]
    refine s_t ?_
    exact s_end (S2 M P hWf (by omega))
  rw [hrt]
  refine s_f ?_
  refine s_ldN (b := t6) (l' := txL t) ?_
  refine s_end (Δ := StoreR st 3 M :: blk t6 (.cells (txL t).toArray ty_api_Txn (0, 0)) :: Ref6 sd 3 M P :: poolR P :: Γ) ?_
  refine eval_RunU_hg (t := t) hok (fun w hw => txRd_old ht hw) fun e os O rows R he hbad hgood hRok => ?_
  refine s_new fun r7 => ?_
  refine s_stN (b := r7) (l' := [.int .i64 e, os.val]) ?_
  refine s_ldN (b := t6) (l' := txL t) ?_
  have ri := run_is hrt hWf
  refine s_end (Δ := Ref6 sd 3 M P :: poolR P :: blk r7 (.cells [.int .i64 e, os.val].toArray ty_api_Result (0, 0)) :: SlC ty_api_Out 2 os (O.flatMap oF) :: Sep.stars (O.map oB) :: SlC ty_api_Row 5 rows (R.flatMap rowF) :: Sep.stars (R.map wB) :: StoreR st 3 M :: Γ) ?_
  refine run7_hg (t := t) (fun x hx => ⟨hok.2.1 x hx, by have := (l6 x hx).2; omega⟩) (by omega) (by omega) hok.1 (fun h2 => ?_) (fun w hw => txRd_old ht hw) fun P' os2 O2 rs2 R2 hP hO2 hR2 hOi hRi => ?_
  · obtain ⟨_, k, hk⟩ := right_move hrt h2
    rw [hk]; simp
  have hcode := ri.code
  have he2 : e = (runC 3 M t).2.1 := by rw [he, hcode]
  have hOO : O.map Prod.fst = O2.map Prod.fst := by
    by_cases h0 : e = 0
    · rw [(hgood h0).1, hO2, ri.outs (by rw [← he2]; exact h0)]
    · rw [(hbad h0).1, hO2, (ri.bad (by rw [← he2]; exact h0)).1]; rfl
  have hRR : modW R = modW R2 := by
    by_cases h0 : e = 0
    · rw [(hgood h0).2, hR2, ri.rows (by rw [← he2]; exact h0)]
    · rw [(hbad h0).2, hR2, (ri.bad (by rw [← he2]; exact h0)).2]; rfl
  have happ : applyM 3 M (modW R) = setsM M (modW R) := by
    by_cases h0 : e = 0
    · rw [hRR, hR2, ri.app (by rw [← he2]; exact h0)]
    · rw [(hbad h0).2]; rfl
  have hwf2 : Wf 3 (setsM M (modW R)) := by rw [hRR, hR2]; exact ri.wf
  rw [← he2]
  have hlens : O.length ≤ 60 ∧ R.length ≤ 60 ∧ ∀ x ∈ R, x.1.length ≤ 200 := by
    by_cases h0 : e = 0
    · obtain ⟨g1, g2, g3⟩ := run_lens hrt htg (M := M) (by rw [← he]; exact h0)
      obtain ⟨g4, g5⟩ := hgood h0
      refine ⟨?_, ?_, fun x hx => ?_⟩
      · have := congrArg List.length g4; rw [List.length_map] at this; omega
      · have e1 := congrArg List.length g5
        rw [(sortW_perm _).length_eq, List.length_map] at e1
        omega
      · exact g3 (x.1, x.2.1) ((sortW_perm _).subset (by rw [← g5]; exact List.mem_map.2 ⟨x, hx, rfl⟩))
    · rw [(hbad h0).1, (hbad h0).2]; simp
  obtain ⟨hOl, hRl, hRk⟩ := hlens
  have hR2l : R2.length = R.length := by have := congrArg List.length hRR; simpa using this.symm
  refine s_new fun want => ?_
  refine s_stN (b := want) (l' := [.int .i64 e, os2.val]) ?_
  refine s_end (Δ := StoreR st 3 M :: Ref6 sd 3 M P' :: poolR P' :: blk r7 (.cells [.int .i64 e, os.val].toArray ty_api_Result (0, 0)) :: blk want (.cells [.int .i64 e, os2.val].toArray ty_api_Result (0, 0)) :: SlC ty_api_Out 2 os (O.flatMap oF) :: Sep.stars (O.map oB) :: SlC ty_api_Row 5 rows (R.flatMap rowF) :: Sep.stars (R.map wB) :: SlC ty_api_Out 2 os2 (O2.flatMap oF) :: SlC ty_api_Row 5 rs2 (R2.flatMap rowF) :: Γ) ?_
  refine apply_hg (R := R) (fun w hw => (own_rd (s := rows) hw).1) (fun x hx w hw => stars_rdW (Γ := []) hx hw.drops) (fun x hx => ⟨by have := hRk x hx; omega, hRok x hx⟩) (by omega) ?_
  rw [happ]
  refine s_own sd ?_
  refine apply7_hg (R := R2) (fun w hw => (own_rd (s := rs2) hw).1) hRi (by omega) ?_
  rw [← hRR]
  have hM2 : (setsM M (modW R)).length ≤ M.length + 60 := by have := setsM_len M (modW R); simp only [List.length_map] at this; omega
  generalize setsM M (modW R) = M2 at hM2 hwf2
  refine s_ref6 fun rs X hf => ?_
  refine s_dr ?_
  refine s_wsD [blk sd (.cells [.int .i64 (3 : Nat), rs.val].toArray ty_argosyref06_Store (0, 0)), blk r7 (.cells [.int .i64 e, os.val].toArray ty_api_Result (0, 0)), blk want (.cells [.int .i64 e, os2.val].toArray ty_api_Result (0, 0))] ?_
  refine s_ldNS (b := r7) (l' := [.int .i64 e, os.val]) ?_
  refine s_ldNS (b := want) (l' := [.int .i64 e, os2.val]) ?_
  refine same7_hg (X := O) (Y := O2) (by omega) hOO (fun w hw => (own_rd (s := os) hw).1) (fun w hw => (own_rd (s := os2) hw).1) (fun x hx w hw => ?_) (fun x hx w hw => ?_) ?_
  · exact stars_rdO (Γ := []) hx hw.drops
  · rcases hOi x hx with h1 | ⟨op, hop, e1, e2⟩
    · exact h1.rd (hw.drops (Δ := [poolR P']))
    · rw [e1, e2]; exact (txRd_old ht hw).2.2.2 op hop
  refine s_sv ?_
  refine s_f ?_
  refine s_nn ?_
  refine s_ldS (b := sd) (off := 1) (l := [.int .i64 (3 : Nat), rs.val]) (x := rs) ?_
  refine s_own st ?_
  refine rows_hg (by omega) fun s6 Y hY => ?_
  refine s_sv ?_
  have hYl : Y.length = M2.length := by rw [← hY]; simp
  refine same6_hg (X := Y) (Y := X) (by omega) (by rw [hY, hf.mod]) (fun w hw => (own_rd (s := s6) hw).1) (fun w hw => (own_rd (s := rs) hw).1) (fun x hx w hw => ?_) (fun x hx w hw => ?_) ?_
  · obtain ⟨Δ, h1⟩ := stars_mem' hx (hw.drops (Δ := [Sep.stars (Y.map recB)]))
    exact h1.rdC List.mem_cons_self
  · exact (hf.ok x hx).2.rd (hw.drops (Δ := [poolR P']))
  unfold law07_EvalPlays.s3
  refine s_f ?_
  refine s_ownS rs ?_
  refine s_own sd ?_
  refine s_mkRef6 hf ?_
  exact s_end (S2 M2 P' hwf2 hM2)
open Go.RowKit in
theorem EvalPlays_walk (W : World) (s0 : Sl) (y0 : Rdy W Sh_ty_s_api_Txn (Sl.val s0).cells.toList) :
    Calls Tryz.prog 4 #[s0.val] W (Ret fun v w' => v = .bool true ∧ Below W.heap.size W w') := by
  obtain ⟨h1, h2⟩ := rdy_sl y0
  obtain ⟨L, _, hL, hd⟩ := rd_list txL (fun t => txRd W t ∧ ∀ x ∈ t.ops, -9223372036854775808 ≤ x.1.n ∧ x.1.n ≤ 9223372036854775807) (fun _ => rfl) h1 h2 fun cs hc hr => by
    obtain ⟨t, e, h3, h4⟩ := rdy_txn (cs := cs.toArray) (by simpa using hc) hr
    exact ⟨t, by simpa using congrArg Array.toList e, h3, h4⟩
  exact law_call (EvalPlays_hg (Γ := []) hL hd (fun w h => ⟨rfl, h⟩) W (Holds.start W))
end
end Go.Proofs.YtinpgiafjjibnaaGreat
