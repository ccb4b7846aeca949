/- The marks of one key at different times. -/
import Derived.Test.YtfjjocopmknhgaaSLook
import Derived.Test.YtfjjocopmknhgaaIRLaw10RouteOnce
namespace Go.Proofs.Ytfjjocopmknhgaa
open Go Go.Sep Go.Sep.Bt
set_option linter.unusedSimpArgs false
set_option linter.unusedVariables false
set_option maxRecDepth 100000

/-- A later record of a key. -/
def Later (a b : Rec) : Prop := a.cnt ≤ b.cnt ∧ (a.cnt = b.cnt → a.home = b.home)
theorem Later.refl (a : Rec) : Later a a := ⟨Int.le_refl _, fun _ => rfl⟩
theorem Later.trans {a b c : Rec} (h1 : Later a b) (h2 : Later b c) : Later a c := ⟨Int.le_trans h1.1 h2.1, fun e => by
  have h3 : a.cnt = b.cnt := Int.le_antisymm h1.1 (by rw [e]; exact h2.1)
  rw [h1.2 h3]; exact h2.2 (by rw [← h3]; exact e)⟩
theorem later_move (n : Nat) (M : Recs) (k key : ByteArray) (to : Int) : Later (sGet n M key) (sGet n (sMove n M k to).1 key) := by
  unfold sMove
  split
  · exact Later.refl _
  split
  · exact Later.refl _
  rw [sGet_put]
  split
  · rename_i h
    subst h
    exact ⟨by simp only; omega, fun e => by simp only at e; omega⟩
  · exact Later.refl _
theorem sMove_len (n : Nat) (M : Recs) (k : ByteArray) (to : Int) : (sMove n M k to).1.length ≤ M.length + 1 := by
  unfold sMove
  split
  · simp
  split
  · simp
  exact putM_len _ _ _
abbrev RcX := Rec × Sl
def rcF (x : RcX) : List Value := recL x.1 x.2
theorem rcF_len (x : RcX) : (rcF x).length = 4 := rfl
def mkF (key : ByteArray) (x : RcX) : List Value := [.string key, .int .i64 x.1.home, .int .u64 x.1.cnt]
theorem mkF_len (key : ByteArray) (x : RcX) : (mkF key x).length = 3 := rfl
abbrev Chain (X : List RcX) : Prop := X.Pairwise fun a b => Later a.1 b.1
theorem chain_look {X : List RcX} (h : Chain X) {i k : Nat} {a b : RcX} (hi : X[i]? = some a) (hk : X[k]? = some b) : a.1.cnt = b.1.cnt → a.1.home = b.1.home := fun e => by
  obtain ⟨h1, rfl⟩ := List.getElem?_eq_some_iff.1 hi
  obtain ⟨h2, rfl⟩ := List.getElem?_eq_some_iff.1 hk
  rcases Nat.lt_trichotomy i k with h3 | h3 | h3
  · exact (List.pairwise_iff_getElem.1 h i k h1 h2 h3).2 e
  · subst h3; rfl
  · exact ((List.pairwise_iff_getElem.1 h k i h2 h1 h3).2 e.symm).symm
section
variable {B : World} {Γ Δ : List HProp} {key : ByteArray} {q : Bool → K}
/-- The last two loops. -/
theorem once3 {X : List RcX} {ms rs : Sl} {Em Er : Nat} {X2 : Sl → Sl → Int → K} (hX : Chain X) (hl : X.length ≤ 100) (h : HG B (SlC Em 3 ms (X.flatMap (mkF key)) :: SlC Er 4 rs (X.flatMap rcF) :: Γ) (q true)) :
    HG B (SlC Em 3 ms (X.flatMap (mkF key)) :: SlC Er 4 rs (X.flatMap rcF) :: Γ) (LoopK (α := Int) (fun Y x => law10_RouteOnce.b3 q X2 Y ms rs (rs.n : Int) x) 0) := by
  have e1 : ms.n = X.length ∨ True := .inr trivial
  refine s_cap ms fun a1 a2 a3 a4 => ?_
  refine s_cap rs fun b1 b2 b3 b4 => ?_
  rw [flatMap_len _ 3 (mkF_len key)] at a1
  rw [flatMap_len _ 4 rcF_len] at b1
  have hmn : ms.n = X.length := by omega
  have hrn : rs.n = X.length := by omega
  refine s_loopC (fun x : Int => ∃ i : Nat, x = (i : Int) ∧ i ≤ X.length) (fun x => X.length - x.toNat) ⟨0, rfl, Nat.zero_le _⟩ fun k' x hx hk => ?_
  obtain ⟨i, rfl, hi⟩ := hx
  unfold law10_RouteOnce.b3
  refine s_ite (fun hlt => ?_) fun hlt => h
  have hil : i < X.length := by simp only [decide_eq_true_eq] at hlt; omega
  have hxi : X[i]? = some X[i] := List.getElem?_eq_getElem hil
  generalize X[i] = a at hxi
  refine s_idxN rcF rcF_len (fun w hw => (own_rd (s := rs) hw).1) hxi ?_
  refine s_new fun r13 => ?_
  refine s_stN (b := r13) (l' := rcF a) ?_
  refine s_loopC (fun x : Int => ∃ k : Nat, x = (k : Int) ∧ k ≤ X.length) (fun x => X.length - x.toNat) ⟨0, rfl, Nat.zero_le _⟩ fun k2 x hx hk2 => ?_
  obtain ⟨k, rfl, hkl⟩ := hx
  unfold law10_RouteOnce.b4
  refine s_ite (fun hlt2 => ?_) fun hlt2 => ?_
  · have hkl2 : k < X.length := by simp only [decide_eq_true_eq] at hlt2; omega
    have hxk : X[k]? = some X[k] := List.getElem?_eq_getElem hkl2
    generalize X[k] = b at hxk
    have hoi := (flatMap_off (off := 2) (mkF_len key) hxi (by omega)).trans rfl
    have hok := (flatMap_off (off := 2) (mkF_len key) hxk (by omega)).trans rfl
    refine s_idxN (mkF key) (mkF_len key) (fun w hw => (own_rd (s := ms) hw).1) hxk ?_
    refine s_new fun m15 => ?_
    refine s_stN (b := m15) (l' := mkF key b) ?_
    refine s_dr ?_
    refine s_idx (s := ms) (i := k) ?_
    refine s_ldE (s := ms) (x := b.1.cnt) hok ?_
    refine s_idx (s := ms) (i := i) ?_
    refine s_ldE (s := ms) (x := a.1.cnt) hoi ?_
    have next : ∀ want, lookS a.1.cnt b.1.cnt a.1.home b.1.home = want → HG B (blk m15 (.cells (mkF key b).toArray ty_api_Mark (0, 0)) :: blk r13 (.cells (rcF a).toArray ty_api_Record (0, 0)) :: SlC Em 3 ms (X.flatMap (mkF key)) :: SlC Er 4 rs (X.flatMap rcF) :: Γ) (law10_RouteOnce.s6 q X2 k' k2 ms i ⟨r13, 0, none⟩ ⟨m15, 0, none⟩ want rs rs.n i ms ms.n k) := fun want hw => by
      unfold law10_RouteOnce.s6
      refine s_ldN (b := r13) (l' := rcF a) ?_
      refine s_ldN (b := m15) (l' := mkF key b) ?_
      refine lookHg ?_
      refine s_f ?_ (by simp [hw])
      refine s_ai ?_
      refine s_end (Δ := blk r13 (.cells (rcF a).toArray ty_api_Record (0, 0)) :: SlC Em 3 ms (X.flatMap (mkF key)) :: SlC Er 4 rs (X.flatMap rcF) :: Γ) ?_
      exact hk2 _ ⟨k + 1, by simp, hkl2⟩ (by omega)
    have s5 : ∀ want, (¬ a.1.cnt < b.1.cnt → lookS a.1.cnt b.1.cnt a.1.home b.1.home = want) → HG B (blk m15 (.cells (mkF key b).toArray ty_api_Mark (0, 0)) :: blk r13 (.cells (rcF a).toArray ty_api_Record (0, 0)) :: SlC Em 3 ms (X.flatMap (mkF key)) :: SlC Er 4 rs (X.flatMap rcF) :: Γ) (law10_RouteOnce.s5 q X2 k' k2 ms i ⟨r13, 0, none⟩ k ⟨m15, 0, none⟩ want rs rs.n i ms ms.n k) := fun want hw => by
      unfold law10_RouteOnce.s5
      refine s_dr ?_
      refine s_idx (s := ms) (i := k) ?_
      refine s_ldE (s := ms) (x := b.1.cnt) hok ?_
      refine s_idx (s := ms) (i := i) ?_
      refine s_ldE (s := ms) (x := a.1.cnt) hoi ?_
      refine s_ite (fun hb => ?_) fun hb => ?_
      · refine next _ ?_
        unfold lookS; rw [if_pos (by simpa using hb)]
      · exact next _ (hw (by simpa using hb))
    refine s_ite (fun hb => ?_) fun hb => ?_
    · have hb' : b.1.cnt < a.1.cnt := by simpa using hb
      refine s5 2 fun h5 => ?_
      unfold lookS
      rw [if_neg h5, if_neg fun h6 => by omega]
    · have hb' : ¬ b.1.cnt < a.1.cnt := by simpa using hb
      refine s5 0 fun h5 => ?_
      have he : a.1.cnt = b.1.cnt := by omega
      unfold lookS
      rw [if_neg h5, if_pos ⟨he.symm, (chain_look hX hxi hxk he).symm⟩]
  · refine s_ai ?_
    refine s_end (Δ := SlC Em 3 ms (X.flatMap (mkF key)) :: SlC Er 4 rs (X.flatMap rcF) :: Γ) ?_
    exact hk _ ⟨i + 1, by simp, hil⟩ (by omega)
theorem flatMap_snoc {α : Type} {f : α → List Value} {X : List α} {x : α} : X.flatMap f ++ f x = (X ++ [x]).flatMap f := by simp
theorem once2 {L : List Mv} {mv : Sl} (hr : RdC B mv 2 (L.flatMap mvF)) (hg0 : mvGreat L = false) (hks : key.size ≤ 200) (h : HG B Γ (q true)) : HG B Γ (law10_RouteOnce.s1 q mv key false) := by
  have hn := rd_len mvF_len (by omega) hr
  have hL : L.length ≤ 100 ∧ ∀ m ∈ L, m.key.size ≤ 200 := by
    simp only [mvGreat, Bool.or_eq_false_iff, decide_eq_false_iff_not, List.any_eq_false, decide_eq_true_eq] at hg0
    exact ⟨by omega, fun m hm => by have := hg0.2 m hm; omega⟩
  unfold law10_RouteOnce.s1
  refine s_f ?_
  refine storeNew_spec (n := 3) (by omega) (by omega) fun st => ?_
  refine s_f ?_
  refine s_new fun tm => ?_
  refine s_conv (A' := SlC ty_api_Mark 3 ⟨some ⟨tm, 0, none⟩, 0, 0⟩ (([] : List RcX).flatMap (mkF key))) (blk_SlC (vs := []) rfl (by simp)) ?_
  refine s_new fun tr => ?_
  refine s_conv (A' := SlC ty_api_Record 4 ⟨some ⟨tr, 0, none⟩, 0, 0⟩ (([] : List RcX).flatMap rcF)) (blk_SlC (vs := []) rfl (by simp)) ?_
  refine s_end (Δ := SlC ty_api_Mark 3 ⟨some ⟨tm, 0, none⟩, 0, 0⟩ (([] : List RcX).flatMap (mkF key)) :: SlC ty_api_Record 4 ⟨some ⟨tr, 0, none⟩, 0, 0⟩ (([] : List RcX).flatMap rcF) :: StoreR st 3 [] :: Γ) ?_
  refine s_loop (α := Sl × Sl × Int) (ι := List RcX × Recs) (fun x i => ∃ j : Nat, x.2.2 = (j : Int) ∧ j ≤ L.length ∧ i.1.length = j ∧ i.2.length ≤ j ∧ Chain i.1 ∧ ∀ y ∈ i.1, Later y.1 (sGet 3 i.2 key))
    (fun x i => SlC ty_api_Mark 3 x.1 (i.1.flatMap (mkF key)) :: SlC ty_api_Record 4 x.2.1 (i.1.flatMap rcF) :: StoreR st 3 i.2 :: Γ) (fun x _ => L.length - x.2.2.toNat) (([] : List RcX), ([] : Recs)) ?_ ?_
  · exact ⟨0, rfl, Nat.zero_le _, rfl, Nat.le_refl _, List.Pairwise.nil, by simp⟩
  rintro k' ⟨ms, rs, jj⟩ ⟨X, M⟩ ⟨j, hj, hjl, hXl, hMl, hch, hlt⟩ hk
  simp only at hj hXl hMl hch hlt hk ⊢
  subst hj
  unfold law10_RouteOnce.b2
  refine s_cap ms fun a1 a2 a3 a4 => ?_
  refine s_cap rs fun b1 b2 b3 b4 => ?_
  rw [flatMap_len _ 3 (mkF_len key)] at a1
  rw [flatMap_len _ 4 rcF_len] at b1
  refine s_ite (fun hb => ?_) fun hb => ?_
  · have hjl2 : j < L.length := by simp only [decide_eq_true_eq] at hb; omega
    refine s_idxN mvF mvF_len (fun w hw => hr.old hw) (List.getElem?_eq_getElem hjl2) ?_
    have hmk : L[j].key.size ≤ 200 := hL.2 _ (List.getElem_mem hjl2)
    generalize L[j] = m at hmk
    refine s_new fun m10 => ?_
    refine s_stN (b := m10) (l' := mvF m) ?_
    refine s_own st ?_
    refine storeGet_spec (by omega) fun sl hok => ?_
    generalize hR : sGet 3 M key = r at *
    refine s_new fun r11 => ?_
    refine s_stN (b := r11) (l' := recL r sl) ?_
    refine s_ld (b := r11) (x := r.home) ?_
    refine s_ld (b := r11) (x := r.cnt) ?_
    refine s_bld1 (cs := mkF key (r, sl)) ?_
    refine s_app1 (s := ms) (m := 1) (us := mkF key (r, sl)) (fun ms' hms' => ?_)
    refine s_ldN (b := r11) (l' := recL r sl) ?_
    refine s_bld1 (cs := rcF (r, sl)) ?_
    refine s_app1 (s := rs) (m := 1) (us := rcF (r, sl)) (fun rs' hrs' => ?_)
    refine s_ld (b := m10) (x := m.key) ?_
    refine s_ld (b := m10) (x := m.to) ?_
    refine s_own st ?_
    refine storeMove_spec (by omega) (by omega) ?_
    refine s_ai ?_
    rw [flatMap_snoc, flatMap_snoc]
    refine s_end (Δ := SlC ty_api_Mark 3 ms' ((X ++ [(r, sl)]).flatMap (mkF key)) :: SlC ty_api_Record 4 rs' ((X ++ [(r, sl)]).flatMap rcF) :: StoreR st 3 (sMove 3 M m.key m.to).1 :: Γ) ?_
    refine hk (ms', rs', (j : Int) + 1) (X ++ [(r, sl)], (sMove 3 M m.key m.to).1) ⟨j + 1, by simp, hjl2, by simp [hXl], ?_, ?_, ?_⟩ (by simp only; omega)
    · have := sMove_len 3 M m.key m.to
      simp only; omega
    · exact List.pairwise_append.2 ⟨hch, List.pairwise_singleton _ _, fun y hy z hz => by rw [List.mem_singleton.1 hz]; exact hlt y hy⟩
    · intro y hy
      have hlm := later_move 3 M m.key key m.to
      rw [hR] at hlm
      rcases List.mem_append.1 hy with hy | hy
      · exact (hlt y hy).trans hlm
      · rw [List.mem_singleton.1 hy]; exact hlm
  · refine once3 hch (by omega) ?_
    exact s_end h
theorem RouteOnce_hg {L : List Mv} {mv : Sl} (hr : RdC B mv 2 (L.flatMap mvF)) (h : HG B Γ (q true)) : HG B Γ (law10_RouteOnce.call mv key q) := fun w hw => by
  refine law10_RouteOnce_ok _ _ _ _ ?_
  refine hg hw ?_
  clear hw w
  unfold law10_RouteOnce
  refine speaks10 ?_
  refine s_f ?_
  refine great10 hr ?_
  have out : HG B Γ (law10_RouteOnce.s1 q mv key true) := by
    unfold law10_RouteOnce.s1
    exact s_t h
  refine s_ite (fun hb => out) fun hb => ?_
  by_cases hk : 200 < key.size
  · rw [show decide ((200 : Int) < (key.size : Int)) = true by simp; omega]
    exact out
  · rw [show decide ((200 : Int) < (key.size : Int)) = false by simp; omega]
    exact once2 hr hb (by omega) h
end
end Go.Proofs.Ytfjjocopmknhgaa

namespace Go.Proofs.Ytfjjocopmknhgaa
open Go Go.Sep Go.RowKit
theorem RouteOnce_walk (W : World) (s : Sl) (y0 : Rdy W Sh_ty_s_argosylaw10_Move (Sl.val s).cells.toList) (x : ByteArray) (_ : x.size ≤ maxLen) :
    Calls Try.prog 3 #[s.val, .string x] W (Ret fun v w' => v = .bool true ∧ Below W.heap.size W w') := by
  obtain ⟨L, hL, _⟩ := rdy_moves y0
  exact law_call (RouteOnce_hg (Γ := []) hL (fun w h => ⟨rfl, h⟩) W (Holds.start W))
end Go.Proofs.Ytfjjocopmknhgaa
