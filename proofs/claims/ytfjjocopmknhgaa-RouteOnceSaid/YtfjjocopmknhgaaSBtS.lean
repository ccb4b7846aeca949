/- The B-tree of records by strings is one of Bt's. -/
import Derived.Test.YtfjjocopmknhgaaBt5
import Derived.Test.YtfjjocopmknhgaaIRBtree
import Derived.Test.YtfjjocopmknhgaaIRLibBtree
import Derived.Test.YtfjjocopmknhgaaIRLibCmp
namespace Go.Proofs.Ytfjjocopmknhgaa
open Go Go.Sep Go.Sep.Bt
set_option linter.unusedSimpArgs false
set_option linter.unusedVariables false
set_option maxRecDepth 100000

noncomputable def btS : BtT ByteArray where
  P := Try.prog
  tI := ty_btree_item_string_api_Record
  tSI := ty_s_btree_item_string_api_Record
  tV := ty_api_Record
  tK := ty_p_btree_node_string_api_Record
  tSK := ty_s_p_btree_node_string_api_Record
  tN := ty_btree_node_string_api_Record
  tT := ty_btree_Tree_string_api_Record
  nv := 4
  kz := .string ⟨#[]⟩
  vz := [.bool false, Sl.val ⟨none, 0, 0⟩, .int .i64 0, .int .u64 0]
  kV := Value.string
  cv := .func (.func 107) #[] #[]
  bsC := slices_BinarySearchFunc_s_btree_item_string_api_Record_btree_item_string_api_Record_string.call
  nsearchC := btree_node_string_api_Record_search.call
  nputC := btree_node_string_api_Record_put.call
  insIC := slices_Insert_s_btree_item_string_api_Record_btree_item_string_api_Record.call
  insKC := slices_Insert_s_btree_node_string_api_Record_btree_node_string_api_Record.call
  cloneIC := slices_Clone_s_btree_item_string_api_Record_btree_item_string_api_Record.call
  cloneKC := slices_Clone_s_btree_node_string_api_Record_btree_node_string_api_Record.call

/-- How strings are compared. -/
def cmpS (a b : ByteArray) : Int := if a.toList < b.toList then -1 else if a.toList = b.toList then 0 else 1
theorem toList_inj {a b : ByteArray} (h : a.toList = b.toList) : a = b := by
  obtain ⟨x, rfl⟩ := bs_of a
  obtain ⟨y, rfl⟩ := bs_of b
  rw [bs_list, bs_list] at h
  rw [h]
theorem cmpS_neg {a b : ByteArray} : cmpS a b < 0 ↔ a.toList < b.toList := by
  unfold cmpS
  split
  · simp [*]
  · split <;> simp [*]
theorem cmpS_zero {a b : ByteArray} : cmpS a b = 0 ↔ a = b := by
  unfold cmpS
  split
  · rename_i h
    simp only [show ¬ ((-1 : Int) = 0) by omega, false_iff]
    rintro rfl; exact List.lt_irrefl _ h
  · split
    · rename_i h; simp [toList_inj h]
    · rename_i h
      simp only [show ¬ ((1 : Int) = 0) by omega, false_iff]
      rintro rfl; exact h rfl
theorem list_tri {x y : List UInt8} (h1 : ¬ x < y) (h2 : ¬ x = y) : y < x := by
  have h4 : y ≤ x := by rw [← List.not_lt]; exact h1
  rcases List.le_iff_lt_or_eq.1 h4 with h5 | h5
  · exact h5
  · exact absurd h5.symm h2
theorem cmpS_pos {a b : ByteArray} : 0 < cmpS a b ↔ b.toList < a.toList := by
  unfold cmpS
  split
  · rename_i h
    simp only [show ¬ (0 < (-1 : Int)) by omega, false_iff]
    exact fun h2 => List.lt_irrefl _ (List.lt_trans h h2)
  · split
    · rename_i h
      simp only [show ¬ (0 < (0 : Int)) by omega, false_iff]
      rw [h]; exact List.lt_irrefl _
    · rename_i h1 h2
      simp only [show 0 < (1 : Int) by omega, true_iff]
      exact list_tri h1 h2
theorem isNaN_spec {B : World} {Γ : List HProp} {x : ByteArray} {q : Bool → K} (h : HG B Γ (q false)) : HG B Γ (cmp_isNaN_string.call x q) := fun w hw => cmp_isNaN_string_ok _ _ _ (by unfold cmp_isNaN_string; simpa using h w hw)
theorem Compare_spec {B : World} {Γ : List HProp} {x y : ByteArray} {q : Int → K} (h : HG B Γ (q (cmpS x y))) : HG B Γ (cmp_Compare_string.call x y q) := fun w hw => by
  refine cmp_Compare_string_ok _ _ _ _ ?_
  refine hg hw ?_
  unfold cmp_Compare_string
  refine isNaN_spec (isNaN_spec ?_)
  refine s_f ?_ rfl
  refine s_f ?_ rfl
  rw [gt_dec, bytesLess_dec]
  refine s_ite (fun h1 => ?_) fun h1 => ?_
  · have e : cmpS x y = -1 := by unfold cmpS; rw [if_pos (by simpa using h1)]
    rw [e] at h; exact h
  refine s_ite (fun h2 => ?_) fun h2 => ?_
  · have h3 : y.toList < x.toList := by simpa using h2
    have e : cmpS x y = 1 := by
      unfold cmpS
      rw [if_neg (by simpa using h1), if_neg fun h4 => by rw [h4] at h3; exact List.lt_irrefl _ h3]
    rw [e] at h; exact h
  · have h3 : ¬ y.toList < x.toList := by simpa using h2
    have e : cmpS x y = 0 := by
      unfold cmpS
      rw [if_neg (by simpa using h1), if_pos (Classical.byContradiction fun h4 => h3 (list_tri (by simpa using h1) h4))]
    rw [e] at h; exact h
theorem btS_ok : BtOk btS cmpS where
  kf := fun _ => rfl
  kzf := rfl
  vz := ⟨rfl, rfl⟩
  TI := by kernel_rfl
  ZI := by kernel_rfl
  TK := by kernel_rfl
  ZK := by kernel_rfl
  tr := fun h1 h2 => cmpS_neg.2 (List.lt_trans (cmpS_neg.1 h1) (cmpS_neg.1 h2))
  eq := cmpS_zero
  sw := by intro a b; rw [cmpS_neg, cmpS_pos]
  cmp := fun a b vs q hl h => by
    refine s_callv ?_
    refine fun w hw => btree_node_string_api_Record_search_1_ok _ _ _ _ ?_
    refine hg hw ?_
    clear hw w
    unfold btree_node_string_api_Record_search_1
    refine s_new fun t => ?_
    refine s_ld (b := t) (x := a) ?_
    refine Compare_spec ?_
    exact s_end h
  bs := fun s k Q w h => slices_BinarySearchFunc_s_btree_item_string_api_Record_btree_item_string_api_Record_string_ok _ _ _ _ _ h
  search := fun n k Q w h => btree_node_string_api_Record_search_ok _ _ _ _ h
  put := fun n x Q w h => btree_node_string_api_Record_put_ok _ _ _ _ h
  insI := ⟨_, _, fun s i v Q w h => slices_Insert_s_btree_item_string_api_Record_btree_item_string_api_Record_ok _ _ _ _ _ h⟩
  insK := ⟨_, _, fun s i v Q w h => slices_Insert_s_btree_node_string_api_Record_btree_node_string_api_Record_ok _ _ _ _ _ h⟩
  cloneI := fun s Q w h => slices_Clone_s_btree_item_string_api_Record_btree_item_string_api_Record_ok _ _ _ h
  cloneK := fun s Q w h => slices_Clone_s_btree_node_string_api_Record_btree_node_string_api_Record_ok _ _ _ h

section
variable {B : World} {Γ : List HProp}
theorem btNew_spec {Q : Option Addr → K} (h : ∀ t, HG B (TreeR btS cmpS t [] :: Γ) (Q (some ⟨t, 0, none⟩))) : HG B Γ (btree_New_string_api_Record.call Q) := fun w hw =>
  btree_New_string_api_Record_ok _ _ (show tnew btS Q w from hg hw (tnew_spec h))
theorem btGet_spec {t : Nat} {L : List btS.It} {k : ByteArray} {Q : Array Value → Bool → K} (hfound : ∀ A v C, L = A ++ (k, v) :: C → HG B (TreeR btS cmpS t L :: Γ) (Q v.1.toArray true)) (hnot : (∀ A C, L = A ++ C → (∀ x ∈ A, cmpS x.1 k < 0) → (∀ x ∈ C, cmpS k x.1 < 0) → HG B (TreeR btS cmpS t L :: Γ) (Q btS.vz.toArray false))) :
    HG B (TreeR btS cmpS t L :: Γ) (btree_Tree_string_api_Record_Get.call (some ⟨t, 0, none⟩) k Q) := fun w hw =>
  btree_Tree_string_api_Record_Get_ok _ _ _ _ (show tget btS (some ⟨t, 0, none⟩) k Q w from hg hw (tget_spec btS_ok hfound hnot))
theorem btPut_spec {t : Nat} {L : List btS.It} {k : ByteArray} {v : Cel btS.nv} {Q : Array Value → Bool → K} (hL : L.length < 1000000000) (h : ∀ L' old had, PutR cmpS (btS.z0 btS_ok.vz) L k v L' old had → HG B (TreeR btS cmpS t L' :: Γ) (Q old.1.toArray had)) :
    HG B (TreeR btS cmpS t L :: Γ) (btree_Tree_string_api_Record_Put.call (some ⟨t, 0, none⟩) k v.1.toArray Q) := fun w hw =>
  btree_Tree_string_api_Record_Put_ok _ _ _ _ _ (show tput btS (some ⟨t, 0, none⟩) k v.1.toArray Q w from hg hw (tput_spec btS_ok hL h))
end
end Go.Proofs.Ytfjjocopmknhgaa
