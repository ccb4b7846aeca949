/- A B-tree's node, and what put does to it. Holds for every program. -/
import Derived.Test.YtfjjocopmknhgaaBt
namespace Go.Sep
open Go Go.RowKit
set_option linter.unusedSimpArgs false
set_option linter.unusedVariables false
namespace Bt
section
variable {κ : Type} {G : BtT κ} {c : κ → κ → Int} {B : World} {Γ Δ : List HProp}
theorem flatMap_drop {α : Type} {f : α → List Value} {esz : Nat} (hf : ∀ x, (f x).length = esz) : ∀ (L : List α) (i : Nat), (L.flatMap f).drop (i * esz) = (L.drop i).flatMap f
  | L, 0 => by simp
  | [], i + 1 => by simp
  | x :: L, i + 1 => by
    rw [List.flatMap_cons, List.drop_succ_cons, ← flatMap_drop hf L i, Nat.add_mul, Nat.one_mul, Nat.add_comm, ← List.drop_drop, ← hf x, List.drop_left]
theorem flatMap_take {α : Type} {f : α → List Value} {esz : Nat} (hf : ∀ x, (f x).length = esz) : ∀ (L : List α) (i : Nat), (L.flatMap f).take (i * esz) = (L.take i).flatMap f
  | L, 0 => by simp
  | [], i + 1 => by simp
  | x :: L, i + 1 => by
    rw [List.flatMap_cons, List.take_succ_cons, List.flatMap_cons, ← flatMap_take hf L i, Nat.add_mul, Nat.one_mul, Nat.add_comm, ← hf x, List.take_length_add_append]
theorem s_ldEl {α : Type} {f : α → List Value} {esz E : Nat} {s : Sl} {L : List α} {i : Nat} {x : α} {k : Array Value → K} (hf : ∀ x, (f x).length = esz) (hx : L[i]? = some x) (h : HG B Γ (k (f x).toArray)) [o : OwnS s Γ (SlC E esz s (L.flatMap f)) Δ] : HG B Γ (LdN (elA s i esz) esz k) := by
  rw [← add0 (elA s i esz)]
  exact s_ldEN (s := s) (by simpa using flatMap_el hf hx) (hf x) h
abbrev nodeB (G : BtT κ) (b : Nat) (s kd : Sl) : HProp := blk b (.cells [s.val, kd.val].toArray G.tN (0, 0))
abbrev itsR (G : BtT κ) (s : Sl) (its : List G.It) : HProp := SlC G.tI (G.nv + 1) s (its.flatMap G.f)
abbrev kpsR (G : BtT κ) (s : Sl) (kp : List (Option Addr)) : HProp := SlC G.tK 1 s (kp.map Value.pointer)
abbrev valB (G : BtT κ) (b : Nat) (v : Cel G.nv) : HProp := blk b (.cells v.1.toArray G.tV (0, 0))
/-- A value's block is read, written and read. -/
theorem s_ret3 {o : Nat} {v : Cel G.nv} {k : Array Value → K} (h : HG B Γ (k v.1.toArray)) [p : Own o Γ (valB G o v) Δ] : HG B Γ (LdN ⟨o, 0, none⟩ G.nv fun t => StN ⟨o, 0, none⟩ G.nv t <| LdN ⟨o, 0, none⟩ G.nv k) := by
  have e : (v.1.drop 0).take G.nv = v.1 := by rw [List.drop_zero, List.take_of_length_le (Nat.le_of_eq v.2.1)]
  refine fun w hw => ?_
  refine hg (hw.perm p.perm) ?_
  refine s_ldN (b := o) ?_ e v.2.1
  refine s_stN (b := o) ?_ v.2.1 v.2.1 v.2.2
  refine s_ldN (b := o) ?_ e v.2.1
  exact fun w hw => h w (hw.perm p.perm.symm)
theorem kp_flat (kp : List (Option Addr)) : ∀ v ∈ kp.map Value.pointer, flatV v = true := fun v hv => by obtain ⟨a, _, rfl⟩ := List.mem_map.1 hv; rfl
theorem kp_len (kp : List (Option Addr)) : (kp.map Value.pointer).length = kp.length * 1 := by simp

theorem s_s1 (ok : BtOk G c) {o b : Nat} {old : Cel G.nv} {had : Bool} {s kd : Sl} {its : List G.It} {kp : List (Option Addr)} {Q : Array Value → Bool → Option Addr → Option Addr → K} (hs : its.length ≤ 6) (hk : kp = [] ∨ kp.length = its.length + 1)
    (h1 : its.length ≤ 5 → HG B (nodeB G b s kd :: itsR G s its :: kpsR G kd kp :: Γ) (Q old.1.toArray had none none))
    (h2 : ∀ x, its.length = 6 → its = its.take 2 ++ x :: its.drop 3 → ∀ s1 c1 r s2 c2 mb, HG B (blk mb (.cells (G.f x).toArray G.tI (0, 0)) :: nodeB G b s1 c1 :: itsR G s1 (its.take 2) :: kpsR G c1 (kp.take 3) :: nodeB G r s2 c2 :: itsR G s2 (its.drop 3) :: kpsR G c2 (kp.drop 3) :: Γ) (Q old.1.toArray had (some ⟨mb, 0, none⟩) (some ⟨r, 0, none⟩))) :
    HG B (valB G o old :: nodeB G b s kd :: itsR G s its :: kpsR G kd kp :: Γ) (nput_s1 G Q (some ⟨b, 0, none⟩) ⟨o, 0, none⟩ had) := by
  refine s_cap s fun l1 l2 l3 l4 => ?_
  refine s_cap kd fun m1 m2 m3 m4 => ?_
  rw [flatMap_len G.f _ G.f_len] at l1
  have hn : s.n = its.length := (Nat.eq_of_mul_eq_mul_right (by omega) l1).symm
  have hkn : kd.n = kp.length := by rw [kp_len] at m1; omega
  unfold nput_s1
  refine s_nn ?_
  refine s_ld (b := b) (x := s) ?_
  refine s_ite (fun hb => ?_) fun hb => ?_
  · refine s_ret3 ?_
    exact s_end (h1 (by simp only [decide_eq_true_eq] at hb; omega))
  have h6 : its.length = 6 := by simp only [decide_eq_false_iff_not] at hb; omega
  obtain ⟨x, hx⟩ : ∃ x, its[2]? = some x := ⟨_, List.getElem?_eq_getElem (by omega)⟩
  have hsplit : its = its.take 2 ++ x :: its.drop 3 := by
    have := List.drop_eq_getElem_cons (l := its) (i := 2) (by omega)
    rw [List.getElem?_eq_getElem (by omega), Option.some.injEq] at hx
    rw [hx] at this
    rw [← this, List.take_append_drop]
  refine s_ld (b := b) (x := s) ?_
  refine s_idx (s := s) (i := 2) ?_
  refine s_ldEl (s := s) G.f_len hx ?_
  refine s_new fun mb => ?_
  refine s_stN (b := mb) ?_ (by simp [ok.vz.1]) (G.f_len x) (List.all_eq_true.2 (f_flat ok x))
  refine s_ld (b := b) (x := s) ?_
  refine s_slc (lo := 3) (hi := s.n) (mx := s.c) ?_
  refine fun w hw => ok.cloneI _ _ _ ?_
  refine hg hw ?_
  clear hw w
  have hfl := fl_flat ok its
  refine s_clone0 (s := ⟨cutA s.a 3 s.c (G.nv + 1), s.n - 3, s.c - 3⟩) (us := (its.drop 3).flatMap G.f) (esz := G.nv + 1) (fun w hw => ?_) (fl_flat ok _) (by simp only; omega) (fun s2 hs2 => ?_) ok.TI
  · rw [← flatMap_drop G.f_len]
    exact (own_rd (s := s) hw).1.drop (by omega) l2 l3
  refine s_new fun r => ?_
  refine s_ld (b := b) (x := s) ?_
  refine s_slc (lo := 0) (hi := 2) (mx := 2) ?_
  rw [cut0 l3]
  refine s_st (b := b) ?_
  refine s_shrink (s := s) (m := 2) (c' := 2) (by omega) (by omega) (by omega) ?_
  rw [flatMap_take G.f_len]
  refine s_ld (b := b) (x := kd) ?_
  refine s_ite (fun hb2 => ?_) fun hb2 => ?_
  · have hk7 : kp.length = 7 := by
      simp only [decide_eq_true_eq] at hb2
      rcases hk with rfl | hk
      · simp only [List.length_nil] at hkn; omega
      · omega
    refine s_ld (b := b) (x := kd) ?_
    refine s_slc (lo := 3) (hi := kd.n) (mx := kd.c) ?_
    refine fun w hw => ok.cloneK _ _ _ ?_
    refine hg hw ?_
    clear hw w
    refine s_clone0 (s := ⟨cutA kd.a 3 kd.c 1, kd.n - 3, kd.c - 3⟩) (us := (kp.drop 3).map Value.pointer) (esz := 1) (fun w hw => ?_) (kp_flat _) (by simp only; omega) (fun c2 hc2 => ?_) ok.TK
    · have := (own_rd (s := kd) hw).1.drop (l := 3) (c := kd.c) (by omega) m2 m3
      simpa using this
    refine s_st (b := r) ?_
    refine s_ld (b := b) (x := kd) ?_
    refine s_slc (lo := 0) (hi := 3) (mx := 3) ?_
    rw [cut0 m3]
    refine s_st (b := b) ?_
    refine s_shrink (s := kd) (m := 3) (c' := 3) (by omega) (by omega) (by omega) ?_
    rw [show (kp.map Value.pointer).take (3 * 1) = (kp.take 3).map Value.pointer by simp]
    unfold nput_s2
    refine s_ret3 ?_
    exact s_end (h2 x h6 hsplit ⟨s.a, 2, 2⟩ ⟨kd.a, 3, 3⟩ r s2 c2 mb)
  · have hk0 : kp = [] := by
      simp only [decide_eq_false_iff_not] at hb2
      rcases hk with rfl | hk
      · rfl
      · omega
    have e1 : kp.take 3 = kp := by rw [hk0]; rfl
    have e2 : kp.drop 3 = [] := by rw [hk0]; rfl
    simp only [e1, e2] at h2
    unfold nput_s2
    refine s_ret3 ?_
    refine fun w hw => ?_
    refine hg (show Holds B (kpsR G ⟨none, 0, 0⟩ [] :: _) w from hw.nilSl G.tK 1) ?_
    exact s_end (h2 x h6 hsplit ⟨s.a, 2, 2⟩ kd r s2 ⟨none, 0, 0⟩ mb)
end
end Bt
end Go.Sep
