/- What put does to a B-tree's node. Holds for every program. -/
import Derived.Test.YtfjjocopmknhgaaBt3
namespace Go.Sep
open Go Go.RowKit
set_option linter.unusedSimpArgs false
set_option linter.unusedVariables false
namespace Bt
section
variable {κ : Type} {G : BtT κ} {c : κ → κ → Int} {B : World} {Γ Δ : List HProp}

theorem at_mid {α : Type} {A C : List α} {x : α} : (A ++ x :: C)[A.length]? = some x := by simp
/-- A value in the midst of items is another one. -/
theorem lay_val {A C : List G.It} {k : κ} {v0 v : Cel G.nv} : layAt ((A ++ (k, v0) :: C).flatMap G.f) (A.length * (G.nv + 1) + 1) v.1 = (A ++ (k, v) :: C).flatMap G.f := by
  have e1 : (A ++ (k, v0) :: C).flatMap G.f = (A.flatMap G.f ++ [G.kV k]) ++ (v0.1 ++ C.flatMap G.f) := by simp [BtT.f]
  have e2 : (A ++ (k, v) :: C).flatMap G.f = (A.flatMap G.f ++ [G.kV k]) ++ (v.1 ++ C.flatMap G.f) := by simp [BtT.f]
  rw [e1, e2, layAt_mid (by simp [flatMap_len G.f _ G.f_len]) (by rw [v0.2.1, v.2.1])]
theorem drop_val {A C : List G.It} {k : κ} {v0 : Cel G.nv} : (((A ++ (k, v0) :: C).flatMap G.f).drop (A.length * (G.nv + 1) + 1)).take G.nv = v0.1 := by
  have e1 : (A ++ (k, v0) :: C).flatMap G.f = (A.flatMap G.f ++ [G.kV k]) ++ (v0.1 ++ C.flatMap G.f) := by simp [BtT.f]
  rw [e1, show A.length * (G.nv + 1) + 1 = (A.flatMap G.f ++ [G.kV k]).length by simp [flatMap_len G.f _ G.f_len], List.drop_left, List.take_left' v0.2.1]
theorem ins_items {A C : List G.It} {x : G.It} : ((A ++ C).flatMap G.f).take (A.length * (G.nv + 1)) ++ G.f x ++ ((A ++ C).flatMap G.f).drop (A.length * (G.nv + 1)) = (A ++ x :: C).flatMap G.f := by
  rw [flatMap_take G.f_len, flatMap_drop G.f_len, List.take_left, List.drop_left]
  simp
theorem ins_kids {A C : List (Option Addr)} {x : Option Addr} : ((A ++ C).map Value.pointer).take (A.length * 1) ++ [Value.pointer x] ++ ((A ++ C).map Value.pointer).drop (A.length * 1) = (A ++ x :: C).map Value.pointer := by
  rw [Nat.mul_one, ← List.map_take, ← List.map_drop, List.take_left, List.drop_left]
  simp

theorem s_kids_split {d : Nat} {A C : List (Kid G)} {k : K} (h : HG B (kidsR G d A :: kidsR G d C :: Γ) k) : HG B (kidsR G d (A ++ C) :: Γ) k := fun w hw => by
  have h1 := Holds.flat.1 hw
  rw [List.map_append, List.append_assoc] at h1
  have h2 : Holds B ((C.map fun q => NodeR G d 2 q.1 q.2) ++ kidsR G d A :: Γ) w := (Holds.flat.2 h1).perm List.perm_middle.symm
  exact h w (Holds.flat.2 h2).swap
theorem zip_of {q0 : Kid G} {ps : List (G.It × Kid G)} {A C : List G.It} (e : ps.map Prod.fst = A ++ C) : ∃ l q r, A = l.map Prod.snd ∧ C = r.map Prod.fst ∧ q0 :: ps.map Prod.snd = l.map Prod.fst ++ q :: r.map Prod.snd ∧ psL q0 ps = preL l ++ q.2 ++ postL r ∧ ps.length = l.length + r.length := by
  have hl := congrArg List.length e
  simp only [List.length_map, List.length_append] at hl
  obtain ⟨l, q, r, h1, h2, h3, h4⟩ := zfwd A.length q0 ps (by omega)
  rw [e] at h2
  obtain ⟨h5, h6⟩ := List.append_inj h2 (by simp [h1])
  refine ⟨l, q, r, h5, h6, h3, h4, ?_⟩
  rw [hl, h6, h1, List.length_map]
theorem nput_spec (ok : BtOk G c) : ∀ (d : Nat) {m b : Nat} {M : List G.It} {k : κ} {v : Cel G.nv} {Γ : List HProp} {Q : Array Value → Bool → Option Addr → Option Addr → K}, 1 ≤ m → Srt c M →
    (∀ M' old had, PutR c (G.z0 ok.vz) M k v M' old had → HG B (NodeR G d 2 b M' :: Γ) (Q old.1.toArray had none none)) →
    (∀ M1 x M2 old had r mb, PutR c (G.z0 ok.vz) M k v (M1 ++ x :: M2) old had → HG B (blk mb (.cells (G.f x).toArray G.tI (0, 0)) :: NodeR G d 2 b M1 :: NodeR G d 2 r M2 :: Γ) (Q old.1.toArray had (some ⟨mb, 0, none⟩) (some ⟨r, 0, none⟩))) →
    HG B (NodeR G d m b M :: Γ) (G.nputC (some ⟨b, 0, none⟩) (G.f (k, v)).toArray Q) := by
  intro d
  induction d with
  | zero =>
    intro m b M k v Γ Q hm hs h1 h2
    refine fun w hw => ok.put _ _ _ _ ?_
    refine hg hw ?_
    clear hw w
    refine s_node0 fun s kd _ hl => ?_
    refine s_cap kd fun m1 m2 m3 m4 => ?_
    unfold nput
    refine s_new fun x3 => ?_
    refine s_new fun o => ?_
    refine s_ld (b := x3) (x := k) ?_
    refine s_search ok (s := s) (kd := kd) hs (by omega) (fun A v0 C e => ?_) fun A C e hA hC => ?_
    · subst e
      refine s_t ?_
      refine s_nn ?_
      refine s_cap s fun l1 l2 l3 l4 => ?_
      rw [flatMap_len G.f _ G.f_len] at l1
      have hn : s.n = (A ++ (k, v0) :: C).length := (Nat.eq_of_mul_eq_mul_right (by omega) l1).symm
      have hlen : (A ++ (k, v0) :: C).length = A.length + (C.length + 1) := List.length_append
      refine s_ld (b := b) (x := s) ?_
      refine s_idx (s := s) (i := A.length) ?_
      refine s_ldEN (s := s) (l' := v0.1) drop_val v0.2.1 ?_
      refine s_stN (b := o) ?_ ok.vz.1 v0.2.1 v0.2.2
      refine s_dr ?_
      refine s_ld (b := b) (x := s) ?_
      refine s_ldN (b := x3) (off := 0 + 1) (l := G.f (k, v)) (l' := v.1) ?_ (List.take_of_length_le (Nat.le_of_eq v.2.1)) v.2.1
      refine s_idx (s := s) (i := A.length) ?_
      refine s_stEN (s := s) ?_ v.2.1 ?_ v.2.2
      rotate_left
      · rw [flatMap_len G.f _ G.f_len, hlen, Nat.add_mul, Nat.add_mul]; omega
      rw [lay_val]
      refine s_ret3 (v := v0) ?_
      refine s_end (Δ := nodeB G b s kd :: itsR G s (A ++ (k, v) :: C) :: kpsR G kd [] :: Γ) ?_
      refine s_mk0 (m := 2) (by simp) (by simpa using hl) (h1 _ _ _ (.inl ⟨A, C, rfl, rfl, rfl⟩))
    · subst e
      refine s_f ?_
      refine s_nn ?_
      refine s_ld (b := b) (x := kd) ?_
      refine s_t ?_ (by simpa using m1.symm)
      refine s_dr ?_
      refine s_ws ?_
      refine s_ldS (b := b) (x := s) ?_
      refine s_ldNS (b := x3) (l' := G.f (k, v)) ?_ (List.take_of_length_le (by simp [G.f_len])) (G.f_len _)
      refine s_bld1 ?_ (by simp [ok.vz.1]) (G.f_len _)
      refine s_new fun t => ?_
      refine s_sv ?_
      obtain ⟨R, rot, hins⟩ := ok.insI
      refine s_cap s fun l1 l2 l3 l4 => ?_
      rw [flatMap_len G.f _ G.f_len] at l1
      have hn : s.n = (A ++ C).length := (Nat.eq_of_mul_eq_mul_right (by omega) l1).symm
      have hlen : (A ++ C).length = A.length + C.length := List.length_append
      refine fun w hw => hins _ _ _ _ _ ?_
      refine hg hw ?_
      clear hw w
      refine s_ins (s := s) (i := A.length) (t := t) (by omega) (by omega) (G.f_len _) (by omega) (fl_flat ok _) (f_flat ok _) (fun s' hs' => ?_) ok.TI ok.ZI
      rw [ins_items]
      refine s_st (b := b) ?_
      refine s_end (Δ := valB G o (G.z0 ok.vz) :: nodeB G b s' kd :: itsR G s' (A ++ (k, v) :: C) :: kpsR G kd [] :: Γ) ?_
      have hput : PutR c (G.z0 ok.vz) (A ++ C) k v (A ++ (k, v) :: C) (G.z0 ok.vz) false := .inr ⟨A, C, rfl, hA, hC, rfl, rfl, rfl⟩
      refine s_s1 ok (by simp; omega) (.inl rfl) (fun h5 => ?_) fun x h6 hx s1 c1 r s2 c2 mb => ?_
      · refine s_mk0 (m := 2) (by simp) h5 (h1 _ _ _ hput)
      · have h7 := h2 ((A ++ (k, v) :: C).take 2) x ((A ++ (k, v) :: C).drop 3) _ _ r mb (by rw [← hx]; exact hput)
        simp only [List.take_nil, List.drop_nil]
        refine s_end (Δ := nodeB G b s1 c1 :: itsR G s1 ((A ++ (k, v) :: C).take 2) :: kpsR G c1 [] :: nodeB G r s2 c2 :: itsR G s2 ((A ++ (k, v) :: C).drop 3) :: kpsR G c2 [] :: blk mb (.cells (G.f x).toArray G.tI (0, 0)) :: Γ) ?_
        refine s_mk0 (m := 2) (fun _ h => ?_) (by rw [List.length_take]; omega) ?_
        · have := congrArg List.length h; simp only [List.length_take, List.length_nil] at this; omega
        refine s_end (Δ := nodeB G r s2 c2 :: itsR G s2 ((A ++ (k, v) :: C).drop 3) :: kpsR G c2 [] :: blk mb (.cells (G.f x).toArray G.tI (0, 0)) :: NodeR G 0 2 b ((A ++ (k, v) :: C).take 2) :: Γ) ?_
        refine s_mk0 (m := 2) (fun _ h => ?_) (by rw [List.length_drop]; omega) ?_
        · have := congrArg List.length h; simp only [List.length_drop, List.length_nil] at this; omega
        exact s_end h7
  | succ d ih =>
    intro m b M k v Γ Q hm hs h1 h2
    refine fun w hw => ok.put _ _ _ _ ?_
    refine hg hw ?_
    clear hw w
    refine s_nodeS fun s kd q0 ps hne hl hM => ?_
    subst hM
    unfold nput
    refine s_new fun x3 => ?_
    refine s_new fun o => ?_
    refine s_ld (b := x3) (x := k) ?_
    refine s_search ok (s := s) (kd := kd) (hs.sub (its_sub q0 ps)) (by simp; omega) (fun A v0 C e => ?_) fun A C e hA hC => ?_
    · obtain ⟨l, q, r, hA, hC, hK, hL, hlen⟩ := zip_of (q0 := q0) e
      rw [e, hK]
      rw [hL] at hs h1 h2
      obtain ⟨⟨xx, q1⟩, r, rfl, hxx, hC'⟩ := List.map_eq_cons_iff.1 hC.symm
      simp only at hxx
      subst hxx
      subst hA
      subst hC'
      refine s_t ?_
      refine s_nn ?_
      refine s_cap s fun l1 l2 l3 l4 => ?_
      rw [flatMap_len G.f _ G.f_len] at l1
      have hil : (l.map Prod.snd ++ (k, v0) :: r.map Prod.fst).length = (l.map Prod.snd).length + (r.length + 1) := by simp
      have hn : s.n = (l.map Prod.snd).length + (r.length + 1) := by rw [← hil]; exact (Nat.eq_of_mul_eq_mul_right (by omega) l1).symm
      refine s_ld (b := b) (x := s) ?_
      refine s_idx (s := s) (i := (l.map Prod.snd).length) ?_
      refine s_ldEN (s := s) (l' := v0.1) drop_val v0.2.1 ?_
      refine s_stN (b := o) ?_ ok.vz.1 v0.2.1 v0.2.2
      refine s_dr ?_
      refine s_ld (b := b) (x := s) ?_
      refine s_ldN (b := x3) (off := 0 + 1) (l := G.f (k, v)) (l' := v.1) ?_ (List.take_of_length_le (Nat.le_of_eq v.2.1)) v.2.1
      refine s_idx (s := s) (i := (l.map Prod.snd).length) ?_
      refine s_stEN (s := s) ?_ v.2.1 ?_ v.2.2
      rotate_left
      · rw [flatMap_len G.f _ G.f_len, hil, Nat.add_mul, Nat.add_mul]; omega
      rw [lay_val]
      refine s_ret3 (v := v0) ?_
      obtain ⟨q0', ps', e1, e2, e3, e4⟩ := zback l q (((k, v), q1) :: r)
      have e5 : l.map Prod.fst ++ q :: (((k, v0), q1) :: r).map Prod.snd = q0' :: ps'.map Prod.snd := e3.symm
      have e6 : l.map Prod.snd ++ (k, v) :: r.map Prod.fst = ps'.map Prod.fst := e2.symm
      rw [e5, e6]
      refine s_end (Δ := nodeB G b s kd :: itsR G s (ps'.map Prod.fst) :: kpsR G kd ((q0' :: ps'.map Prod.snd).map ptr) :: kidsR G d (q0' :: ps'.map Prod.snd) :: Γ) ?_
      simp only [List.length_cons] at hlen e1
      refine s_mkS (m := 2) (fun _ h => ?_) (by omega) ?_
      · rw [h, List.length_nil] at e1; omega
      refine h1 _ _ _ (.inl ⟨preL l ++ q.2, q1.2 ++ postL r, ?_, ?_, rfl⟩)
      · simp [postL]
      · rw [e4]; simp [postL]
    · obtain ⟨l, q, r, rfl, rfl, hK, hL, hlen⟩ := zip_of (q0 := q0) e
      rw [e, hK]
      rw [hL] at hs h1 h2
      refine s_f ?_
      refine s_nn ?_
      have hkl : ((l.map Prod.fst ++ q :: r.map Prod.snd).map ptr).length = l.length + r.length + 1 := by simp; omega
      refine s_cap kd fun m1 m2 m3 m4 => ?_
      rw [kp_len, hkl] at m1
      refine s_cap s fun l1 l2 l3 l4 => ?_
      rw [flatMap_len G.f _ G.f_len] at l1
      have hil : (l.map Prod.snd ++ r.map Prod.fst).length = l.length + r.length := by simp
      have hn : s.n = l.length + r.length := by rw [← hil]; exact (Nat.eq_of_mul_eq_mul_right (by omega) l1).symm
      refine s_ld (b := b) (x := kd) ?_
      refine s_f ?_ (by simp; omega)
      refine s_dr ?_
      refine s_ld (b := b) (x := kd) ?_
      refine s_idx (s := kd) (i := l.length) ?_ (by simp)
      refine s_ldE0 (s := kd) (x := ptr q) (by simp) ?_
      refine s_ldN (b := x3) (l' := G.f (k, v)) ?_ (List.take_of_length_le (by simp [G.f_len])) (G.f_len _)
      refine s_pick (kidsR G d (l.map Prod.fst ++ q :: r.map Prod.snd)) ?_
      refine s_kid ?_
      have hs1 := List.pairwise_append.1 hs
      have hs2 := List.pairwise_append.1 hs1.1
      have hpre := pre_lt ok l hs2.1 hA
      have hpost := post_gt ok r hs1.2.1 hC
      refine ih (m := 2) (by omega) hs2.2.1 (fun M' old had hp => ?_) fun M1 x M2 old had rb mb hp => ?_
      · refine s_stN (b := o) ?_ ok.vz.1 old.2.1 old.2.2
        refine s_f ?_
        refine s_end (Δ := valB G o old :: nodeB G b s kd :: itsR G s (l.map Prod.snd ++ r.map Prod.fst) :: kpsR G kd ((l.map Prod.fst ++ q :: r.map Prod.snd).map ptr) :: NodeR G d 2 q.1 M' :: kidsR G d (l.map Prod.fst ++ r.map Prod.snd) :: Γ) ?_
        refine s_s1 ok (by omega) (.inr (by omega)) (fun h5 => ?_) fun x h6 hx s1 c1 r s2 c2 mb => (by omega)
        obtain ⟨q0', ps', e1, e2, e3, e4⟩ := zback l (q.1, M') r
        refine s_end (Δ := NodeR G d 2 q.1 M' :: kidsR G d (l.map Prod.fst ++ r.map Prod.snd) :: nodeB G b s kd :: itsR G s (l.map Prod.snd ++ r.map Prod.fst) :: kpsR G kd ((l.map Prod.fst ++ q :: r.map Prod.snd).map ptr) :: Γ) ?_
        refine s_unkid (q := (q.1, M')) ?_
        have e5 : (l.map Prod.fst ++ q :: r.map Prod.snd).map ptr = (l.map Prod.fst ++ (q.1, M') :: r.map Prod.snd).map ptr := by simp [ptr]
        rw [e5, ← e2, ← e3]
        refine s_end (Δ := nodeB G b s kd :: itsR G s (ps'.map Prod.fst) :: kpsR G kd ((q0' :: ps'.map Prod.snd).map ptr) :: kidsR G d (q0' :: ps'.map Prod.snd) :: Γ) ?_
        refine s_mkS (m := 2) (fun _ h => ?_) (by omega) ?_
        · rw [h] at e1; rw [List.length_nil] at e1
          exact hne hm (List.length_eq_zero_iff.1 (by omega))
        rw [e4]
        exact h1 _ _ _ (hp.mid hpre hpost)
      · refine s_stN (b := o) ?_ ok.vz.1 old.2.1 old.2.2
        refine s_t ?_
        refine s_dr ?_
        refine s_ws ?_
        refine s_nn ?_
        refine s_ldS (b := b) (x := s) ?_
        refine s_ldNS (b := mb) (l' := G.f x) ?_ (List.take_of_length_le (by simp [G.f_len])) (G.f_len _)
        refine s_bld1 ?_ (by simp [ok.vz.1]) (G.f_len _)
        refine s_new fun t => ?_
        refine s_sv ?_
        obtain ⟨R, rot, hins⟩ := ok.insI
        refine fun w hw => hins _ _ _ _ _ ?_
        refine hg hw ?_
        clear hw w
        refine s_ins (s := s) (i := (l.map Prod.snd).length) (t := t) (by simp; omega) (by omega) (G.f_len _) (by omega) (fl_flat ok _) (f_flat ok _) (fun s' hs' => ?_) ok.TI ok.ZI
        rw [ins_items]
        refine s_st (b := b) ?_
        refine s_ld (b := b) (x := kd) ?_
        refine s_ai ?_ (by simp; omega) (by simp; omega)
        refine s_new fun t2 => ?_
        have hkp : (l.map Prod.fst ++ q :: r.map Prod.snd).map ptr = (l.map Prod.fst ++ [q]).map ptr ++ (r.map Prod.snd).map ptr := by simp
        rw [hkp]
        have hkA : ((l.map Prod.fst ++ [q]).map ptr).length = l.length + 1 := by simp
        obtain ⟨R2, rot2, hins2⟩ := ok.insK
        refine fun w hw => hins2 _ _ _ _ _ ?_
        refine hg hw ?_
        clear hw w
        rw [show (((l.map Prod.snd).length : Nat) : Int) + 1 = (((l.map Prod.fst ++ [q]).map ptr).length : Nat) by rw [hkA]; simp]
        refine s_ins (s := kd) (i := ((l.map Prod.fst ++ [q]).map ptr).length) (t := t2) (us := [Value.pointer (some ⟨rb, 0, none⟩)]) (by omega) (by omega) rfl (by omega) (kp_flat _) (by simp [flatV]) (fun kd' hkd' => ?_) ok.TK ok.ZK
        rw [ins_kids]
        refine s_st (b := b) ?_
        obtain ⟨q0', ps', e1, e2, e3, e4⟩ := zback l (q.1, M1) ((x, (rb, M2)) :: r)
        simp only [List.length_cons] at e1
        have e5 : (l.map Prod.fst ++ [q]).map ptr ++ some ⟨rb, 0, none⟩ :: (r.map Prod.snd).map ptr = (q0' :: ps'.map Prod.snd).map ptr := by rw [e3]; simp [ptr]
        have e6 : l.map Prod.snd ++ x :: r.map Prod.fst = ps'.map Prod.fst := e2.symm
        rw [e5, e6]
        refine s_end (Δ := NodeR G d 2 rb M2 :: kidsR G d (l.map Prod.fst ++ r.map Prod.snd) :: NodeR G d 2 q.1 M1 :: valB G o old :: nodeB G b s' kd' :: itsR G s' (ps'.map Prod.fst) :: kpsR G kd' ((q0' :: ps'.map Prod.snd).map ptr) :: Γ) ?_
        refine s_unkid (q := (rb, M2)) ?_
        refine s_swap ?_
        refine s_unkid (q := (q.1, M1)) ?_
        rw [show l.map Prod.fst ++ (q.1, M1) :: (rb, M2) :: r.map Prod.snd = q0' :: ps'.map Prod.snd from e3.symm]
        have hput : PutR c (G.z0 ok.vz) (preL l ++ q.2 ++ postL r) k v (psL q0' ps') old had := by
          rw [e4]
          have := hp.mid hpre hpost
          simpa [postL] using this
        refine s_end (Δ := valB G o old :: nodeB G b s' kd' :: itsR G s' (ps'.map Prod.fst) :: kpsR G kd' ((q0' :: ps'.map Prod.snd).map ptr) :: kidsR G d (q0' :: ps'.map Prod.snd) :: Γ) ?_
        refine s_s1 ok (by simp; omega) (.inr (by simp)) (fun h5 => ?_) fun y h6 hy s1 c1 r2 s2 c2 mb2 => ?_
        · rw [List.length_map] at h5
          refine s_end (Δ := nodeB G b s' kd' :: itsR G s' (ps'.map Prod.fst) :: kpsR G kd' ((q0' :: ps'.map Prod.snd).map ptr) :: kidsR G d (q0' :: ps'.map Prod.snd) :: Γ) ?_
          refine s_mkS (m := 2) (fun _ h => ?_) h5 (h1 _ _ _ hput)
          rw [h, List.length_nil] at e1; omega
        · rw [List.length_map] at h6
          obtain ⟨P, p3, R, hP, e7⟩ : ∃ P p3 R, P.length = 2 ∧ ps' = P ++ p3 :: R := ⟨ps'.take 2, ps'[2], ps'.drop 3, by rw [List.length_take]; omega, by rw [← List.drop_eq_getElem_cons, List.take_append_drop]⟩
          have hRl : R.length = 3 := by have := congrArg List.length e7; simp only [List.length_append, List.length_cons] at this; omega
          have t1 : (ps'.map Prod.fst).take 2 = P.map Prod.fst := by rw [e7, List.map_append]; exact List.take_left' (by simp [hP])
          have t2 : (ps'.map Prod.fst).drop 3 = R.map Prod.fst := by rw [e7, show P ++ p3 :: R = (P ++ [p3]) ++ R by simp, List.map_append]; exact List.drop_left' (by simp [hP])
          have t3 : q0' :: ps'.map Prod.snd = (q0' :: P.map Prod.snd) ++ (p3.2 :: R.map Prod.snd) := by rw [e7]; simp
          have t4 : ((q0' :: ps'.map Prod.snd).map ptr).take 3 = (q0' :: P.map Prod.snd).map ptr := by rw [t3, List.map_append]; exact List.take_left' (by simp [hP])
          have t5 : ((q0' :: ps'.map Prod.snd).map ptr).drop 3 = (p3.2 :: R.map Prod.snd).map ptr := by rw [t3, List.map_append]; exact List.drop_left' (by simp [hP])
          have t6 : psL q0' ps' = psL q0' P ++ p3.1 :: psL p3.2 R := by rw [e7]; simp [psL]
          have t7 : y = p3.1 := by
            rw [t1, t2, e7] at hy
            simp only [List.map_append, List.map_cons, List.append_cancel_left_eq, List.cons.injEq] at hy
            exact hy.1.symm
          rw [t4, t5, t1, t2, t3, t7]
          refine s_pick (kidsR G d ((q0' :: P.map Prod.snd) ++ (p3.2 :: R.map Prod.snd))) ?_
          refine s_kids_split ?_
          refine s_end (Δ := nodeB G b s1 c1 :: itsR G s1 (P.map Prod.fst) :: kpsR G c1 ((q0' :: P.map Prod.snd).map ptr) :: kidsR G d (q0' :: P.map Prod.snd) :: nodeB G r2 s2 c2 :: itsR G s2 (R.map Prod.fst) :: kpsR G c2 ((p3.2 :: R.map Prod.snd).map ptr) :: kidsR G d (p3.2 :: R.map Prod.snd) :: blk mb2 (.cells (G.f p3.1).toArray G.tI (0, 0)) :: Γ) ?_
          refine s_mkS (m := 2) (fun _ h => by rw [h] at hP; cases hP) (by omega) ?_
          refine s_end (Δ := nodeB G r2 s2 c2 :: itsR G s2 (R.map Prod.fst) :: kpsR G c2 ((p3.2 :: R.map Prod.snd).map ptr) :: kidsR G d (p3.2 :: R.map Prod.snd) :: blk mb2 (.cells (G.f p3.1).toArray G.tI (0, 0)) :: NodeR G (d + 1) 2 b (psL q0' P) :: Γ) ?_
          refine s_mkS (m := 2) (fun _ h => by rw [h] at hRl; cases hRl) (by omega) ?_
          exact s_end (h2 _ _ _ _ _ r2 mb2 (t6 ▸ hput))
end
end Bt
end Go.Sep
