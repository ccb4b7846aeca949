/- Texts of the claim LocksPlays, one behind the other. -/
import Derived.Test.YtihncgfghpbhdaaGreatLocksPlaysM3
import GoSem.Instr.MapEntry
/- Locks: Doomed, Leave, Ready, Queue, Parked, Keys, Ahead. -/
namespace Go.Proofs.YtihncgfghpbhdaaGreat
open Go Go.Sep Go.Sep.Bt
set_option linter.unusedSimpArgs false
set_option linter.unusedVariables false
set_option linter.unusedSectionVars false
set_option maxRecDepth 100000

section
variable {B : World} {Γ Δ : List HProp} {k : K} {l gm db st n : Nat} {M : GM} {dm : DM} {X : GX} {D : List (TagM × Int)} {S : Recs} {tag : TagM}
theorem doomed_hg {Q : Bool → K} (h : HG B (LocksR l M dm :: Γ) (Q (dm tag))) : HG B (LocksR l M dm :: Γ) (locks_Locks_Doomed.call (some ⟨l, 0, none⟩) (tagF tag).toArray Q) := by
  refine fun w hw => locks_Locks_Doomed_ok _ _ _ _ ?_
  refine hg hw ?_
  clear hw w
  refine s_locks fun gm db X D hf => ?_
  unfold locks_Locks_Doomed
  refine s_new fun t3 => ?_
  repeat refine s_nx ?_
  refine s_look1S (b := db) (cel := tagF) (a := tag) (z := 0) keyS_tag zero_ty_int ?_ mapFD
  rw [← hf.doom]
  refine s_own db ?_
  refine s_pick (Sep.stars (X.map gB)) ?_
  refine s_own gm ?_
  refine s_own l ?_
  exact s_mkLocks hf (s_end h)

/-! ### Leave -/
theorem mget_del {m : List (TagM × Int)} {a b : TagM} (h : (m.map Prod.fst).Nodup) : mget b (mdel a m) = if b = a then none else mget b m := by
  induction m with
  | nil => simp [mdel, mget]
  | cons p m ih =>
    have h1 := List.nodup_cons.1 (show (p.1 :: m.map Prod.fst).Nodup from h)
    unfold mdel
    split
    · rename_i e
      split
      · rename_i e2
        have hn : ∀ m : List (TagM × Int), p.1 ∉ m.map Prod.fst → mget p.1 m = none := fun m => by
          induction m with
          | nil => intro _; rfl
          | cons q m ih => intro hq; simp only [List.map_cons, List.mem_cons, not_or] at hq; unfold mget; rw [if_neg hq.1]; exact ih hq.2
        rw [e2, e]; exact hn m h1.1
      · rename_i e2
        simp only [mget]
        rw [if_neg (fun e3 => e2 (by rw [e3, e]))]
    · rename_i e
      by_cases h2 : b = p.1
      · have h3 : ¬ b = a := fun h4 => e (by rw [← h4, h2])
        simp only [mget, h2, if_true]
        rw [if_neg (by rw [← h2]; exact h3)]
      · simp only [mget, h2, if_false]
        exact ih h1.2
theorem nd_del {m : List (TagM × Int)} (h : (m.map Prod.fst).Nodup) : ((mdel tag m).map Prod.fst).Nodup := by
  rcases mfind tag m with ⟨_, _, h3, _⟩ | ⟨j, x, _, _, _, _, _, h3⟩
  · rw [h3]; exact h
  · rw [h3]
    exact List.Pairwise.sublist ((List.eraseIdx_sublist m j).map Prod.fst) h
/-- A map that is split, and one with the same keys and places. -/
theorem split_like {X Y : GX} {A C : GX} {p : List UInt8 × GateX} (hY : (Y.map fun q => (q.1, q.2.b)) = X.map fun q => (q.1, q.2.b)) (hX : X = A ++ p :: C) : ∃ A' g C', Y = A' ++ (p.1, g) :: C' ∧ g.b = p.2.b ∧ A'.length = A.length ∧ (A'.map Prod.fst) = A.map Prod.fst ∧ C'.map Prod.fst = C.map Prod.fst := by
  rw [hX, List.map_append, List.map_cons] at hY
  obtain ⟨A', Y2, rfl, h1, h2⟩ := List.map_eq_append_iff.1 hY
  obtain ⟨⟨k, g⟩, C', rfl, h3, h4⟩ := List.map_eq_cons_iff.1 h2
  simp only [Prod.mk.injEq] at h3
  obtain ⟨rfl, h5⟩ := h3
  refine ⟨A', g, C', rfl, h5, by simpa using congrArg List.length h1, ?_, ?_⟩
  · have := congrArg (List.map Prod.fst) h1; simpa [Function.comp_def] using this
  · have := congrArg (List.map Prod.fst) h4; simpa [Function.comp_def] using this
theorem s_pickG {Y A' C' : GX} {key : List UInt8} {g : GateX} (hY : Y = A' ++ (key, g) :: C') (h : HG B (gL g (Sep.stars ((A' ++ C').map gB) :: Γ)) k) : HG B (Sep.stars (Y.map gB) :: Γ) k := by
  rw [hY]
  refine s_mid ?_
  refine s_flat ?_
  exact h
theorem s_unpickG {A' C' : GX} {key : List UInt8} {g : GateX} (h : HG B (Sep.stars ((A' ++ (key, g) :: C').map gB) :: Γ) k) : HG B (gL g (Sep.stars ((A' ++ C').map gB) :: Γ)) k := by
  refine s_unflat (Δ := gL g []) ?_
  exact s_unmid (F := gB) (x := (key, g)) h
theorem leave_hg {N : Nat} {Q : K} (hN : gsz M N) (hNl : N ≤ 1000000) (h : HG B (LocksR l (leaveM tag (M, dm)).1 (leaveM tag (M, dm)).2 :: Γ) Q) :
    HG B (LocksR l M dm :: Γ) (locks_Locks_Leave.call (some ⟨l, 0, none⟩) (tagF tag).toArray Q) := by
  refine fun w hw => locks_Locks_Leave_ok _ _ _ _ ?_
  refine hg hw ?_
  clear hw w
  refine s_locks fun gm db X D hf => ?_
  have hsz : ∀ p ∈ X, p.2.line.length ≤ N ∧ p.2.park.length ≤ N := fun p hp => hN.2 (p.1, (p.2.line, p.2.park)) (by rw [← hf.mod]; exact List.mem_map.2 ⟨p, hp, rfl⟩)
  unfold locks_Locks_Leave
  refine s_new fun t3 => ?_
  repeat refine s_nx ?_
  refine s_range mapFL fun r => ?_
  let cl : List (List UInt8) → List UInt8 × (List Claim × List Claim) → List UInt8 × (List Claim × List Claim) := fun ks p => if p.1 ∈ ks then p else (p.1, (noT tag p.2.1, noT tag p.2.2))
  refine s_loop (α := Unit) (ι := GX × GX × Option (List UInt8 × GateX)) (fun _ i => (i.1.map fun q => (q.1, q.2.b)) = (X.map fun q => (q.1, q.2.b)) ∧ modG i.1 = (modG X).map (cl (i.2.1.map Prod.fst)) ∧ (i.2.1.map Prod.fst).Nodup)
    (fun _ i => MapIt strV gV gm r X i.2.1 i.2.2 :: Sep.stars (i.1.map gB) :: blk t3 (.cells (tagF tag).toArray ty_api_Tag (0, 0)) :: blk l (.cells [.map (some gm), .map (some db)].toArray ty_locks_Locks (0, 0)) :: MapR (kyS tagF) (Value.int .i64) db D :: Γ)
    (fun _ i => i.2.1.length) (X, X, none) ⟨rfl, ?_, hf.once⟩ ?_ |> fun h => s_end h
  · simp only
    rw [List.map_congr_left (g := id)]
    · simp
    · intro p hp
      simp only [cl, id]
      rw [if_pos]
      obtain ⟨q, hq, rfl⟩ := List.mem_map.1 hp
      exact List.mem_map.2 ⟨q, hq, rfl⟩
  rintro k' _ ⟨Y, left, cur⟩ ⟨hYb, hYm, hnd⟩ hk'
  simp only at hYb hYm hnd hk' ⊢
  unfold locks_Locks_Leave.b1
  refine s_next (r := r) (fun hl0 => ?_) fun l1 p l2 hl1 hp => ?_
  · repeat refine s_nx ?_
    refine s_mdeleteS (b := db) (cel := tagF) (a := tag) keyS_tag ?_ mapFD
    subst hl0
    refine s_own gm ?_
    refine s_conv (mapR_cong (m' := Y) ?_) ?_
    · have := congrArg (List.map fun q : List UInt8 × Nat => (strV q.1, Value.pointer (some ⟨q.2, 0, none⟩))) hYb
      simpa [gV, Function.comp_def] using this.symm
    refine s_own db ?_
    refine s_pick (Sep.stars (Y.map gB)) ?_
    refine s_own gm ?_
    refine s_own l ?_
    refine s_mkLocks (M := (leaveM tag (M, dm)).1) (dm := (leaveM tag (M, dm)).2) ⟨?_, ?_, fun t => ?_, nd_del hf.nd⟩ (s_end h)
    · rw [hYm, hf.mod]
      simp [leaveM, cl]
    · unfold KeysU
      have := congrArg (List.map Prod.fst) hYb
      simp only [List.map_map, Function.comp_def] at this
      rw [this]; exact hf.once
    · show dset dm tag false t = _
      unfold dset
      rw [mget_del hf.nd]
      split
      · simp
      · exact hf.doom t
  · obtain ⟨A, C, hX⟩ := List.append_of_mem hp
    obtain ⟨A', g, C', hY, hgb, _, hA1, hC1⟩ := split_like hYb hX
    have hpl : p.1 ∈ left.map Prod.fst := by rw [hl1]; simp
    have hXo := hf.once
    rw [hX] at hXo
    have hmid := once_mid (v := p.2) hXo
    have hgm2 : (g.line, g.park) = (p.2.line, p.2.park) := by
      rw [hY, hX] at hYm
      simp only [modG, List.map_append, List.map_cons] at hYm
      have hlen : (A'.map fun p : List UInt8 × GateX => (p.1, (p.2.line, p.2.park))).length = ((A.map fun p : List UInt8 × GateX => (p.1, (p.2.line, p.2.park))).map (cl (left.map Prod.fst))).length := by
        have := congrArg List.length hA1; simpa using this
      have h2 := (List.append_inj hYm hlen).2
      simp only [List.cons.injEq, cl] at h2
      rw [if_pos hpl] at h2
      exact (Prod.mk.inj h2.1).2
    simp only [Prod.mk.injEq] at hgm2
    have hps := hsz p hp
    repeat refine s_nx ?_
    refine s_entry (r := r) (q := p) ?_
    refine s_nx ?_
    refine s_pick (Sep.stars (Y.map gB)) ?_
    refine s_pickG hY ?_
    rw [← hgb]
    repeat refine s_nx ?_
    refine ofCall_hg fun b1 => ?_
    repeat refine s_nx ?_
    refine s_ownS g.ls ?_
    refine deleteC (tag := tag) (L := g.line) (b := b1) (by rw [hgm2.1]; omega) fun ls' => ?_
    repeat refine s_nx ?_
    refine ofCall_hg fun b2 => ?_
    repeat refine s_nx ?_
    refine s_ownS g.ps ?_
    refine deleteC (tag := tag) (L := g.park) (b := b2) (by rw [hgm2.2]; omega) fun ps' => ?_
    repeat refine s_nx ?_
    refine s_pick (Sep.stars ((A' ++ C').map gB)) ?_
    refine s_ownS ps' ?_
    refine s_ownS ls' ?_
    refine s_own g.b ?_
    refine s_unpickG (key := p.1) (g := ⟨g.b, ls', ps', noT tag g.line, noT tag g.park⟩) ?_
    refine s_end (hk' () (A' ++ (p.1, ⟨g.b, ls', ps', noT tag g.line, noT tag g.park⟩) :: C', l1 ++ l2, some p) ⟨?_, ?_, ?_⟩ (by rw [hl1]; simp))
    · rw [← hYb, hY]; simp
    · simp only
      have hne : ∀ q : List UInt8, q ≠ p.1 → (q ∈ l1.map Prod.fst ++ l2.map Prod.fst ↔ q ∈ left.map Prod.fst) := fun q hq => by
        rw [hl1]; simp only [List.map_append, List.map_cons, List.mem_append, List.mem_cons]
        constructor
        · rintro (h | h)
          · exact .inl h
          · exact .inr (.inr h)
        · rintro (h | h | h)
          · exact .inl h
          · exact absurd h hq
          · exact .inr h
      have hpn : p.1 ∉ l1.map Prod.fst ++ l2.map Prod.fst := fun h5 => by
        rw [hl1, List.map_append, List.map_cons] at hnd
        obtain ⟨_, h6, h7⟩ := List.nodup_append.1 hnd
        rcases List.mem_append.1 h5 with h5 | h5
        · exact h7 _ h5 _ List.mem_cons_self rfl
        · exact (List.nodup_cons.1 h6).1 h5
      rw [hY, hX] at hYm
      rw [hX]
      simp only [modG, List.map_append, List.map_cons] at hYm ⊢
      have hlen : (A'.map fun p : List UInt8 × GateX => (p.1, (p.2.line, p.2.park))).length = ((A.map fun p : List UInt8 × GateX => (p.1, (p.2.line, p.2.park))).map (cl (left.map Prod.fst))).length := by
        have := congrArg List.length hA1; simpa using this
      obtain ⟨h8, h9⟩ := List.append_inj hYm hlen
      simp only [List.cons.injEq] at h9
      rw [h8, h9.2]
      congr 1
      · refine List.map_congr_left fun q hq => ?_
        obtain ⟨q, hq', rfl⟩ := List.mem_map.1 hq
        have hq2 := hmid.1 q hq'
        simp only [cl]
        by_cases h10 : q.1 ∈ left.map Prod.fst
        · rw [if_pos h10, if_pos ((hne _ hq2).2 h10)]
        · rw [if_neg h10, if_neg fun h11 => h10 ((hne _ hq2).1 h11)]
      · congr 1
        · simp only [cl]
          rw [if_neg hpn, hgm2.1, hgm2.2]
        · refine List.map_congr_left fun q hq => ?_
          obtain ⟨q, hq', rfl⟩ := List.mem_map.1 hq
          have hq2 := hmid.2 q hq'
          simp only [cl]
          by_cases h10 : q.1 ∈ left.map Prod.fst
          · rw [if_pos h10, if_pos ((hne _ hq2).2 h10)]
          · rw [if_neg h10, if_neg fun h11 => h10 ((hne _ hq2).1 h11)]
    · rw [hl1, List.map_append, List.map_cons] at hnd
      rw [List.map_append]
      obtain ⟨h5, h6, h7⟩ := List.nodup_append.1 hnd
      exact List.nodup_append.2 ⟨h5, (List.nodup_cons.1 h6).2, fun a ha b hb => h7 a ha b (List.mem_cons_of_mem _ hb)⟩

/-! ### Ready -/
def readyG (tag : TagM) (p : List Claim × List Claim) : Bool := !hasT tag p.2 && !decide (0 < idxI (p.1.findIdx? fun c => decide (c.1 = tag)))
def readyM (tag : TagM) (M : GM) : Bool := M.all fun p => readyG tag p.2
theorem ready_hg {N : Nat} {Q : Bool → K} (hN : gsz M N) (hNl : N ≤ 1000000) (h : HG B (LocksR l M dm :: Γ) (Q (readyM tag M))) : HG B (LocksR l M dm :: Γ) (locks_Locks_Ready.call (some ⟨l, 0, none⟩) (tagF tag).toArray Q) := by
  refine fun w hw => locks_Locks_Ready_ok _ _ _ _ ?_
  refine hg hw ?_
  clear hw w
  refine s_locks fun gm db X D hf => ?_
  have hsz : ∀ p ∈ X, p.2.line.length ≤ N ∧ p.2.park.length ≤ N := fun p hp => hN.2 (p.1, (p.2.line, p.2.park)) (by rw [← hf.mod]; exact List.mem_map.2 ⟨p, hp, rfl⟩)
  have hrm : readyM tag M = X.all fun p => readyG tag (p.2.line, p.2.park) := by unfold readyM; rw [← hf.mod]; simp [modG, Function.comp_def]
  unfold locks_Locks_Ready
  refine s_new fun t3 => ?_
  repeat refine s_nx ?_
  refine s_range mapFL fun r => ?_
  refine s_loop (α := Unit) (ι := GX × Option (List UInt8 × GateX)) (fun _ i => (∀ p ∈ X, p ∈ i.1 ∨ readyG tag (p.2.line, p.2.park) = true))
    (fun _ i => MapIt strV gV gm r X i.1 i.2 :: Sep.stars (X.map gB) :: blk t3 (.cells (tagF tag).toArray ty_api_Tag (0, 0)) :: blk l (.cells [.map (some gm), .map (some db)].toArray ty_locks_Locks (0, 0)) :: MapR (kyS tagF) (Value.int .i64) db D :: Γ)
    (fun _ i => i.1.length) (X, none) (fun p hp => .inl hp) ?_ |> fun h => s_end h
  rintro k' _ ⟨left, cur⟩ hJ hk'
  simp only at hJ hk' ⊢
  unfold locks_Locks_Ready.b1
  refine s_next (r := r) (fun hl0 => ?_) fun l1 p l2 hl1 hp => ?_
  · repeat refine s_nx ?_
    subst hl0
    have e : readyM tag M = true := by
      rw [hrm, List.all_eq_true]
      intro p hp
      rcases hJ p hp with h1 | h1
      · cases h1
      · exact h1
    rw [e] at h
    refine s_own db ?_
    refine s_pick (Sep.stars (X.map gB)) ?_
    refine s_own gm ?_
    refine s_own l ?_
    exact s_mkLocks hf (s_end h)
  · obtain ⟨A, C, hX⟩ := List.append_of_mem hp
    have hps := hsz p hp
    repeat refine s_nx ?_
    refine s_entry (r := r) (q := p) ?_
    refine s_nx ?_
    have bad : readyG tag (p.2.line, p.2.park) = false → HG B (MapIt strV gV gm r X (l1 ++ l2) (some p) :: Sep.stars (X.map gB) :: blk t3 (.cells (tagF tag).toArray ty_api_Tag (0, 0)) :: blk l (.cells [.map (some gm), .map (some db)].toArray ty_locks_Locks (0, 0)) :: MapR (kyS tagF) (Value.int .i64) db D :: Γ) (Q false) := fun hb => by
      have e : readyM tag M = false := by
        rw [hrm, List.all_eq_false]
        exact ⟨p, hp, by simp [hb]⟩
      rw [e] at h
      refine s_itEnd (r := r) ?_
      refine s_own db ?_
      refine s_pick (Sep.stars (X.map gB)) ?_
      refine s_own gm ?_
      refine s_own l ?_
      exact s_mkLocks hf (s_end h)
    refine s_pick (Sep.stars (X.map gB)) ?_
    refine s_pickG (key := p.1) (g := p.2) hX ?_
    have back : ∀ (b : Bool), readyG tag (p.2.line, p.2.park) = !b → HG B (gL p.2 (Sep.stars ((A ++ C).map gB) :: MapIt strV gV gm r X (l1 ++ l2) (some p) :: blk t3 (.cells (tagF tag).toArray ty_api_Tag (0, 0)) :: blk l (.cells [.map (some gm), .map (some db)].toArray ty_locks_Locks (0, 0)) :: MapR (kyS tagF) (Value.int .i64) db D :: Γ)) (locks_Locks_Ready.s2 Q (k' ()) ⟨t3, 0, none⟩ (some ⟨r, 0, none⟩) b) := fun b hb => by
      refine s_unpickG (key := p.1) ?_
      rw [show A ++ (p.1, p.2) :: C = X from hX.symm]
      unfold locks_Locks_Ready.s2
      refine s_ite (fun h2 => ?_) fun h2 => ?_
      · exact s_end (bad (by rw [hb, h2]; rfl))
      · refine s_end (hk' () (l1 ++ l2, some p) (fun q hq => ?_) (by rw [hl1]; simp))
        rcases hJ q hq with h3 | h3
        · rw [hl1] at h3
          rcases List.mem_append.1 h3 with h3 | h3
          · exact .inl (List.mem_append_left _ h3)
          · rcases List.mem_cons.1 h3 with rfl | h3
            · exact .inr (by rw [hb, h2]; rfl)
            · exact .inl (List.mem_append_right _ h3)
        · exact .inr h3
    repeat refine s_nx ?_
    refine ofCall_hg fun b1 => ?_
    repeat refine s_nx ?_
    refine containsC (tag := tag) (L := p.2.park) (by omega) ?_
    repeat refine s_nx ?_
    refine s_ite (fun h2 => ?_) fun h2 => ?_
    · exact s_end (back true (by unfold readyG; rw [h2]; rfl))
    repeat refine s_nx ?_
    refine ofCall_hg fun b2 => ?_
    repeat refine s_nx ?_
    refine indexC (tag := tag) (L := p.2.line) (by omega) ?_
    exact s_end (back _ (by unfold readyG; rw [h2]; rfl))

/-! ### tags, Queue, Parked -/
theorem tags_hg {s : Sl} {L : List Claim} {Q : Sl → K} (hL : L.length ≤ 10000000) (hr : ∀ w, Holds B Γ w → RdC w s 7 (L.flatMap clF)) (h : ∀ s', HG B (SlC ty_api_Tag 4 s' ((L.map Prod.fst).flatMap tagF) :: Γ) (Q s')) : HG B Γ (locks_tags.call s Q) := fun w hw => by
  refine locks_tags_ok _ _ _ ?_
  have hlen : s.n = L.length := rd_len clF_len (by omega) (hr w hw)
  refine hg (show Holds B (SlC ty_api_Tag 4 ⟨none, 0, 0⟩ [] :: Γ) w from hw.nilSl _ _) ?_
  clear hw w
  unfold locks_tags
  refine s_loop (α := Sl × Int) (ι := Nat) (fun x i => x.2 = (i : Int) ∧ i ≤ L.length) (fun x i => SlC ty_api_Tag 4 x.1 (((L.take i).map Prod.fst).flatMap tagF) :: Γ) (fun x i => L.length - i) 0 ⟨rfl, Nat.zero_le _⟩ ?_
  rintro k' ⟨o, _⟩ i ⟨rfl, hi⟩ hk'
  simp only at hi hk' ⊢
  unfold locks_tags.b1
  refine s_ite (fun hb => ?_) fun hb => ?_
  · have hil : i < L.length := by simp only [decide_eq_true_eq] at hb; omega
    have hge : L[i]? = some L[i] := List.getElem?_eq_getElem hil
    have htk : L.take (i + 1) = L.take i ++ [L[i]] := List.take_succ_eq_append_getElem hil
    generalize L[i] = c at hge htk
    refine s_cap o fun a1 a2 a3 a4 => ?_
    rw [flatMap_len _ 4 tagF_len, List.length_map, List.length_take, Nat.min_eq_left hi] at a1
    refine s_idxN clF clF_len (fun w hw => hr w hw.tail) hge ?_
    refine s_new fun c4 => ?_
    repeat refine s_nx ?_
    refine s_new fun t => ?_
    refine s_append (s := o) (esz := 4) (us := tagF c.1) (blk_rd rfl) (by simp [flatV]) (by simp only; omega) fun o' _ => ?_
    refine s_ai ?_
    rw [show ((L.take i).map Prod.fst).flatMap tagF ++ tagF c.1 = ((L.take (i + 1)).map Prod.fst).flatMap tagF by rw [htk]; simp only [List.map_append, List.flatMap_append, List.map_cons, List.map_nil, List.flatMap_cons, List.flatMap_nil, List.append_nil]]
    exact s_end (hk' (o', (i : Int) + 1) (i + 1) ⟨by simp, hil⟩ (by omega))
  · have hil : i = L.length := by simp only [decide_eq_false_iff_not] at hb; omega
    rw [hil, List.take_length]
    exact h o
theorem gate_at (hf : LF M dm X D) {key : List UInt8} : atM key M = ((mget key X).map fun g => (g.line, g.park)).getD ([], []) := by
  unfold atM
  rw [← hf.mod, show mget key (modG X) = (mget key X).map fun g => (g.line, g.park) from mget_map (fun g : GateX => (g.line, g.park)) key X]
theorem gateLook {key : List UInt8} {q : Option Addr → K} (h : HG B Γ (q ((mget key X).map fun g => ⟨g.b, 0, none⟩))) [p : Sep.Own gm Γ (MapR strV gV gm X) Δ] : HG B Γ (Rd Tryz.prog (Instr.lookup ty_map_string_p_locks_gate (.map (some gm)) (strV key) false) Value.pointer q) := fun w hw => by
  obtain ⟨es, c, ⟨hr, hst⟩, h1⟩ := MapR.opens (hw.perm p.perm)
  have := run_lookZ (a := key) mapFL keyE_str zero_gate h1.block hr false
  refine ⟨(mget key X).map fun g => ⟨g.b, 0, none⟩, ?_, h w hw⟩
  rw [this]
  cases mget key X <;> rfl
theorem queue_hg {key : List UInt8} {N : Nat} {Q : Sl → K} (hN : gsz M N) (hNl : N ≤ 1000000) (h : ∀ s, HG B (SlC ty_api_Tag 4 s (((atM key M).1.map Prod.fst).flatMap tagF) :: LocksR l M dm :: Γ) (Q s)) : HG B (LocksR l M dm :: Γ) (locks_Locks_Queue.call (some ⟨l, 0, none⟩) (bs key) Q) := by
  refine fun w hw => locks_Locks_Queue_ok _ _ _ _ ?_
  refine hg hw ?_
  clear hw w
  have hz := gsz_at (k := key) hN
  refine s_locks fun gm db X D hf => ?_
  unfold locks_Locks_Queue
  repeat refine s_nx ?_
  refine gateLook (X := X) ?_
  rw [gate_at hf] at h hz
  cases hm : mget key X with
  | none =>
    rw [hm] at h
    simp only [Option.map_none, Option.getD_none, List.map_nil, List.flatMap_nil] at h
    refine s_f ?_
    refine fun w hw => ?_
    refine hg (show Holds B (SlC ty_api_Tag 4 ⟨none, 0, 0⟩ [] :: _) w from hw.nilSl _ _) ?_
    clear hw w
    refine s_own db ?_
    refine s_pick (Sep.stars (X.map gB)) ?_
    refine s_own gm ?_
    refine s_own l ?_
    exact s_mkLocks hf (s_end (h ⟨none, 0, 0⟩))
  | some g =>
    rw [hm] at h hz
    simp only [Option.map_some, Option.getD_some] at h hz
    obtain ⟨A, C, hX⟩ := mget_split hm
    simp only [Option.map_some]
    refine s_t ?_
    refine s_pick (Sep.stars (X.map gB)) ?_
    refine s_pickG hX ?_
    repeat refine s_nx ?_
    refine tags_hg (L := g.line) (by omega) (fun w hw => (own_rd (s := g.ls) hw).1) fun s' => ?_
    refine s_pick (Sep.stars ((A ++ C).map gB)) ?_
    refine s_ownS g.ps ?_
    refine s_ownS g.ls ?_
    refine s_own g.b ?_
    refine s_unpickG (key := key) ?_
    rw [← hX]
    refine s_own db ?_
    refine s_pick (Sep.stars (X.map gB)) ?_
    refine s_own gm ?_
    refine s_own l ?_
    exact s_mkLocks hf (s_end (h s'))
/-! ### Keys -/
def keysM (M : GM) : List (List UInt8) := (sortL (M.map Prod.fst)).filter fun k => !decide ((atM k M).1.length + (atM k M).2.length = 0)
theorem keys_hg {N : Nat} {Q : Sl → K} (hN : gsz M N) (hNl : N ≤ 1000000) (h : ∀ s, HG B (SlS s (keysM M) :: LocksR l M dm :: Γ) (Q s)) : HG B (LocksR l M dm :: Γ) (locks_Locks_Keys.call (some ⟨l, 0, none⟩) Q) := by
  refine fun w hw => locks_Locks_Keys_ok _ _ _ ?_
  refine hg hw ?_
  clear hw w
  have hz := fun k => gsz_at (k := k) hN
  refine s_locks fun gm db X D hf => ?_
  have hXl : X.length ≤ 1000000 := by have := hN.1; rw [← hf.mod] at this; simp at this; omega
  have hkm : X.map Prod.fst = M.map Prod.fst := by rw [← hf.mod]; simp [modG, Function.comp_def]
  unfold locks_Locks_Keys
  refine s_new fun l1 => ?_
  repeat refine s_nx ?_
  refine s_own gm ?_
  refine fun w hw => sorted_keys_specL hXl hw fun ks w hw => ?_
  refine hg hw ?_
  clear hw w
  rw [hkm]
  have hkl : (sortL (M.map Prod.fst)).length ≤ 1000000 := by rw [sortL_len, List.length_map]; have := hN.1; omega
  refine fun w hw => slices_DeleteFunc_s_string_string_ok _ _ _ _ ?_
  refine hg hw ?_
  clear hw w
  show HG B _ (delF1 Tryz.prog slices_IndexFunc_s_string_string.call ty_s_string 0 Value.string ks (.func (.func 36) #[] #[.pointer (some ⟨l1, 0, none⟩)]) Q)
  rw [show SlS ks (sortL (M.map Prod.fst)) = SlC ty_string 1 ks (((sortL (M.map Prod.fst)).map bs).map Value.string) by simp [SlS, Function.comp_def]]
  refine s_delF1 (γ := Unit) (R := fun _ => MapR strV gV gm X :: blk l1 (.cells [.pointer (some ⟨l, 0, none⟩)].toArray ty_p_locks_Locks (0, 0)) :: blk l (.cells [.map (some gm), .map (some db)].toArray ty_locks_Locks (0, 0)) :: Sep.stars (X.map gB) :: MapR (kyS tagF) (Value.int .i64) db D :: Γ) (E := ty_string) (c := Value.string) (L := (sortL (M.map Prod.fst)).map bs) (fun (_ : Unit) x => decide ((atM x.data.toList M).1.length + (atM x.data.toList M).2.length = 0)) (fun _ _ => ()) () (fun _ _ => True) trivial (fun _ _ _ _ => trivial) (fun s fv Q w h => slices_IndexFunc_s_string_string_ok _ _ _ _ h) (fun _ => rfl) (by rw [List.length_map]; omega) (fun Ξ g x C q hx _ hq => ?_) (fun s' _ => ?_) |> fun h => s_end h
  · obtain ⟨key, hkey, rfl⟩ := List.mem_map.1 hx
    refine s_callvC (cs := [.pointer (some ⟨l1, 0, none⟩)]) ?_
    refine fun w hw => locks_Locks_Keys_1_ok _ _ _ _ ?_
    refine hg hw ?_
    clear hw w
    unfold locks_Locks_Keys_1
    repeat refine s_nx ?_
    refine gateLook (X := X) ?_
    have hkz := hz key
    have hq2 : (bs key).data.toList = key := by simp
    simp only [hq2] at hq
    rw [gate_at hf] at hq hkz
    rw [sortL_mem, ← hkm] at hkey
    cases hm : mget key X with
    | none =>
      exfalso
      rcases mfind key X with ⟨_, _, _, h5⟩ | ⟨_, _, _, _, _, h5, _⟩
      · obtain ⟨p, hp, e⟩ := List.mem_map.1 hkey
        exact h5 p hp e
      · rw [hm] at h5; cases h5
    | some g =>
      rw [hm] at hq hkz
      simp only [Option.map_some, Option.getD_some] at hq hkz
      obtain ⟨A, C, hX⟩ := mget_split hm
      simp only [Option.map_some]
      refine s_pick (Sep.stars (X.map gB)) ?_
      refine s_pickG hX ?_
      refine s_cap g.ls fun c1 c2 c3 c4 => ?_
      refine s_cap g.ps fun e1 e2 e3 e4 => ?_
      rw [flatMap_len _ 7 clF_len] at c1 e1
      repeat first | refine s_nx ?_ | refine s_ai ?_
      rw [show decide ((g.ls.n : Int) + (g.ps.n : Int) = 0) = decide (g.line.length + g.park.length = 0) from decide_eq_decide.2 (by omega)]
      refine s_pick (Sep.stars ((A ++ C).map gB)) ?_
      refine s_ownS g.ps ?_
      refine s_ownS g.ls ?_
      refine s_own g.b ?_
      refine s_unpickG (key := key) ?_
      rw [← hX]
      exact s_end hq
  · rw [delG_pure]
    have e : (((sortL (M.map Prod.fst)).map bs).filter fun x => !decide ((atM x.data.toList M).1.length + (atM x.data.toList M).2.length = 0)).map Value.string = (keysM M).map strV := by
      unfold keysM
      rw [List.filter_map, List.map_map]
      rfl
    rw [e]
    refine s_own db ?_
    refine s_pick (Sep.stars (X.map gB)) ?_
    refine s_own gm ?_
    refine s_own l ?_
    exact s_mkLocks hf (s_end (h s'))
end
end Go.Proofs.YtihncgfghpbhdaaGreat
/- Locks: Ahead, Moved. -/
namespace Go.Proofs.YtihncgfghpbhdaaGreat
open Go Go.Sep Go.Sep.Bt
set_option linter.unusedSimpArgs false
set_option linter.unusedVariables false
set_option linter.unusedSectionVars false
set_option maxRecDepth 100000

section
variable {B : World} {Γ Δ : List HProp} {k : K} {l gm db st n : Nat} {M : GM} {dm : DM} {X : GX} {D : List (TagM × Int)} {S : Recs} {tag : TagM}
theorem indexT {s : Sl} {L : List TagM} {Q : Int → K} (hL : L.length < 1000000000) (hr : ∀ w, Holds B Γ w → RdC w s 4 (L.flatMap tagF)) (h : HG B Γ (Q (idxI (L.findIdx? fun t => decide (t = tag))))) : HG B Γ (slices_Index_s_api_Tag_api_Tag.call s (tagF tag).toArray Q) := fun w hw => by
  refine slices_Index_s_api_Tag_api_Tag_ok _ _ _ _ ?_
  have hlen : s.n = L.length := rd_len tagF_len (by omega) (hr w hw)
  refine hg hw ?_
  clear hw w
  unfold slices_Index_s_api_Tag_api_Tag
  refine s_new fun v3 => ?_
  refine s_loopC (α := Int) (fun x => ∃ i : Nat, x = (i : Int) ∧ i ≤ L.length ∧ L.findIdx? (fun t => decide (t = tag)) = ((L.drop i).findIdx? fun t => decide (t = tag)).map (· + i)) (fun x => L.length - x.toNat) ⟨0, rfl, Nat.zero_le _, by simp⟩ fun k' x hx hk' => ?_
  obtain ⟨i, rfl, hi, he⟩ := hx
  unfold slices_Index_s_api_Tag_api_Tag.b1
  refine s_ite (fun hb => ?_) fun hb => ?_
  · have hil : i < L.length := by simp only [decide_eq_true_eq] at hb; omega
    have hge : L[i]? = some L[i] := List.getElem?_eq_getElem hil
    rw [List.drop_eq_getElem_cons hil, List.findIdx?_cons] at he
    generalize L[i] = t at hge he
    repeat refine s_nx ?_
    refine s_idxN tagF tagF_len (fun w hw => hr w hw.tail) hge ?_
    refine s_eqS (xs := tagF tag) (ys := tagF t) (ks := tagK) (p := t = tag) (by rw [tagF_inj]; exact eq_comm) ?_
    refine s_ite (fun hp => ?_) fun hp => ?_
    · rw [if_pos hp] at he
      rw [he] at h
      simpa [idxI] using s_end h
    · rw [if_neg (by simp [hp])] at he
      refine s_ai ?_
      refine hk' _ ⟨i + 1, by simp, hil, ?_⟩ (by omega)
      rw [he, Option.map_map]
      congr 1
      funext y
      simp only [Function.comp]; omega
  · have hil : i = L.length := by simp only [decide_eq_false_iff_not] at hb; omega
    rw [hil, List.drop_length] at he
    rw [he] at h
    simpa [idxI] using s_end h
theorem containsT {s : Sl} {L : List TagM} {Q : Bool → K} (hL : L.length < 1000000000) (hr : ∀ w, Holds B Γ w → RdC w s 4 (L.flatMap tagF)) (h : HG B Γ (Q (decide (tag ∈ L)))) : HG B Γ (slices_Contains_s_api_Tag_api_Tag.call s (tagF tag).toArray Q) := by
  refine fun w hw => slices_Contains_s_api_Tag_api_Tag_ok _ _ _ _ ?_
  refine hg hw ?_
  clear hw w
  unfold slices_Contains_s_api_Tag_api_Tag
  refine s_new fun v3 => ?_
  repeat refine s_nx ?_
  refine indexT (L := L) hL (fun w hw => hr w hw.tail) ?_
  rw [idxI_nonneg, any_idx, show (L.any fun t => decide (t = tag)) = decide (tag ∈ L) by rw [Bool.eq_iff_iff]; simp]
  exact s_end h

/-! ### Ahead -/
def addT (out : List TagM) (t : TagM) : List TagM := if t ∈ out then out else out ++ [t]
def lineT (M : GM) (key : List UInt8) : List TagM := (atM key M).1.map Prod.fst
def fore (tag : TagM) (L : List TagM) : List TagM := L.take ((L.findIdx? fun t => decide (t = tag)).getD 0)
def aheadM (tag : TagM) (M : GM) : List TagM := (keysM M).foldl (fun out key => (fore tag (lineT M key)).foldl addT out) []
theorem addT_len (L out : List TagM) : (L.foldl addT out).length ≤ out.length + L.length := by
  induction L generalizing out with
  | nil => simp
  | cons t L ih =>
    have h1 := ih (addT out t)
    have h2 : (addT out t).length ≤ out.length + 1 := by unfold addT; split <;> simp
    simp only [List.foldl_cons, List.length_cons]; omega
theorem ahead_hg {N : Nat} {Q : Sl → K} (hN : gsz M N) (hNl : N ≤ 5000) (h : ∀ s, HG B (SlC ty_api_Tag 4 s ((aheadM tag M).flatMap tagF) :: LocksR l M dm :: Γ) (Q s)) : HG B (LocksR l M dm :: Γ) (locks_Locks_Ahead.call (some ⟨l, 0, none⟩) (tagF tag).toArray Q) := by
  refine fun w hw => locks_Locks_Ahead_ok _ _ _ _ ?_
  refine hg hw ?_
  clear hw w
  unfold locks_Locks_Ahead
  refine s_new fun t3 => ?_
  refine s_own l ?_
  refine keys_hg hN (by omega) fun ks => ?_
  have hkl : (keysM M).length ≤ N := by
    have h1 := List.length_filter_le (fun k => !decide ((atM k M).1.length + (atM k M).2.length = 0)) (sortL (M.map Prod.fst))
    rw [sortL_len, List.length_map] at h1
    have := hN.1
    unfold keysM; omega
  refine s_cap ks fun a1 a2 a3 a4 => ?_
  have hkn : ks.n = (keysM M).length := by simpa using a1.symm
  refine fun w hw => ?_
  refine hg (show Holds B (SlC ty_api_Tag 4 ⟨none, 0, 0⟩ (([] : List TagM).flatMap tagF) :: _) w from hw.nilSl _ _) ?_
  clear hw w
  refine s_loop (α := Sl × Int) (ι := List TagM × Nat) (fun x i => x.2 = (i.2 : Int) ∧ i.2 ≤ (keysM M).length ∧ i.1.length ≤ i.2 * N ∧ ((keysM M).drop i.2).foldl (fun out key => (fore tag (lineT M key)).foldl addT out) i.1 = aheadM tag M)
    (fun x i => SlC ty_api_Tag 4 x.1 (i.1.flatMap tagF) :: SlS ks (keysM M) :: LocksR l M dm :: blk t3 (.cells (tagF tag).toArray ty_api_Tag (0, 0)) :: Γ) (fun x i => (keysM M).length - i.2) ([], 0) ⟨rfl, Nat.zero_le _, by simp, rfl⟩ ?_
  rintro k' ⟨o, _⟩ ⟨out, j⟩ ⟨rfl, hj, hol, he⟩ hk'
  simp only at hj hol he hk' ⊢
  unfold locks_Locks_Ahead.b1
  refine s_ite (fun hb => ?_) fun hb => ?_
  · have hjl : j < (keysM M).length := by simp only [decide_eq_true_eq] at hb; omega
    have hge : (keysM M)[j]? = some (keysM M)[j] := List.getElem?_eq_getElem hjl
    rw [List.drop_eq_getElem_cons hjl, List.foldl_cons] at he
    generalize (keysM M)[j] = key at hge he
    have hz := gsz_at (k := key) hN
    have hll : (lineT M key).length ≤ N := by unfold lineT; rw [List.length_map]; exact hz.1
    have hol2 : out.length ≤ 25000000 := by
      have : j * N ≤ 5000 * 5000 := Nat.mul_le_mul (by omega) hNl
      omega
    refine s_idxS (L := keysM M) (fun w hw => (own_rd (s := ks) hw).1) hge ?_
    refine s_own l ?_
    refine queue_hg hN (by omega) fun q => ?_
    show HG B (SlC ty_api_Tag 4 q ((lineT M key).flatMap tagF) :: _) _
    repeat refine s_nx ?_
    refine s_cap q fun c1 c2 c3 c4 => ?_
    rw [flatMap_len _ 4 tagF_len] at c1
    refine indexT (L := lineT M key) (by omega) (fun w hw => (own_rd (s := q) hw).1) ?_
    have hat : ∃ a : Nat, (if (0 : Int) > idxI ((lineT M key).findIdx? fun t => decide (t = tag)) then 0 else idxI ((lineT M key).findIdx? fun t => decide (t = tag))) = (a : Int) ∧ a ≤ (lineT M key).length ∧ fore tag (lineT M key) = (lineT M key).take a := by
      unfold fore
      cases hf : (lineT M key).findIdx? fun t => decide (t = tag) with
      | none => exact ⟨0, by simp [idxI], Nat.zero_le _, by simp⟩
      | some a =>
        have := (List.findIdx?_eq_some_iff_findIdx_eq.1 hf).1
        exact ⟨a, by show (if (0 : Int) > (a : Int) then 0 else (a : Int)) = a; rw [if_neg (by omega)], by omega, by simp⟩
    obtain ⟨a, ha, hal, hfo⟩ := hat
    refine s_ar ha ?_
    refine s_slc (lo := 0) (hi := a) (mx := q.c) ?_
    rw [cut0 c3]
    rw [hfo] at he
    have hend : ∀ (o' : Sl) (out' : List TagM), out' = ((lineT M key).take a).foldl addT out → HG B (SlC ty_api_Tag 4 o' (out'.flatMap tagF) :: SlS ks (keysM M) :: LocksR l M dm :: blk t3 (.cells (tagF tag).toArray ty_api_Tag (0, 0)) :: Γ) (k' (o', (j : Int) + 1)) := fun o' out' ho => by
      have h3 := addT_len ((lineT M key).take a) out
      rw [← ho, List.length_take] at h3
      refine hk' (o', (j : Int) + 1) (out', j + 1) ⟨by simp, hjl, ?_, ?_⟩ (by simp only; omega)
      · simp only; rw [Nat.add_mul]; omega
      · simp only; rw [ho]; exact he
    refine s_loop (α := Sl × Int) (ι := List TagM × Nat) (fun x i => x.2 = (i.2 : Int) ∧ i.2 ≤ a ∧ i.1 = ((lineT M key).take i.2).foldl addT out)
      (fun x i => SlC ty_api_Tag 4 x.1 (i.1.flatMap tagF) :: SlC ty_api_Tag 4 q ((lineT M key).flatMap tagF) :: SlS ks (keysM M) :: LocksR l M dm :: blk t3 (.cells (tagF tag).toArray ty_api_Tag (0, 0)) :: Γ) (fun x i => a - i.2) (out, 0) ⟨rfl, Nat.zero_le _, by simp⟩ ?_ |> fun h => s_end h
    rintro k2 ⟨o2, _⟩ ⟨out2, i⟩ ⟨rfl, hi, ho2⟩ hk2
    simp only at hi ho2 hk2 ⊢
    unfold locks_Locks_Ahead.b2
    simp only [Nat.sub_zero]
    refine s_ite (fun hb2 => ?_) fun hb2 => ?_
    · have hil : i < a := by simp only [decide_eq_true_eq] at hb2; omega
      have hil2 : i < (lineT M key).length := by omega
      have hge2 : (lineT M key)[i]? = some (lineT M key)[i] := List.getElem?_eq_getElem hil2
      have htk : (lineT M key).take (i + 1) = (lineT M key).take i ++ [(lineT M key)[i]] := List.take_succ_eq_append_getElem hil2
      generalize (lineT M key)[i] = t at hge2 htk
      have h3 := addT_len ((lineT M key).take i) out
      rw [← ho2, List.length_take] at h3
      have hge3 : ((lineT M key).take a)[i]? = some t := by rw [List.getElem?_take, if_pos hil, hge2]
      refine s_idxN (L := (lineT M key).take a) tagF tagF_len (fun w hw => ?_) hge3 ?_
      · have h4 := ((own_rd (s := q) hw).1).take (m := a) (c := q.c) (by omega)
        rwa [flatMap_tk tagF_len] at h4
      refine s_new fun t10 => ?_
      repeat refine s_nx ?_
      refine containsT (L := out2) (by omega) (fun w hw => (own_rd (s := o2) hw).1) ?_
      unfold locks_Locks_Ahead.s3
      refine s_cap o2 fun d1 d2 d3 d4 => ?_
      rw [flatMap_len _ 4 tagF_len] at d1
      refine s_ite (fun hb3 => ?_) fun hb3 => ?_
      · have hm : ¬ t ∈ out2 := by simpa using hb3
        repeat refine s_nx ?_
        refine s_new fun t39 => ?_
        refine s_append (s := o2) (esz := 4) (us := tagF t) (blk_rd rfl) (by simp [flatV]) (by simp only; omega) fun o3 _ => ?_
        rw [show out2.flatMap tagF ++ tagF t = (addT out2 t).flatMap tagF by unfold addT; rw [if_neg hm]; simp only [List.flatMap_append, List.flatMap_cons, List.flatMap_nil, List.append_nil]]
        refine s_ai ?_
        refine s_end (hk2 (o3, (i : Int) + 1) (addT out2 t, i + 1) ⟨by simp, hil, ?_⟩ (by simp only; omega))
        simp only; rw [htk, List.foldl_append, ← ho2]; rfl
      · have hm : t ∈ out2 := by simpa using hb3
        refine s_ai ?_
        refine s_end (hk2 (o2, (i : Int) + 1) (out2, i + 1) ⟨by simp, hil, ?_⟩ (by simp only; omega))
        simp only; rw [htk, List.foldl_append, ← ho2]
        show out2 = addT out2 t
        unfold addT; rw [if_pos hm]
    · have hil : i = a := by simp only [decide_eq_false_iff_not] at hb2; omega
      refine s_ai ?_
      rw [hil] at ho2
      exact s_end (hend o2 out2 ho2)
  · have hjl : j = (keysM M).length := by simp only [decide_eq_false_iff_not] at hb; omega
    rw [hjl, List.drop_length] at he
    rw [List.foldl_nil] at he
    rw [he]
    exact s_end (h o)

/-! ### Moved -/
def clLook (r : Rec) (c : Claim) : Int := lookS r.cnt c.2.cnt r.home c.2.home
def doomL (r : Rec) (L : List Claim) (dm : DM) : DM := L.foldl (fun d c => if clLook r c ≠ 0 then dset d c.1 true else d) dm
def mvP (r : Rec) (_ : List Claim × DM) (c : Claim) : Bool := decide (clLook r c ≠ 1)
def mvS (r : Rec) (x : List Claim × DM) (c : Claim) : List Claim × DM := if clLook r c = 0 then (x.1 ++ [c], x.2) else if clLook r c = 2 then (x.1, dset x.2 c.1 true) else x
def movedM (n : Nat) (S : Recs) (key : List UInt8) (x : GM × DM) : GM × DM :=
  (mset key ((delG (mvP (sGet n S (bs key))) (mvS (sGet n S (bs key))) ((atM key x.1).1, doomL (sGet n S (bs key)) (atM key x.1).1 x.2) (atM key x.1).2).1.1, (delG (mvP (sGet n S (bs key))) (mvS (sGet n S (bs key))) ((atM key x.1).1, doomL (sGet n S (bs key)) (atM key x.1).1 x.2) (atM key x.1).2).2) (gateM key x.1),
   (delG (mvP (sGet n S (bs key))) (mvS (sGet n S (bs key))) ((atM key x.1).1, doomL (sGet n S (bs key)) (atM key x.1).1 x.2) (atM key x.1).2).1.2)
theorem s_wsX {ι : Type} {k : (World → Prop) → K} (Γ0 : ι → List HProp) (i : ι) (h : HG B Γ (k fun w => ∃ i, Holds B (Γ0 i) w)) [d : Drops Γ (Γ0 i)] : HG B Γ (WithS k) := fun w hw => ⟨_, ⟨i, hw.drops⟩, h w hw⟩
theorem s_ldSX {ι : Type} {Γ0 : ι → List HProp} {α : Type} {a : Addr} {c : α → Value} {x : α} {k : α → K} (h0 : ∀ i w, Holds B (Γ0 i) w → w.cell? a = some (c x)) (h : HG B Γ (k x)) : HG B Γ (LdS (fun w => ∃ i, Holds B (Γ0 i) w) a c k) := fun w hw => ⟨x, fun w ⟨i, hi⟩ => h0 i w hi, h w hw⟩
theorem s_svX {ι : Type} {Γ0 : ι → List HProp} (i : ι) (h : HG B Γ k) [d : Drops Γ (Γ0 i)] : HG B Γ (Sv (fun w => ∃ i, Holds B (Γ0 i) w) k) := fun w hw => ⟨⟨i, hw.drops⟩, h w hw⟩
theorem lookS_3 (a b c d : Int) : lookS a b c d = 0 ∨ lookS a b c d = 1 ∨ lookS a b c d = 2 := by
  unfold lookS
  split
  · exact .inr (.inl rfl)
  · split
    · exact .inl rfl
    · exact .inr (.inr rfl)
abbrev doomB (db : Nat) (d : DM) : HProp := ex fun D : List (TagM × Int) => Sep.stars [pur ((∀ t, d t = decide (0 < (mget t D).getD 0)) ∧ (D.map Prod.fst).Nodup), MapR (kyS tagF) (Value.int .i64) db D]
theorem s_doomB {d : DM} (h : ∀ D, (∀ t, d t = decide (0 < (mget t D).getD 0)) → (D.map Prod.fst).Nodup → HG B (MapR (kyS tagF) (Value.int .i64) db D :: Γ) k) : HG B (doomB db d :: Γ) k :=
  s_ex fun D => s_flat <| s_pur fun ⟨h1, h2⟩ => h D h1 h2
theorem s_mkDoom {d : DM} {D : List (TagM × Int)} (h1 : ∀ t, d t = decide (0 < (mget t D).getD 0)) (h2 : (D.map Prod.fst).Nodup) (h : HG B (doomB db d :: Γ) k) : HG B (MapR (kyS tagF) (Value.int .i64) db D :: Γ) k := fun w hw => by
  refine h w ?_
  have h3 : Holds B (Sep.stars [pur ((∀ t, d t = decide (0 < (mget t D).getD 0)) ∧ (D.map Prod.fst).Nodup), MapR (kyS tagF) (Value.int .i64) db D] :: Γ) w := Holds.flat.2 (Holds.pur.2 ⟨⟨h1, h2⟩, hw⟩)
  exact h3.imp fun g hg => ⟨D, hg⟩
abbrev lineB (gb : Nat) (ps : Sl) (L : List Claim) : HProp := ex fun ls : Sl => Sep.stars [blk gb (.cells [ls.val, ps.val].toArray ty_locks_gate (0, 0)), SlC ty_locks_claim 7 ls (L.flatMap clF)]
theorem s_lineB {gb : Nat} {ps : Sl} {L : List Claim} (h : ∀ ls, HG B (blk gb (.cells [ls.val, ps.val].toArray ty_locks_gate (0, 0)) :: SlC ty_locks_claim 7 ls (L.flatMap clF) :: Γ) k) : HG B (lineB gb ps L :: Γ) k :=
  s_ex fun ls => s_flat (h ls)
theorem s_mkLine {gb : Nat} {ls ps : Sl} {L : List Claim} (h : HG B (lineB gb ps L :: Γ) k) : HG B (blk gb (.cells [ls.val, ps.val].toArray ty_locks_gate (0, 0)) :: SlC ty_locks_claim 7 ls (L.flatMap clF) :: Γ) k :=
  s_unflat (Δ := [blk gb (.cells [ls.val, ps.val].toArray ty_locks_gate (0, 0)), SlC ty_locks_claim 7 ls (L.flatMap clF)]) (s_toEx (F := fun ls : Sl => Sep.stars [blk gb (.cells [ls.val, ps.val].toArray ty_locks_gate (0, 0)), SlC ty_locks_claim 7 ls (L.flatMap clF)]) ls h)
theorem mvS_len (r : Rec) (x : List Claim × DM) (c : Claim) : (mvS r x c).1.length ≤ x.1.length + 1 := by
  unfold mvS
  repeat' split
  all_goals simp
theorem delG_len (r : Rec) : ∀ (L : List Claim) (x : List Claim × DM), (delG (mvP r) (mvS r) x L).1.1.length ≤ x.1.length + L.length ∧ (delG (mvP r) (mvS r) x L).2.length ≤ L.length
  | [], x => by simp [delG]
  | c :: L, x => by
    rw [delG_cons]
    have h1 := delG_len r L (mvS r x c)
    have h2 := mvS_len r x c
    refine ⟨by simp only [List.length_cons]; omega, ?_⟩
    simp only
    split
    · simp; omega
    · simp; exact h1.2
theorem delC_hg {s : Sl} {fv : Value} {Q : Sl → K} (h : HG B Γ (delFN Tryz.prog slices_IndexFunc_s_locks_claim_locks_claim.call ty_locks_claim ty_s_locks_claim 0 7 [(.int .i64 0), (.int .u64 0), (.int .u64 0), (.int .i64 0), (.string ⟨#[]⟩), (.int .i64 0), (.int .u64 0)] s fv Q)) : HG B Γ (slices_DeleteFunc_s_locks_claim_locks_claim.call s fv Q) := fun w hw =>
  slices_DeleteFunc_s_locks_claim_locks_claim_ok _ _ _ _ (h w hw)
theorem moved_hg {key : List UInt8} {N : Nat} {Q : K} (hk : key.length < 1000000000) (hN : gsz M N) (hNl : N ≤ 1000000) (h : HG B (LocksR l (movedM n S key (M, dm)).1 (movedM n S key (M, dm)).2 :: StoreR st n S :: Γ) Q) :
    HG B (LocksR l M dm :: StoreR st n S :: Γ) (locks_Locks_Moved.call (some ⟨l, 0, none⟩) (some ⟨st, 0, none⟩) (bs key) Q) := by
  refine fun w hw => locks_Locks_Moved_ok _ _ _ _ _ ?_
  refine hg hw ?_
  clear hw w
  unfold locks_Locks_Moved
  refine s_new fun l3 => ?_
  repeat refine s_nx ?_
  refine s_own l ?_
  refine gate_hg fun gm db X D A g C hf hX => ?_
  have hat := lf_at hX hf
  rw [at_gate] at hat
  have hz := gsz_at (k := key) hN
  rw [hat] at hz
  simp only at hz
  refine s_own st ?_
  refine storeGet_spec (k := bs key) (by show key.length < _; omega) fun s hok => ?_
  have hmv : movedM n S key (M, dm) = movedM n S key (M, dm) := rfl
  conv at hmv => rhs; unfold movedM
  simp only [hat] at hmv
  rw [hmv] at h
  generalize sGet n S (bs key) = r at *
  refine s_new fun g6 => ?_
  refine s_new fun r7 => ?_
  repeat refine s_nx ?_
  have hcl : ∀ c : Claim, lookS r.cnt c.2.cnt r.home c.2.home = clLook r c := fun c => rfl
  refine s_cap g.ls fun a1 a2 a3 a4 => ?_
  refine s_cap g.ps fun b1 b2 b3 b4 => ?_
  rw [flatMap_len _ 7 clF_len] at a1 b1
  refine s_own db ?_
  refine s_mkDoom (d := doomL r (g.line.take 0) dm) hf.doom hf.nd ?_
  -- the line
  refine s_loop (α := Int) (ι := Nat) (fun x i => x = (i : Int) ∧ i ≤ g.line.length)
    (fun x i => doomB db (doomL r (g.line.take i) dm) :: blk r7 (.cells (recL r s).toArray ty_api_Record (0, 0)) :: blk g6 (.cells [.pointer (some ⟨g.b, 0, none⟩)].toArray ty_p_locks_gate (0, 0)) :: blk l3 (.cells [.pointer (some ⟨l, 0, none⟩)].toArray ty_p_locks_Locks (0, 0)) :: StoreR st n S :: gL g (blk l (.cells [.map (some gm), .map (some db)].toArray ty_locks_Locks (0, 0)) :: MapR strV gV gm X :: Sep.stars ((A ++ C).map gB) :: Γ)) (fun x i => g.line.length - i) 0 ⟨rfl, Nat.zero_le _⟩ ?_ |> fun h => s_end h
  rintro k' _ i ⟨rfl, hi⟩ hk'
  unfold locks_Locks_Moved.b1
  refine s_ite (fun hb => ?_) fun hb => ?_
  · have hil : i < g.line.length := by simp only [decide_eq_true_eq] at hb; omega
    have hge : g.line[i]? = some g.line[i] := List.getElem?_eq_getElem hil
    have htk : g.line.take (i + 1) = g.line.take i ++ [g.line[i]] := List.take_succ_eq_append_getElem hil
    generalize g.line[i] = c at hge htk
    have hdm : doomL r (g.line.take (i + 1)) dm = if clLook r c ≠ 0 then dset (doomL r (g.line.take i) dm) c.1 true else doomL r (g.line.take i) dm := by
      rw [htk]; unfold doomL; rw [List.foldl_append]; rfl
    refine s_idxN clF clF_len (fun w hw => (own_rd (s := g.ls) hw).1) hge ?_
    refine s_new fun c9 => ?_
    repeat refine s_nx ?_
    refine lookHg ?_
    rw [hcl]
    unfold locks_Locks_Moved.s2
    have h5 := hk' ((i : Int) + 1) (i + 1) ⟨by simp, hil⟩ (by omega)
    rw [hdm] at h5
    refine s_ite (fun h0 => ?_) fun h0 => ?_
    · rw [if_pos (by simpa using h0)] at h5
      refine s_pick (doomB db (doomL r (g.line.take i) dm)) ?_
      refine s_doomB fun D1 hd1 hd2 => ?_
      repeat refine s_nx ?_
      refine s_updS (b := db) (cel := tagF) (a := c.1) (v := 1) keyS_tag rfl ?_ mapFD
      refine s_mkDoom (doom_set hd1) (nd_set hd2) ?_
      refine s_ai ?_
      exact s_end h5
    · rw [if_neg (by simpa using h0)] at h5
      refine s_ai ?_
      exact s_end h5
  -- the parked ones
  have hil : i = g.line.length := by simp only [decide_eq_false_iff_not] at hb; omega
  rw [hil, List.take_length]
  clear hk' hb hi hil
  have hlen := delG_len r g.park (g.line, doomL r g.line dm)
  refine s_dr ?_
  refine s_wsX (fun ls : Sl => [blk g6 (.cells [.pointer (some ⟨g.b, 0, none⟩)].toArray ty_p_locks_gate (0, 0)), blk g.b (.cells [ls.val, g.ps.val].toArray ty_locks_gate (0, 0))]) g.ls ?_
  refine s_ldSX (x := some ⟨g.b, 0, none⟩) (fun ls w hw => cell_block (own_blkOf (b := g6) hw) rfl) ?_
  refine s_ldSX (x := some ⟨g.b, 0, none⟩) (fun ls w hw => cell_block (own_blkOf (b := g6) hw) rfl) ?_
  refine s_nn ?_
  refine s_ldSX (x := g.ps) (fun ls w hw => ?_) ?_
  · rw [add_mk]
    exact cell_block (own_blkOf (b := g.b) hw) rfl
  refine s_ownS g.ls ?_
  refine s_own g.b ?_
  refine s_mkLine ?_
  refine delC_hg ?_
  refine s_own l3 ?_
  refine s_own g6 ?_
  refine s_own r7 ?_
  refine s_pick (doomB db (doomL r g.line dm)) ?_
  refine s_pick (lineB g.b g.ps g.line) ?_
  refine s_ownS g.ps ?_
  refine s_end (Δ := SlC ty_locks_claim 7 g.ps (g.park.flatMap clF) :: lineB g.b g.ps g.line :: doomB db (doomL r g.line dm) :: blk r7 (.cells (recL r s).toArray ty_api_Record (0, 0)) :: blk g6 (.cells [.pointer (some ⟨g.b, 0, none⟩)].toArray ty_p_locks_gate (0, 0)) :: blk l3 (.cells [.pointer (some ⟨l, 0, none⟩)].toArray ty_p_locks_Locks (0, 0)) :: blk l (.cells [.map (some gm), .map (some db)].toArray ty_locks_Locks (0, 0)) :: StoreR st n S :: MapR strV gV gm X :: Sep.stars ((A ++ C).map gB) :: Γ) ?_
  refine s_delFN (γ := List Claim × DM) (R := fun x => lineB g.b g.ps x.1 :: doomB db x.2 :: blk r7 (.cells (recL r s).toArray ty_api_Record (0, 0)) :: blk g6 (.cells [.pointer (some ⟨g.b, 0, none⟩)].toArray ty_p_locks_gate (0, 0)) :: blk l3 (.cells [.pointer (some ⟨l, 0, none⟩)].toArray ty_p_locks_Locks (0, 0)) :: blk l (.cells [.map (some gm), .map (some db)].toArray ty_locks_Locks (0, 0)) :: StoreR st n S :: MapR strV gV gm X :: Sep.stars ((A ++ C).map gB) :: Γ)
    (L := g.park) (f := clF) (mvP r) (mvS r) (g.line, doomL r g.line dm) (fun x C => x.1.length + C.length ≤ 2000000) (by simp only; omega) (fun x c C h => by have := mvS_len r x c; simp only [List.length_cons] at h; omega) (fun s fv Q w h => slices_IndexFunc_s_locks_claim_locks_claim_ok _ _ _ _ h) clF_len (by omega) (fun _ => rfl) rfl (by omega) (fun Ξ x c C2 q hc hIx hq => ?_) (fun ps' _ => ?_)
  · refine s_callvC (cs := [.pointer (some ⟨r7, 0, none⟩), .pointer (some ⟨g6, 0, none⟩), .pointer (some ⟨l3, 0, none⟩)]) ?_
    refine fun w hw => locks_Locks_Moved_1_ok _ _ _ _ _ _ ?_
    refine hg hw ?_
    clear hw w
    unfold locks_Locks_Moved_1
    refine s_new fun c4 => ?_
    repeat refine s_nx ?_
    refine lookHg ?_
    rw [hcl]
    have e1 : mvP r x c = decide (clLook r c ≠ 1) := rfl
    rw [e1] at hq
    refine s_ite (fun h0 => ?_) fun h0 => ?_
    · have h0' : clLook r c = 0 := by simpa using h0
      rw [show mvS r x c = (x.1 ++ [c], x.2) by unfold mvS; rw [if_pos h0']] at hq
      refine s_pick (lineB g.b g.ps x.1) ?_
      refine s_lineB fun ls => ?_
      refine s_cap ls fun d1 d2 d3 d4 => ?_
      rw [flatMap_len _ 7 clF_len] at d1
      refine s_dr ?_
      refine s_wsD [blk g.b (.cells [ls.val, g.ps.val].toArray ty_locks_gate (0, 0)), blk g6 (.cells [.pointer (some ⟨g.b, 0, none⟩)].toArray ty_p_locks_gate (0, 0)), blk c4 (.cells (clF c).toArray ty_locks_claim (0, 0))] ?_
      repeat refine s_nx ?_
      refine s_new fun t => ?_
      repeat refine s_nx ?_
      refine s_append (s := ls) (esz := 7) (us := clF c) (blk_rd rfl) (by intro v hv; exact clF_fl [c] v (by simpa using hv)) (by simp only; omega) fun ls' _ => ?_
      rw [show x.1.flatMap clF ++ clF c = (x.1 ++ [c]).flatMap clF by simp only [List.flatMap_append, List.flatMap_cons, List.flatMap_nil, List.append_nil]]
      repeat refine s_nx ?_
      refine s_ownS ls' ?_
      refine s_own g.b ?_
      refine s_mkLine ?_
      unfold locks_Locks_Moved_1.s1
      exact s_end hq
    · have h0' : ¬ clLook r c = 0 := by simpa using h0
      refine s_ite (fun h2 => ?_) fun h2 => ?_
      · have h2' : clLook r c = 2 := by simpa using h2
        rw [show mvS r x c = (x.1, dset x.2 c.1 true) by unfold mvS; rw [if_neg h0', if_pos h2']] at hq
        refine s_pick (doomB db x.2) ?_
        refine s_doomB fun D1 hd1 hd2 => ?_
        repeat refine s_nx ?_
        refine s_updS (b := db) (cel := tagF) (a := c.1) (v := 1) keyS_tag rfl ?_ mapFD
        refine s_mkDoom (doom_set hd1) (nd_set hd2) ?_
        unfold locks_Locks_Moved_1.s1
        exact s_end hq
      · have h2' : ¬ clLook r c = 2 := by simpa using h2
        rw [show mvS r x c = x by unfold mvS; rw [if_neg h0', if_neg h2']] at hq
        unfold locks_Locks_Moved_1.s1
        exact s_end hq
  · generalize (delG (mvP r) (mvS r) (g.line, doomL r g.line dm) g.park) = y at *
    obtain ⟨⟨y1, y2⟩, y3⟩ := y
    simp only at h hlen ⊢
    refine s_pick (lineB g.b g.ps y1) ?_
    refine s_lineB fun ls' => ?_
    refine s_svX ls' ?_
    refine s_nn ?_
    repeat refine s_nx ?_
    refine s_pick (doomB db y2) ?_
    refine s_doomB fun D1 hd1 hd2 => ?_
    refine s_end (Δ := gL ⟨g.b, ls', ps', y1, y3⟩ (lockF l gm db X (A ++ C) D1 (StoreR st n S :: Γ))) ?_
    exact s_ungate hX rfl hf ⟨hd1, hd2⟩ h
end
end Go.Proofs.YtihncgfghpbhdaaGreat
/- Transactions as they lie in memory. -/
namespace Go.Proofs.YtihncgfghpbhdaaGreat
open Go Go.Sep
set_option linter.unusedSimpArgs false
set_option linter.unusedVariables false

structure OpM where
  kind : Int
  key : List UInt8
  val : List UInt8
  n : Int
deriving DecidableEq
abbrev OpX := OpM × Sl
abbrev opF (x : OpX) : List Value := [.int .i64 x.1.kind, strV x.1.key, x.2.val, .int .i64 x.1.n]
theorem opF_len (x : OpX) : (opF x).length = 4 := rfl
structure TxX where
  kind : Int
  reads : List (List UInt8)
  writes : List (List UInt8)
  ops : List OpX
  to : Int
  rs : Sl
  ws : Sl
  os : Sl
abbrev txL (t : TxX) : List Value := [.int .i64 t.kind, t.rs.val, t.ws.val, t.os.val, .int .i64 t.to]
/-- A transaction's memory can be read. -/
def txRd (w : World) (t : TxX) : Prop := RdC w t.rs 1 (t.reads.map strV) ∧ RdC w t.ws 1 (t.writes.map strV) ∧ RdC w t.os 4 (t.ops.flatMap opF) ∧ ∀ x ∈ t.ops, RdB w x.2 x.1.val
end Go.Proofs.YtihncgfghpbhdaaGreat
/- Lists of texts: slices.Concat of two, slices.Compact; lists that rise. -/
namespace Go.Proofs.YtihncgfghpbhdaaGreat
open Go Go.Sep
set_option linter.unusedSimpArgs false
set_option linter.unusedVariables false
set_option maxRecDepth 100000

abbrev TX := List UInt8
def cmpct {α : Type} [DecidableEq α] : List α → List α
  | [] => []
  | [x] => [x]
  | x :: y :: L => if y = x then cmpct (y :: L) else x :: cmpct (y :: L)
theorem cmpct_snoc {α : Type} [DecidableEq α] : ∀ (A : List α) (a b : α), cmpct (A ++ [a, b]) = if b = a then cmpct (A ++ [a]) else cmpct (A ++ [a]) ++ [b]
  | [], a, b => by
    by_cases h : b = a <;> simp [cmpct, h]
  | [x], a, b => by
    have h1 := cmpct_snoc [] a b
    simp only [List.nil_append, List.singleton_append] at h1 ⊢
    rw [cmpct, h1]
    by_cases h : b = a
    · rw [if_pos h, if_pos h]; simp [cmpct]
    · rw [if_neg h, if_neg h]
      by_cases h2 : a = x
      · simp [cmpct, h2]
      · simp [cmpct, h2]
  | x :: y :: A, a, b => by
    have h1 := cmpct_snoc (y :: A) a b
    simp only [List.cons_append] at h1 ⊢
    rw [cmpct, h1]
    by_cases h : b = a
    · rw [if_pos h, if_pos h, cmpct]
    · rw [if_neg h, if_neg h]
      by_cases h2 : y = x
      · simp [cmpct, h2]
      · simp [cmpct, h2]
theorem cmpct_len {α : Type} [DecidableEq α] : ∀ L : List α, (cmpct L).length ≤ L.length
  | [] => Nat.le_refl _
  | [x] => Nat.le_refl _
  | x :: y :: L => by
    have := cmpct_len (y :: L)
    rw [cmpct]
    split
    · exact Nat.le_succ_of_le this
    · simp only [List.length_cons] at this ⊢; omega
theorem cmpct_mem {α : Type} [DecidableEq α] : ∀ {L : List α} {x : α}, x ∈ cmpct L ↔ x ∈ L
  | [], x => Iff.rfl
  | [y], x => Iff.rfl
  | y :: z :: L, x => by
    have ih := cmpct_mem (L := z :: L) (x := x)
    rw [cmpct]
    split
    · rename_i h
      rw [ih, h]; simp
    · rw [List.mem_cons, ih, List.mem_cons (a := x) (b := y)]
theorem cmpct_head : ∀ (x : TX) (L : List TX), (∀ y ∈ L, x ≤ y) → ∀ z, z ∈ (cmpct (x :: L)).tail → (x :: L).Pairwise (· ≤ ·) → x < z
  | x, [], _, z, hz, _ => by simp [cmpct] at hz
  | x, y :: L, h, z, hz, hp => by
    rw [cmpct] at hz
    have hp2 := List.pairwise_cons.1 hp
    split at hz
    · rename_i e
      subst e
      exact cmpct_head y L (fun w hw => h w (List.mem_cons_of_mem _ hw)) z hz hp2.2
    · rename_i e
      rw [List.tail_cons, cmpct_mem] at hz
      have h1 : x ≤ z := h z hz
      rcases List.le_iff_lt_or_eq.1 h1 with h2 | h2
      · exact h2
      · exfalso
        have h3 : y ≤ z := by
          rcases List.mem_cons.1 hz with rfl | hz
          · exact List.le_refl _
          · exact (List.pairwise_cons.1 hp2.2).1 z hz
        have h4 : x ≤ y := h y List.mem_cons_self
        exact e (List.le_antisymm (by rw [h2]; exact h3) h4)
/-- Of a sorted list a list that rises. -/
theorem cmpct_rises : ∀ (L : List TX), L.Pairwise (· ≤ ·) → (cmpct L).Pairwise (· < ·)
  | [], _ => List.Pairwise.nil
  | [x], _ => List.pairwise_singleton _ _
  | x :: y :: L, h => by
    have ih := cmpct_rises (y :: L) (List.pairwise_cons.1 h).2
    rw [cmpct]
    split
    · exact ih
    · rename_i e
      refine List.pairwise_cons.2 ⟨fun z hz => ?_, ih⟩
      refine cmpct_head x (y :: L) (List.pairwise_cons.1 h).1 z ?_ h
      rw [cmpct, if_neg e]; exact hz
theorem rises_eq : ∀ {L M : List TX}, L.Pairwise (· < ·) → M.Pairwise (· < ·) → (∀ x, x ∈ L ↔ x ∈ M) → L = M
  | [], [], _, _, _ => rfl
  | [], y :: M, _, _, h => by have := (h y).2 List.mem_cons_self; simp at this
  | x :: L, [], _, _, h => by have := (h x).1 List.mem_cons_self; simp at this
  | x :: L, y :: M, hL, hM, h => by
    have h1 := List.pairwise_cons.1 hL
    have h2 := List.pairwise_cons.1 hM
    have hxy : x = y := by
      rcases List.mem_cons.1 ((h x).1 List.mem_cons_self) with e | e
      · exact e
      · rcases List.mem_cons.1 ((h y).2 List.mem_cons_self) with e2 | e2
        · exact e2.symm
        · exact absurd (List.lt_trans (h1.1 y e2) (h2.1 x e)) (List.lt_irrefl _)
    subst hxy
    congr 1
    refine rises_eq h1.2 h2.2 fun z => ?_
    constructor
    · intro hz
      rcases List.mem_cons.1 ((h z).1 (List.mem_cons_of_mem _ hz)) with e | e
      · subst e; exact absurd (h1.1 z hz) (List.lt_irrefl _)
      · exact e
    · intro hz
      rcases List.mem_cons.1 ((h z).2 (List.mem_cons_of_mem _ hz)) with e | e
      · subst e; exact absurd (h2.1 z hz) (List.lt_irrefl _)
      · exact e
theorem sortL_le (L : List TX) : (sortL L).Pairwise (· ≤ ·) := by
  have := List.pairwise_mergeSort (le := fun a b : TX => decide (a ≤ b)) (fun a b c h1 h2 => by simp only [decide_eq_true_eq] at *; exact List.le_trans h1 h2) (fun a b => by simp only [Bool.or_eq_true, decide_eq_true_eq]; exact List.le_total a b) L
  refine List.Pairwise.imp ?_ this
  intro a b h; simpa using h
section
variable {B : World} {Γ Δ : List HProp} {k : K}
end
end Go.Proofs.YtihncgfghpbhdaaGreat
/- Plain forms of functions, and that their code comes to them (package ref05). -/
namespace Go.Proofs.YtihncgfghpbhdaaGreat
open Go Go.Sep
set_option linter.unusedVariables false
set_option linter.unusedSimpArgs false
set_option maxRecDepth 100000
set_option maxHeartbeats 4000000
attribute [local irreducible] G Gp Cx Tx Ex Sx Dx Ox Ax Lx Rx Fx Bx Bj Al Do Ld LdN St StN New CallF Ar DoU Rd Rd2 Pu Cd Ite Fv CallV CallY Ans0 Ans1 Ans2 Ans3 Ans4 Ans5 Ext Dead Dr WithS Sv LdS LdNS RdS Rd2S Nn Idx IdxA IdxS Fld Bld Slc SlcS Cat All LoopK RangeF RangeJ TakeD
namespace F_IRRef05
instance cb_60 : CB Tryz.prog 60 := ⟨by kernel_rfl⟩
instance ct_47 : CT Tryz.prog 47 := ⟨by kernel_rfl⟩
instance ct_9 : CT Tryz.prog 9 := ⟨by kernel_rfl⟩
instance ft_95_1 : FT Tryz.prog 95 1 1 1 := ⟨by kernel_rfl⟩
instance ft_95_2 : FT Tryz.prog 95 2 2 1 := ⟨by kernel_rfl⟩
instance mx : MX Tryz.prog := ⟨mixed⟩
instance sl_47 : SLT Tryz.prog 47 9 1 := ⟨by kernel_rfl⟩
instance sz_9 : SZ Tryz.prog 9 1 := ⟨by kernel_rfl⟩
instance zt_9 : ZT Tryz.prog 9 (.string ⟨#[]⟩) := ⟨Tryz.t9, by kernel_rfl, by kernel_rfl⟩
end F_IRRef05
def ref05_SameTexts.b1 (Q : Bool → K)  (X1 : Int → K) (a0_1 : Sl) (b1_1 : Sl) (i5_1 : Int) : K :=
  Ite (decide (i5_1 < (a0_1.n : Int)))
    (Dr <|
    Idx a0_1 i5_1 1 fun t19 =>
    Ld t19 Value.string fun t20 =>
    Idx b1_1 i5_1 1 fun t23 =>
    Ld t23 Value.string fun t24 =>
    Ite (!(t20.toList == t24.toList))
      (Q false)
      (Ar (IntKind.wrap .i64 (i5_1 + 1)) fun t16 =>
      X1 t16))
    (Q true)
def ref05_SameTexts (a0 : Sl) (b1 : Sl) (Q : Bool → K) : K :=
  Ite (decide ((a0.n : Int) ≠ (b1.n : Int)))
    (Q false)
    (LoopK (α := Int) (fun X x => ref05_SameTexts.b1 Q X a0 b1 x) 0)
theorem ref05_SameTexts_ok (a0 : Sl) (b1 : Sl) (Q : Bool → K) (w : World) (h : ref05_SameTexts a0 b1 Q w) : ref05_SameTexts.call a0 b1 Q w := by
  have hL4 : ∀ (a0_1 : Sl) (b1_1 : Sl), LH 4 (fun x : Int => [(0, (Sl.val a0_1)), (1, (Sl.val b1_1)), (5, (.int .i64 x))]) (fun X x => ref05_SameTexts.b1 Q X a0_1 b1_1 x) := by intros; exact ⟨⟩
  exact g_walk 26 h Tryz.func11
def ref05_Keys.s2 (Q : Sl → K) (X1 : Sl → Int → K) (out3_2 : Sl) (all4_2 : Sl) (i5_2 : Int) : K :=
  Ar (IntKind.wrap .i64 (i5_2 + 1)) fun t21 =>
  X1 out3_2 t21
def ref05_Keys.s4 (Q : Sl → K) (X1 : Sl → Int → K) (X3 : Int → K) (out3_4 : Sl) (all4_4 : Sl) (i5_4 : Int) (k6_4 : Int) (t51_4 : Bool) : K :=
  Ite t51_4
    (Idx out3_4 k6_4 1 fun t56 =>
    Ld t56 Value.string fun t57 =>
    Ar (IntKind.wrap .i64 (k6_4 - 1)) fun t62 =>
    Idx out3_4 t62 1 fun t63 =>
    Ld t63 Value.string fun t64 =>
    Idx out3_4 k6_4 1 fun t65 =>
    St t65 (.string t64) <|
    Ar (IntKind.wrap .i64 (k6_4 - 1)) fun t68 =>
    Idx out3_4 t68 1 fun t70 =>
    St t70 (.string t57) <|
    Ar (IntKind.wrap .i64 (k6_4 - 1)) fun t53 =>
    X3 t53)
    (ref05_Keys.s2 Q X1 out3_4 all4_4 i5_4)
def ref05_Keys.b3 (Q : Sl → K) (X1 : Sl → Int → K) (X3 : Int → K) (out3_3 : Sl) (all4_3 : Sl) (i5_3 : Int) (k6_3 : Int) : K :=
  Dr <|
  Ite (decide ((0 : Int) < k6_3))
    (Idx out3_3 k6_3 1 fun t43 =>
    Ld t43 Value.string fun t44 =>
    Ar (IntKind.wrap .i64 (k6_3 - 1)) fun t47 =>
    Idx out3_3 t47 1 fun t48 =>
    Ld t48 Value.string fun t49 =>
    ref05_Keys.s4 Q X1 X3 out3_3 all4_3 i5_3 k6_3 (Op.bytesLess t44.toList t49.toList))
    (ref05_Keys.s4 Q X1 X3 out3_3 all4_3 i5_3 k6_3 false)
def ref05_Keys.b1 (Q : Sl → K)  (X1 : Sl → Int → K) (all4_1 : Sl) (out3_1 : Sl) (i5_1 : Int) : K :=
  Ite (decide (i5_1 < (all4_1.n : Int)))
    (Idx all4_1 i5_1 1 fun t25 =>
    Ld t25 Value.string fun t26 =>
    ref05_In.call out3_1 t26 fun t27 =>
    Ite t27
      (ref05_Keys.s2 Q X1 out3_1 all4_1 i5_1)
      (Idx all4_1 i5_1 1 fun t31 =>
      Ld t31 Value.string fun t32 =>
      New 9 #[(.string t32)] fun t33 =>
      Do Tryz.prog (Builtin.append_ #[47, 47] 47 #[(Sl.val out3_1), (Sl.val (Sl.mk (some t33) 1 1))]) Sl.val fun t34 =>
      Ar (IntKind.wrap .i64 ((t34.n : Int) - 1)) fun t37 =>
      LoopK (α := Int) (fun X x => ref05_Keys.b3 Q X1 X t34 all4_1 i5_1 x) t37))
    (Q out3_1)
def ref05_Keys (t0 : (Array Value)) (Q : Sl → K) : K :=
  New 95 t0 fun t1 =>
  New 9 #[] fun t8 =>
  Dr <| WithS fun S =>
  LdS S (t1.add 1) Sl.val fun t11 =>
  LdS S (t1.add 2) Sl.val fun t14 =>
  New 9 #[] fun t9 =>
  Sv S <|
  Do Tryz.prog (Builtin.append_ #[47, 47] 47 #[(Sl.val (Sl.mk (some t9) 0 0)), (Sl.val t11)]) Sl.val fun t12 =>
  Sv S <|
  Do Tryz.prog (Builtin.append_ #[47, 47] 47 #[(Sl.val t12), (Sl.val t14)]) Sl.val fun t15 =>
  LoopK (α := Sl × Int) (fun X x => ref05_Keys.b1 Q (fun out3_1 i5_1 => X (out3_1, i5_1)) t15 x.1 x.2) ((Sl.mk (some t8) 0 0), 0)
theorem ref05_Keys_ok (t0 : (Array Value)) (Q : Sl → K) (w : World) (h : ref05_Keys t0 Q w) : ref05_Keys.call t0 Q w := by
  have hJ5 : ∀ (X1 : (Sl × Int) → K), XH 4 X1 → JH 5 fun D => ∃ (all4_2 : Sl) (i5_2 : Int), D [(4, (Sl.val all4_2)), (5, (.int .i64 i5_2))] (fun C => ∀ (out3_2 : Sl), C [(3, (Sl.val out3_2)), (4, (Sl.val all4_2)), (5, (.int .i64 i5_2))] (ref05_Keys.s2 Q (fun out3_1 i5_1 => X1 (out3_1, i5_1)) out3_2 all4_2 i5_2)) := by intros; exact ⟨fun _ ⟨_, _, h⟩ => ⟨_, _, h⟩⟩
  have hJ1000009 : ∀ (X1 : (Sl × Int) → K), XH 4 X1 → ∀ (X3 : Int → K), XH 9 X3 → JH 1000009 fun D => ∃ (out3_4 : Sl) (all4_4 : Sl) (i5_4 : Int) (k6_4 : Int), D [(3, (Sl.val out3_4)), (4, (Sl.val all4_4)), (5, (.int .i64 i5_4)), (6, (.int .i64 k6_4))] (fun C => ∀ (t51_4 : Bool), C [(3, (Sl.val out3_4)), (4, (Sl.val all4_4)), (5, (.int .i64 i5_4)), (6, (.int .i64 k6_4)), (51, (.bool t51_4))] (ref05_Keys.s4 Q (fun out3_1 i5_1 => X1 (out3_1, i5_1)) X3 out3_4 all4_4 i5_4 k6_4 t51_4)) := by intros; exact ⟨fun _ ⟨_, _, _, _, h⟩ => ⟨_, _, h⟩⟩
  have hL9 : ∀ (X1 : (Sl × Int) → K), XH 4 X1 → ∀ (out3_3 : Sl) (all4_3 : Sl) (i5_3 : Int), LH 9 (fun x : Int => [(3, (Sl.val out3_3)), (4, (Sl.val all4_3)), (5, (.int .i64 i5_3)), (6, (.int .i64 x))]) (fun X x => ref05_Keys.b3 Q (fun out3_1 i5_1 => X1 (out3_1, i5_1)) X out3_3 all4_3 i5_3 x) := by intros; exact ⟨⟩
  have hL4 : ∀ (all4_1 : Sl), LH 4 (fun x : Sl × Int => [(3, (Sl.val x.1)), (4, (Sl.val all4_1)), (5, (.int .i64 x.2))]) (fun X x => ref05_Keys.b1 Q (fun out3_1 i5_1 => X (out3_1, i5_1)) all4_1 x.1 x.2) := by intros; exact ⟨⟩
  have hD2 : DH 2 2 [6] (.s [1, 4, 2, 5] (.a [(0, 1, .a [(3, 1, .a [(6, 0, .s [7] .e)])])])) := by intros; exact ⟨⟩
  exact g_walk 72 h Tryz.func37
def ref05_In.b1 (Q : Bool → K)  (X1 : Int → K) (list0_1 : Sl) (key1_1 : ByteArray) (i5_1 : Int) : K :=
  Ite (decide (i5_1 < (list0_1.n : Int)))
    (Idx list0_1 i5_1 1 fun t14 =>
    Ld t14 Value.string fun t15 =>
    Ite (t15.toList == key1_1.toList)
      (Q true)
      (Ar (IntKind.wrap .i64 (i5_1 + 1)) fun t11 =>
      X1 t11))
    (Q false)
def ref05_In (list0 : Sl) (key1 : ByteArray) (Q : Bool → K) : K :=
  LoopK (α := Int) (fun X x => ref05_In.b1 Q X list0 key1 x) 0
theorem ref05_In_ok (list0 : Sl) (key1 : ByteArray) (Q : Bool → K) (w : World) (h : ref05_In list0 key1 Q w) : ref05_In.call list0 key1 Q w := by
  have hL2 : ∀ (list0_1 : Sl) (key1_1 : ByteArray), LH 2 (fun x : Int => [(0, (Sl.val list0_1)), (1, (.string key1_1)), (5, (.int .i64 x))]) (fun X x => ref05_In.b1 Q X list0_1 key1_1 x) := by intros; exact ⟨⟩
  exact g_walk 18 h Tryz.func60
end Go.Proofs.YtihncgfghpbhdaaGreat
/- The document's transactions: In, SameTexts, Keys, Great, Same. -/
namespace Go.Proofs.YtihncgfghpbhdaaGreat
open Go Go.Sep
set_option linter.unusedSimpArgs false
set_option linter.unusedVariables false
set_option maxRecDepth 100000

/-- All keys, rising, each once. -/
def keysT (L : List TX) : List TX := cmpct (sortL L)
theorem keysT_rises (L : List TX) : (keysT L).Pairwise (· < ·) := cmpct_rises _ (sortL_le L)
theorem keysT_mem {L : List TX} {x : TX} : x ∈ keysT L ↔ x ∈ L := by unfold keysT; rw [cmpct_mem, sortL_mem]
theorem keysT_len (L : List TX) : (keysT L).length ≤ L.length := by
  have := cmpct_len (sortL L)
  rwa [sortL_len] at this
theorem keysT_eq {L M : List TX} (h : M.Pairwise (· < ·)) (hm : ∀ x, x ∈ M ↔ x ∈ L) : M = keysT L := rises_eq h (keysT_rises L) fun x => by rw [hm, keysT_mem]
section
variable {B : World} {Γ Δ : List HProp} {k : K}
theorem s_str {s : Sl} {xs : List UInt8} {q : ByteArray → K} (hr : ∀ w, Holds B Γ w → RdB w s xs) (h : HG B Γ (q (bs xs))) : HG B Γ (Rd Tryz.prog (convert ty_s_uint8 ty_string s.val) Value.string q) := fun w hw => r_str (by kernel_rfl) (hr w hw) (h w hw)
theorem in05_hg {s : Sl} {L : List TX} {key : TX} {Q : Bool → K} (hL : L.length < 1000000000) (hr : ∀ w, Holds B Γ w → RdC w s 1 (L.map strV)) (h : HG B Γ (Q (decide (key ∈ L)))) : HG B Γ (ref05_In.call s (bs key) Q) := fun w hw => by
  refine ref05_In_ok _ _ _ _ ?_
  have hn : s.n = L.length := by have := (hr w hw).len; simpa using this.symm
  refine Sep.hg hw ?_
  clear hw w
  unfold ref05_In
  refine s_loopC (α := Int) (fun x => ∃ i : Nat, x = (i : Int) ∧ i ≤ L.length ∧ key ∉ L.take i) (fun x => L.length - x.toNat) ⟨0, rfl, Nat.zero_le _, by simp⟩ fun k' x hx hk' => ?_
  obtain ⟨i, rfl, hi, hno⟩ := hx
  unfold ref05_In.b1
  refine s_ite (fun hb => ?_) fun hb => ?_
  · have hil : i < L.length := by simp only [decide_eq_true_eq] at hb; omega
    have hge : L[i]? = some L[i] := List.getElem?_eq_getElem hil
    have hmem : L[i] ∈ L := List.getElem_mem hil
    have htk : L.take (i + 1) = L.take i ++ [L[i]] := List.take_succ_eq_append_getElem hil
    generalize L[i] = x at hge hmem htk
    refine s_idxS hr hge ?_
    rw [bs_list, bs_list]
    refine s_ite (fun he => ?_) fun he => ?_
    · have he' : x = key := by simpa using he
      rw [show decide (key ∈ L) = true by rw [← he']; simpa using hmem] at h
      exact h
    · have he' : ¬ x = key := by simpa using he
      refine s_ai ?_
      refine hk' _ ⟨i + 1, by simp, hil, ?_⟩ (by omega)
      rw [htk]
      simp only [List.mem_append, List.mem_singleton, not_or]
      exact ⟨hno, fun e => he' e.symm⟩
  · have hil : i = L.length := by simp only [decide_eq_false_iff_not] at hb; omega
    rw [hil, List.take_length] at hno
    rw [show decide (key ∈ L) = false by simpa using hno] at h
    exact h
theorem texts05_hg {a b : Sl} {La Lb : List TX} {Q : Bool → K} (hL : La.length < 1000000000) (ha : ∀ w, Holds B Γ w → RdC w a 1 (La.map strV)) (hb : ∀ w, Holds B Γ w → RdC w b 1 (Lb.map strV)) (h : HG B Γ (Q (decide (La = Lb)))) : HG B Γ (ref05_SameTexts.call a b Q) := fun w hw => by
  refine ref05_SameTexts_ok _ _ _ _ ?_
  have han : a.n = La.length := by have := (ha w hw).len; simpa using this.symm
  have hbn : b.n = Lb.length := by have := (hb w hw).len; simpa using this.symm
  refine Sep.hg hw ?_
  clear hw w
  unfold ref05_SameTexts
  refine s_ite (fun hc => ?_) fun hc => ?_
  · have hne : La.length ≠ Lb.length := by simp only [decide_eq_true_eq] at hc; omega
    rw [show decide (La = Lb) = false by simpa using fun e => hne (by rw [e])] at h
    exact h
  have hll : La.length = Lb.length := by simp only [decide_eq_false_iff_not] at hc; omega
  refine s_loopC (α := Int) (fun x => ∃ i : Nat, x = (i : Int) ∧ i ≤ La.length ∧ La.take i = Lb.take i) (fun x => La.length - x.toNat) ⟨0, rfl, Nat.zero_le _, by simp⟩ fun k' x hx hk' => ?_
  obtain ⟨i, rfl, hi, he⟩ := hx
  unfold ref05_SameTexts.b1
  refine s_ite (fun hc2 => ?_) fun hc2 => ?_
  · have hil : i < La.length := by simp only [decide_eq_true_eq] at hc2; omega
    have hil2 : i < Lb.length := by omega
    have t1 := List.take_succ_eq_append_getElem hil
    have t2 := List.take_succ_eq_append_getElem hil2
    have g1 : La[i]? = some La[i] := List.getElem?_eq_getElem hil
    have g2 : Lb[i]? = some Lb[i] := List.getElem?_eq_getElem hil2
    generalize La[i] = x at t1 g1
    generalize Lb[i] = y at t2 g2
    repeat refine s_nx ?_
    refine s_idxS ha g1 ?_
    refine s_idxS hb g2 ?_
    rw [bs_list, bs_list]
    refine s_ite (fun hp => ?_) fun hp => ?_
    · have hp' : ¬ x = y := by simpa using hp
      rw [show decide (La = Lb) = false by simp only [decide_eq_false_iff_not]; rintro rfl; rw [g1] at g2; exact hp' (Option.some.inj g2)] at h
      exact h
    · have hp' : x = y := by simpa using hp
      refine s_ai ?_
      exact hk' _ ⟨i + 1, by simp, hil, by rw [t1, t2, he, hp']⟩ (by omega)
  · have hil : i = La.length := by simp only [decide_eq_false_iff_not] at hc2; omega
    rw [hil, List.take_length, hll, List.take_length] at he
    rw [show decide (La = Lb) = true by simpa using he] at h
    exact h
/-- A text goes to its place. -/
theorem bubble_hg {s all : Sl} {A : List TX} {x : TX} {X1 : Sl → Int → K} {Q : Sl → K} {i : Int} (hA : A.Pairwise (· < ·)) (hx : x ∉ A) (hL : A.length < 100000000)
    (h : ∀ M, M.Pairwise (· < ·) → (∀ y, y ∈ M ↔ y = x ∨ y ∈ A) → M.length = A.length + 1 → HG B (SlS s M :: Γ) (ref05_Keys.s2 Q X1 s all i)) :
    HG B (SlS s (A ++ [x]) :: Γ) (LoopK (α := Int) (fun X y => ref05_Keys.b3 Q X1 X s all i y) (A.length : Int)) := by
  refine s_loop (α := Int) (ι := List TX × List TX) (fun y i => y = (i.1.length : Int) ∧ A = i.1 ++ i.2 ∧ ∀ z ∈ i.2, x < z) (fun y i => SlS s (i.1 ++ x :: i.2) :: Γ) (fun y i => i.1.length) (A, []) ⟨rfl, by simp, by simp⟩ ?_
  rintro k' _ ⟨A1, A2⟩ ⟨rfl, rfl, h2⟩ hk'
  simp only at h2 hk' ⊢
  have hpw := List.pairwise_append.1 hA
  have hlen : (A1 ++ A2).length = A1.length + A2.length := List.length_append
  have stop : (∀ z ∈ A1, z < x) → HG B (SlS s (A1 ++ x :: A2) :: Γ) (ref05_Keys.s4 Q X1 k' s all i (A1.length : Int) false) := fun h1 => by
    unfold ref05_Keys.s4
    refine s_f ?_
    refine h (A1 ++ x :: A2) (List.pairwise_append.2 ⟨hpw.1, List.pairwise_cons.2 ⟨h2, hpw.2.1⟩, fun a ha b hb => ?_⟩) (fun y => by simp only [List.mem_append, List.mem_cons]; constructor <;> (intro h; rcases h with h | h | h <;> simp [h])) (by simp; omega)
    rcases List.mem_cons.1 hb with rfl | hb
    · exact h1 a ha
    · exact hpw.2.2 a ha b hb
  unfold ref05_Keys.b3
  refine s_cap s fun a1 a2 a3 a4 => ?_
  have hn : s.n = A1.length + (A2.length + 1) := by simpa using a1.symm
  repeat refine s_nx ?_
  rcases List.eq_nil_or_concat A1 with rfl | ⟨A1, y, rfl⟩
  · refine s_f ?_
    exact stop (by simp)
  simp only [List.concat_eq_append] at *
  have hl1 : (A1 ++ [y]).length = A1.length + 1 := by simp
  rw [hl1] at hn hlen hk' ⊢
  refine s_t ?_ (by simp)
  have e1 : ((A1 ++ [y]) ++ x :: A2)[A1.length + 1]? = some x := by rw [List.getElem?_append_right (by simp), hl1]; simp
  have e2 : ((A1 ++ [y]) ++ x :: A2)[A1.length]? = some y := by rw [List.append_assoc]; simp
  refine s_idxS (L := (A1 ++ [y]) ++ x :: A2) (j := A1.length + 1) (fun w hw => (own_rd (s := s) hw).1) e1 ?_ rfl
  refine s_ai ?_
  refine s_idxS (L := (A1 ++ [y]) ++ x :: A2) (j := A1.length) (fun w hw => (own_rd (s := s) hw).1) e2 ?_ (by omega)
  rw [bs_list, bs_list, bytesLess_dec]
  by_cases hxy : x < y
  · rw [show decide (x < y) = true by simpa using hxy]
    unfold ref05_Keys.s4
    refine s_t ?_
    refine s_idxS (L := (A1 ++ [y]) ++ x :: A2) (j := A1.length + 1) (fun w hw => (own_rd (s := s) hw).1) e1 ?_ rfl
    refine s_ai ?_
    refine s_idxS (L := (A1 ++ [y]) ++ x :: A2) (j := A1.length) (fun w hw => (own_rd (s := s) hw).1) e2 ?_ (by omega)
    refine s_idx (s := s) (i := A1.length + 1) ?_
    rw [← add0 (elA s (A1.length + 1) 1)]
    refine s_stE (s := s) ?_ (by simp)
    refine s_ai ?_
    refine s_idx (s := s) (i := A1.length) ?_
    rw [← add0 (elA s A1.length 1)]
    refine s_stE (s := s) ?_ (by simp)
    refine s_ai ?_
    have e3 : ((((A1 ++ [y]) ++ x :: A2).map strV).set ((A1.length + 1) * 1 + 0) (strV y)).set (A1.length * 1 + 0) (strV x) = (A1 ++ x :: (y :: A2)).map strV := by
      rw [show (A1.length + 1) * 1 + 0 = (A1 ++ [y]).length by simp, show A1.length * 1 + 0 = A1.length by omega, ← List.map_set, ← List.map_set]
      rw [List.set_append_right _ _ (Nat.le_refl _), Nat.sub_self, List.set_cons_zero, List.append_assoc, List.set_append_right _ _ (Nat.le_refl _), Nat.sub_self]
      rfl
    rw [show ((A1 ++ [y] ++ x :: A2).map strV).set ((A1.length + 1) * 1 + 0) (Value.string (bs y)) = ((A1 ++ [y] ++ x :: A2).map strV).set ((A1.length + 1) * 1 + 0) (strV y) from rfl, show Value.string (bs x) = strV x from rfl, e3]
    refine hk' _ (A1, y :: A2) ⟨by simp, by simp, fun z hz => ?_⟩ (by simp)
    rcases List.mem_cons.1 hz with rfl | hz
    · exact hxy
    · exact h2 z hz
  · rw [show decide (x < y) = false by simpa using hxy]
    have := stop fun z hz => by
      have hyx : y < x := by
        have h4 : y ≤ x := List.not_lt.1 hxy
        rcases List.le_iff_lt_or_eq.1 h4 with h5 | h5
        · exact h5
        · exact absurd (by rw [← h5]; simp) hx
      rcases List.mem_append.1 hz with hz | hz
      · exact List.lt_trans ((List.pairwise_append.1 hpw.1).2.2 z hz y (by simp)) hyx
      · rw [List.mem_singleton.1 hz]; exact hyx
    rw [hl1] at this
    exact this
theorem keys05_hg {t : TxX} {Q : Sl → K} (hr1 : ∀ w, Holds B Γ w → RdC w t.rs 1 (t.reads.map strV)) (hr2 : ∀ w, Holds B Γ w → RdC w t.ws 1 (t.writes.map strV)) (hl : t.reads.length ≤ 10000000) (hl2 : t.writes.length ≤ 10000000) (h : ∀ s, HG B (SlS s (keysT (t.reads ++ t.writes)) :: Γ) (Q s)) : HG B Γ (ref05_Keys.call (txL t).toArray Q) := fun w hw => by
  refine ref05_Keys_ok _ _ _ ?_
  have hn1 : t.rs.n = t.reads.length := by have := (hr1 w hw).len; simpa using this.symm
  have hn2 : t.ws.n = t.writes.length := by have := (hr2 w hw).len; simpa using this.symm
  refine Sep.hg hw ?_
  clear hw w
  unfold ref05_Keys
  refine s_new fun t1 => ?_
  refine s_new fun t8 => ?_
  refine s_conv (A' := SlS ⟨some ⟨t8, 0, none⟩, 0, 0⟩ []) (blk_SlC (vs := []) rfl (by simp)) ?_
  refine s_dr ?_
  refine s_wsD [blk t1 (.cells (txL t).toArray ty_api_Txn (0, 0))] ?_
  repeat refine s_nx ?_
  refine s_new fun t9 => ?_
  refine s_conv (A' := SlC ty_string 1 ⟨some ⟨t9, 0, none⟩, 0, 0⟩ []) (blk_SlC (vs := []) rfl (by simp)) ?_
  repeat refine s_nx ?_
  refine s_append (s := ⟨some ⟨t9, 0, none⟩, 0, 0⟩) (us := t.reads.map strV) (fun w hw => hr1 w hw.drops) (fun v hv => by obtain ⟨y, _, rfl⟩ := List.mem_map.1 hv; rfl) (by simp only; omega) fun a1 ha1 => ?_
  repeat refine s_nx ?_
  refine s_append (s := a1) (us := t.writes.map strV) (fun w hw => hr2 w hw.drops) (fun v hv => by obtain ⟨y, _, rfl⟩ := List.mem_map.1 hv; rfl) (by simp only at ha1; omega) fun all hall => ?_
  rw [show [] ++ t.reads.map strV ++ t.writes.map strV = (t.reads ++ t.writes).map strV by simp]
  have hln : (t.reads ++ t.writes).length = t.reads.length + t.writes.length := List.length_append
  generalize hLL : t.reads ++ t.writes = L at *
  have halln : all.n = L.length := by simp only at ha1; omega
  refine s_end (Δ := SlS ⟨some ⟨t8, 0, none⟩, 0, 0⟩ [] :: SlS all L :: Γ) ?_
  refine s_loop (α := Sl × Int) (ι := Nat × List TX) (fun y i => y.2 = (i.1 : Int) ∧ i.1 ≤ L.length ∧ i.2.Pairwise (· < ·) ∧ (∀ z, z ∈ i.2 ↔ z ∈ L.take i.1) ∧ i.2.length ≤ i.1) (fun y i => SlS y.1 i.2 :: SlS all L :: Γ) (fun y i => L.length - i.1) (0, []) ⟨rfl, Nat.zero_le _, List.Pairwise.nil, by simp, by simp⟩ ?_
  rintro k' ⟨o, _⟩ ⟨i, M⟩ ⟨rfl, hi, hM, hm, hMl⟩ hk'
  simp only at hi hM hm hMl hk' ⊢
  unfold ref05_Keys.b1
  refine s_cap o fun b1 b2 b3 b4 => ?_
  rw [List.length_map, Nat.mul_one] at b1
  refine s_ite (fun hb => ?_) fun hb => ?_
  · have hil : i < L.length := by simp only [decide_eq_true_eq] at hb; omega
    have hge : L[i]? = some L[i] := List.getElem?_eq_getElem hil
    have htk : L.take (i + 1) = L.take i ++ [L[i]] := List.take_succ_eq_append_getElem hil
    generalize L[i] = x at hge htk
    refine s_idxS (L := L) (fun w hw => (own_rd (s := all) hw).1) hge ?_
    refine in05_hg (L := M) (by omega) (fun w hw => (own_rd (s := o) hw).1) ?_
    refine s_ite (fun he => ?_) fun he => ?_
    · have hxM : x ∈ M := by simpa using he
      unfold ref05_Keys.s2
      refine s_ai ?_
      refine hk' (o, (i : Int) + 1) (i + 1, M) ⟨by simp, hil, hM, fun z => ?_, by simp only; omega⟩ (by simp only; omega)
      rw [htk, List.mem_append, ← hm]
      simp only [List.mem_singleton]
      constructor
      · exact fun h => .inl h
      · rintro (h | rfl)
        · exact h
        · exact hxM
    · have hxM : x ∉ M := by simpa using he
      refine s_idxS (L := L) (fun w hw => (own_rd (s := all) hw).1) hge ?_
      refine s_new fun t33 => ?_
      refine s_append (s := o) (us := [strV x]) (blk_rd rfl) (by simp [flatV]) (by simp only; omega) fun o2 ho2 => ?_
      rw [show M.map strV ++ [strV x] = (M ++ [x]).map strV by simp]
      refine s_ar (e' := (M.length : Int)) (by simp only at ho2; rw [wrap64 (by omega) (by omega)]; omega) ?_
      refine bubble_hg hM hxM (by omega) fun M2 h1 h2 h3 => ?_
      unfold ref05_Keys.s2
      refine s_ai ?_
      refine s_end (hk' (o2, (i : Int) + 1) (i + 1, M2) ⟨by simp, hil, h1, fun z => ?_, by simp only; omega⟩ (by simp only; omega))
      rw [h2, htk, List.mem_append, ← hm]
      simp only [List.mem_singleton]
      exact or_comm
  · have hil : i = L.length := by simp only [decide_eq_false_iff_not] at hb; omega
    rw [hil, List.take_length] at hm
    rw [keysT_eq hM hm]
    exact s_end (h o)
end
end Go.Proofs.YtihncgfghpbhdaaGreat
/- The document's transactions: Great, Same. -/
namespace Go.Proofs.YtihncgfghpbhdaaGreat
open Go Go.Sep
set_option linter.unusedSimpArgs false
set_option linter.unusedVariables false
set_option maxRecDepth 100000

abbrev GreatP (t : TxX) : Prop := 40 < t.reads.length ∨ 40 < t.writes.length ∨ 60 < t.ops.length ∨ (∃ k ∈ t.reads, 200 < k.length) ∨ (∃ k ∈ t.writes, 200 < k.length) ∨ ∃ x ∈ t.ops, 200 < x.1.key.length ∨ 200 < x.1.val.length
abbrev SameP (a b : TxX) : Prop := a.kind = b.kind ∧ a.to = b.to ∧ a.reads = b.reads ∧ a.writes = b.writes ∧ a.ops.map Prod.fst = b.ops.map Prod.fst
section
variable {B : World} {Γ Γ0 Δ : List HProp} {k : K}
/-- An element is looked at in every state that bears this. -/
theorem s_idxNS {α : Type} (f : α → List Value) {esz : Nat} {L : List α} {s : Sl} {j : Nat} {jj : Int} {x : α} {k : Array Value → K} (hf : ∀ x, (f x).length = esz) (he : 0 < esz) (hr : ∀ w, Holds B Γ w → RdC w s esz (L.flatMap f)) (hr0 : ∀ w, Holds B Γ0 w → RdC w s esz (L.flatMap f)) (hx : L[j]? = some x) (h : HG B Γ (k (f x).toArray)) (hj : jj = (j : Int) := by first | rfl | omega) :
    HG B Γ (Idx s jj esz fun t => LdNS (Holds B Γ0) t esz k) := fun w hw => by
  subst hj
  have hrw := hr w hw
  have hj : j < L.length := (List.getElem?_eq_some_iff.1 hx).1
  have hn : L.length = s.n := by
    have := hrw.len; rw [flatMap_len f esz hf] at this
    exact Nat.eq_of_mul_eq_mul_right he this
  cases ha : s.a with
  | none => have := hrw.nil ha; omega
  | some a =>
    refine ⟨a, _, ha, by omega, by omega, rfl, _, by simp [hf], fun w' hw' => ?_, h w hw⟩
    simp only [Int.toNat_natCast]
    exact flat_at f esz hf (hr0 w' hw') ha hx
/-- A part of an element. -/
theorem s_idxF1 {α β : Type} (f : α → List Value) {esz off : Nat} {L : List α} {s : Sl} {j : Nat} {jj : Int} {x : α} {c : β → Value} {v : β} {k : β → K} (hf : ∀ x, (f x).length = esz) (hr : ∀ w, Holds B Γ w → RdC w s esz (L.flatMap f)) (hx : L[j]? = some x) (hv : (f x)[off]? = some (c v)) (h : HG B Γ (k v)) (hj : jj = (j : Int) := by first | rfl | omega) :
    HG B Γ (Idx s jj esz fun t => Ld (t.add off) c k) := fun w hw => by
  subst hj
  have hrw := hr w hw
  have hj : j < L.length := (List.getElem?_eq_some_iff.1 hx).1
  have ho : off < esz := by rw [← hf x]; exact (List.getElem?_eq_some_iff.1 hv).1
  have hn : L.length = s.n := by
    have := hrw.len; rw [flatMap_len f esz hf] at this
    exact Nat.eq_of_mul_eq_mul_right (by omega) this
  cases ha : s.a with
  | none => have := hrw.nil ha; omega
  | some a =>
    refine ⟨a, _, ha, by omega, by omega, rfl, v, ?_, h w hw⟩
    simp only [Int.toNat_natCast]
    have h2 := flat_at f esz hf hrw ha hx off (by simpa [hf] using ho)
    rw [h2]
    simpa using hv
theorem s_idxF0 {α β : Type} (f : α → List Value) {esz : Nat} {L : List α} {s : Sl} {j : Nat} {jj : Int} {x : α} {c : β → Value} {v : β} {k : β → K} (hf : ∀ x, (f x).length = esz) (hr : ∀ w, Holds B Γ w → RdC w s esz (L.flatMap f)) (hx : L[j]? = some x) (hv : (f x)[0]? = some (c v)) (h : HG B Γ (k v)) (hj : jj = (j : Int) := by first | rfl | omega) :
    HG B Γ (Idx s jj esz fun t => Ld t c k) := fun w hw => by
  obtain ⟨a, t, h1, h2, h3, h4, h5⟩ := s_idxF1 f (off := 0) hf hr hx hv h hj w hw
  rw [add0] at h5
  exact ⟨a, t, h1, h2, h3, h4, h5⟩
theorem tx_lens {w : World} {t : TxX} (h : txRd w t) : t.rs.n = t.reads.length ∧ t.ws.n = t.writes.length ∧ t.os.n = t.ops.length :=
  ⟨by have := h.1.len; simpa using this.symm, by have := h.2.1.len; simpa using this.symm, rd_len opF_len (by omega) h.2.2.1⟩
end
end Go.Proofs.YtihncgfghpbhdaaGreat
/- The document's transactions: which are right. -/
namespace Go.Proofs.YtihncgfghpbhdaaGreat
open Go Go.Sep
set_option linter.unusedSimpArgs false
set_option linter.unusedVariables false
set_option maxRecDepth 100000

def opRight (t : TxX) (o : OpM) : Bool :=
  if 32 < o.val.length ∨ o.kind < 1 ∨ 7 < o.kind then false
  else if o.kind = 7 then decide (o.key = []) && decide (o.n = 0)
  else if o.key ∉ t.writes ∧ (o.key ∉ t.reads ∨ o.kind = 2 ∨ o.kind = 3 ∨ o.kind = 6) then false
  else if o.kind ≠ 6 ∧ o.n ≠ 0 then false
  else decide (o.kind = 2) || (decide (o.kind = 4) || decide (o.val.length = 0))
abbrev Rises (L : List TX) : Prop := L.Pairwise (· < ·)
abbrev headBad (n : Int) (t : TxX) : Prop := n < 1 ∨ 3 < n ∨ ¬ Rises t.reads ∨ ¬ Rises t.writes ∨ 8 < t.reads.length ∨ 8 < t.writes.length ∨ 8 < t.reads.length + t.writes.length
abbrev keysBad (t : TxX) : Prop := (∃ k ∈ t.reads ++ t.writes, k.length < 1 ∨ 16 < k.length) ∨ ∃ k ∈ t.reads, k ∈ t.writes
def rightT (n : Int) (t : TxX) : Bool :=
  if headBad n t then false
  else if keysBad t then false
  else if t.kind = 2 then decide (t.reads.length = 0) && (decide (t.ops.length = 0) && (decide (t.writes.length = 1) && (decide (0 ≤ t.to) && decide (t.to < n))))
  else if t.kind ≠ 1 ∨ t.to ≠ 0 ∨ 16 < t.ops.length then false
  else t.ops.all fun x => opRight t x.1
theorem right_same {a b : TxX} (h : SameP a b) (n : Int) : rightT n a = rightT n b := by
  obtain ⟨h1, h2, h3, h4, h5⟩ := h
  have hl : a.ops.length = b.ops.length := by have := congrArg List.length h5; simpa using this
  have ho : (a.ops.all fun x => opRight a x.1) = (b.ops.all fun x => opRight b x.1) := by
    have e : ∀ o, opRight a o = opRight b o := fun o => by unfold opRight; rw [h3, h4]
    have e2 : ∀ (t : TxX), (t.ops.all fun x => opRight b x.1) = ((t.ops.map Prod.fst).all fun o => opRight b o) := fun t => by rw [List.all_map]; rfl
    simp only [e]
    rw [e2 a, e2 b, h5]
  unfold rightT headBad keysBad
  rw [h1, h2, h3, h4, hl, ho]
theorem flatMap_1 {α β : Type} (f : α → β) (L : List α) : L.flatMap (fun x => [f x]) = L.map f := by induction L <;> simp_all
section
variable {B : World} {Γ Δ : List HProp} {k : K}
theorem s_ldA0 {α : Type} {a : Addr} {cs : List Value} {c : α → Value} {x : α} {k : α → K} (hn : ∀ w, Holds B Γ w → RdN w a cs.toArray) (hv : cs[0]? = some (c x)) (h : HG B Γ (k x)) : HG B Γ (Ld a c k) := fun w hw => ⟨x, by
  have := hn w hw 0 (by have := (List.getElem?_eq_some_iff.1 hv).1; simpa using this)
  rw [add0] at this
  rw [this]; simpa using hv, h w hw⟩
theorem s_ldSA {Γ0 : List HProp} {α : Type} {a : Addr} {off : Nat} {cs : List Value} {c : α → Value} {x : α} {k : α → K} (hn : ∀ w, Holds B Γ0 w → RdN w a cs.toArray) (hv : cs[off]? = some (c x)) (h : HG B Γ (k x)) : HG B Γ (LdS (Holds B Γ0) (a.add off) c k) := fun w hw => ⟨x, fun w' hw' => by
  have := hn w' hw' off (by have := (List.getElem?_eq_some_iff.1 hv).1; simpa using this)
  rw [this]; simpa using hv, h w hw⟩
theorem s_ldSA0 {Γ0 : List HProp} {α : Type} {a : Addr} {cs : List Value} {c : α → Value} {x : α} {k : α → K} (hn : ∀ w, Holds B Γ0 w → RdN w a cs.toArray) (hv : cs[0]? = some (c x)) (h : HG B Γ (k x)) : HG B Γ (LdS (Holds B Γ0) a c k) := by
  have := s_ldSA (off := 0) hn hv h
  rwa [add0] at this
theorem s_ldNSA {Γ0 : List HProp} {a : Addr} {n : Nat} {cs : List Value} {k : Array Value → K} (hn : ∀ w, Holds B Γ0 w → RdN w a cs.toArray) (hl : cs.length = n) (h : HG B Γ (k cs.toArray)) : HG B Γ (LdNS (Holds B Γ0) a n k) := fun w hw => ⟨cs.toArray, by simpa using hl, fun w' hw' => hn w' hw', h w hw⟩
/-- An element's place, in every state. -/
theorem s_idxFA {α : Type} (f : α → List Value) {esz : Nat} {L : List α} {s : Sl} {j : Nat} {jj : Int} {x : α} {k : Addr → K} (hf : ∀ x, (f x).length = esz) (he : 0 < esz) (hr : ∀ w, Holds B Γ w → RdC w s esz (L.flatMap f)) (hx : L[j]? = some x) (h : ∀ t, (∀ w, RdC w s esz (L.flatMap f) → RdN w t (f x).toArray) → HG B Γ (k t)) (hj : jj = (j : Int) := by first | rfl | omega) :
    HG B Γ (Idx s jj esz k) := fun w hw => by
  subst hj
  have hrw := hr w hw
  have hj : j < L.length := (List.getElem?_eq_some_iff.1 hx).1
  have hn : L.length = s.n := by
    have := hrw.len; rw [flatMap_len f esz hf] at this
    exact Nat.eq_of_mul_eq_mul_right he this
  cases ha : s.a with
  | none => have := hrw.nil ha; omega
  | some a =>
    refine ⟨a, _, ha, by omega, by omega, rfl, h _ (fun w' hw' => ?_) w hw⟩
    simp only [Int.toNat_natCast]
    exact flat_at f esz hf hw' ha hx
end
end Go.Proofs.YtihncgfghpbhdaaGreat
/- Plain forms of functions, and that their code comes to them (package ref10). -/
namespace Go.Proofs.YtihncgfghpbhdaaGreat
open Go Go.Sep
set_option linter.unusedVariables false
set_option linter.unusedSimpArgs false
set_option maxRecDepth 100000
set_option maxHeartbeats 4000000
attribute [local irreducible] G Gp Cx Tx Ex Sx Dx Ox Ax Lx Rx Fx Bx Bj Al Do Ld LdN St StN New CallF Ar DoU Rd Rd2 Pu Cd Ite Fv CallV CallY Ans0 Ans1 Ans2 Ans3 Ans4 Ans5 Ext Dead Dr WithS Sv LdS LdNS RdS Rd2S Nn Idx IdxA IdxS Fld Bld Slc SlcS Cat All LoopK RangeF RangeJ TakeD
namespace F_IRRef10
instance ct_3 : CT Tryz.prog 3 := ⟨by kernel_rfl⟩
instance ct_38 : CT Tryz.prog 38 := ⟨by kernel_rfl⟩
instance ft_59_1 : FT Tryz.prog 59 1 1 1 := ⟨by kernel_rfl⟩
instance ft_59_2 : FT Tryz.prog 59 2 2 1 := ⟨by kernel_rfl⟩
instance ft_65_2 : FT Tryz.prog 65 2 2 1 := ⟨by kernel_rfl⟩
instance ft_65_3 : FT Tryz.prog 65 3 3 1 := ⟨by kernel_rfl⟩
instance mx : MX Tryz.prog := ⟨mixed⟩
end F_IRRef10
def ref10_Look.s1 (Q : Int → K)  (t21_1 : Bool) : K :=
  Ite t21_1
    (Q 2)
    (Q 0)
def ref10_Look (r0 : (Array Value)) (m1 : (Array Value)) (Q : Int → K) : K :=
  New 65 r0 fun r2 =>
  New 59 m1 fun m3 =>
  Ld (m3.add 2) (Value.int .u64) fun t6 =>
  Ld (r2.add 3) (Value.int .u64) fun t8 =>
  Ite (decide (t8 < t6))
    (Q 1)
    (Ld (m3.add 2) (Value.int .u64) fun t11 =>
    Ld (r2.add 3) (Value.int .u64) fun t13 =>
    Ite (decide (t11 < t13))
      (ref10_Look.s1 Q true)
      (Ld (m3.add 1) (Value.int .i64) fun t17 =>
      Ld (r2.add 2) (Value.int .i64) fun t19 =>
      ref10_Look.s1 Q (decide (t17 ≠ t19))))
theorem ref10_Look_ok (r0 : (Array Value)) (m1 : (Array Value)) (Q : Int → K) (w : World) (h : ref10_Look r0 m1 Q w) : ref10_Look.call r0 m1 Q w := by
  have hJ4 : JH 4 fun D => D [] (fun C => ∀ (t21_1 : Bool), C [(21, (.bool t21_1))] (ref10_Look.s1 Q t21_1)) := by intros; exact ⟨fun _ h => ⟨_, _, h⟩⟩
  exact g_walk 22 h Tryz.func53
end Go.Proofs.YtihncgfghpbhdaaGreat
/- Plain forms of functions, and that their code comes to them (package ref16). -/
namespace Go.Proofs.YtihncgfghpbhdaaGreat
open Go Go.Sep
set_option linter.unusedVariables false
set_option linter.unusedSimpArgs false
set_option maxRecDepth 100000
set_option maxHeartbeats 4000000
attribute [local irreducible] G Gp Cx Tx Ex Sx Dx Ox Ax Lx Rx Fx Bx Bj Al Do Ld LdN St StN New CallF Ar DoU Rd Rd2 Pu Cd Ite Fv CallV CallY Ans0 Ans1 Ans2 Ans3 Ans4 Ans5 Ext Dead Dr WithS Sv LdS LdNS RdS Rd2S Nn Idx IdxA IdxS Fld Bld Slc SlcS Cat All LoopK RangeF RangeJ TakeD
namespace F_IRRef16
instance at_42 : AT Tryz.prog 42 4 := ⟨by kernel_rfl⟩
instance at_59 : AT Tryz.prog 59 3 := ⟨by kernel_rfl⟩
instance at_65 : AT Tryz.prog 65 4 := ⟨by kernel_rfl⟩
instance at_91 : AT Tryz.prog 91 7 := ⟨by kernel_rfl⟩
instance cb_12 : CB Tryz.prog 12 := ⟨by kernel_rfl⟩
instance cb_15 : CB Tryz.prog 15 := ⟨by kernel_rfl⟩
instance cb_19 : CB Tryz.prog 19 := ⟨by kernel_rfl⟩
instance cb_22 : CB Tryz.prog 22 := ⟨by kernel_rfl⟩
instance cb_37 : CB Tryz.prog 37 := ⟨by kernel_rfl⟩
instance cb_48 : CB Tryz.prog 48 := ⟨by kernel_rfl⟩
instance cb_50 : CB Tryz.prog 50 := ⟨by kernel_rfl⟩
instance cb_53 : CB Tryz.prog 53 := ⟨by kernel_rfl⟩
instance cb_54 : CB Tryz.prog 54 := ⟨by kernel_rfl⟩
instance cb_55 : CB Tryz.prog 55 := ⟨by kernel_rfl⟩
instance ct_34 : CT Tryz.prog 34 := ⟨by kernel_rfl⟩
instance ct_35 : CT Tryz.prog 35 := ⟨by kernel_rfl⟩
instance ct_9 : CT Tryz.prog 9 := ⟨by kernel_rfl⟩
instance ft_37_0 : FT Tryz.prog 37 0 0 1 := ⟨by kernel_rfl⟩
instance ft_37_1 : FT Tryz.prog 37 1 1 1 := ⟨by kernel_rfl⟩
instance ft_37_2 : FT Tryz.prog 37 2 2 1 := ⟨by kernel_rfl⟩
instance ft_59_0 : FT Tryz.prog 59 0 0 1 := ⟨by kernel_rfl⟩
instance ft_91_0 : FT Tryz.prog 91 0 0 4 := ⟨by kernel_rfl⟩
instance ft_91_1 : FT Tryz.prog 91 1 4 3 := ⟨by kernel_rfl⟩
instance mx : MX Tryz.prog := ⟨mixed⟩
instance pl_91 : PLT Tryz.prog 91 [(0, 4), (4, 3)] := ⟨_, Tryz.underlying91, by kernel_rfl⟩
instance pl_95 : PLT Tryz.prog 95 [(0, 1), (1, 1), (2, 1), (3, 1), (4, 1)] := ⟨_, Tryz.underlying95, by kernel_rfl⟩
instance sl_34 : SLT Tryz.prog 34 91 7 := ⟨by kernel_rfl⟩
instance sl_35 : SLT Tryz.prog 35 42 4 := ⟨by kernel_rfl⟩
instance sl_43 : SLT Tryz.prog 43 59 3 := ⟨by kernel_rfl⟩
instance sl_47 : SLT Tryz.prog 47 9 1 := ⟨by kernel_rfl⟩
instance sz_34 : SZ Tryz.prog 34 1 := ⟨by kernel_rfl⟩
instance sz_35 : SZ Tryz.prog 35 1 := ⟨by kernel_rfl⟩
instance sz_59 : SZ Tryz.prog 59 3 := ⟨by kernel_rfl⟩
instance sz_65 : SZ Tryz.prog 65 4 := ⟨by kernel_rfl⟩
instance sz_91 : SZ Tryz.prog 91 7 := ⟨by kernel_rfl⟩
instance zt_42 : ZT Tryz.prog 42 (.agg #[(.int .i64 0), (.int .u64 0), (.int .u64 0), (.int .i64 0)]) := ⟨Tryz.t42, by kernel_rfl, by kernel_rfl⟩
instance zt_59 : ZT Tryz.prog 59 (.agg #[(.string ⟨#[]⟩), (.int .i64 0), (.int .u64 0)]) := ⟨Tryz.t59, by kernel_rfl, by kernel_rfl⟩
instance zt_65 : ZT Tryz.prog 65 (.agg #[(.bool false), (Sl.val ⟨none, 0, 0⟩), (.int .i64 0), (.int .u64 0)]) := ⟨Tryz.t65, by kernel_rfl, by kernel_rfl⟩
instance zt_9 : ZT Tryz.prog 9 (.string ⟨#[]⟩) := ⟨Tryz.t9, by kernel_rfl, by kernel_rfl⟩
instance zt_91 : ZT Tryz.prog 91 (.agg #[(.int .i64 0), (.int .u64 0), (.int .u64 0), (.int .i64 0), (.string ⟨#[]⟩), (.int .i64 0), (.int .u64 0)]) := ⟨Tryz.t91, by kernel_rfl, by kernel_rfl⟩
instance zt_95 : ZT Tryz.prog 95 (.agg #[(.int .i64 0), (Sl.val ⟨none, 0, 0⟩), (Sl.val ⟨none, 0, 0⟩), (Sl.val ⟨none, 0, 0⟩), (.int .i64 0)]) := ⟨Tryz.t95, by kernel_rfl, by kernel_rfl⟩
end F_IRRef16
def ref16_Locks_Keys.b2 (Q : Sl → K) (X1 : Sl → Int → K) (X2 : Sl → Int → K) (l0_2 : Addr) (all3_2 : Sl) (i5_2 : Int) : K :=
  Ld (l0_2.add 1) Sl.val fun t32 =>
  Ite (decide (i5_2 < (t32.n : Int)))
    (Ld (l0_2.add 1) Sl.val fun t41 =>
    Idx t41 i5_2 7 fun t43 =>
    Ld (t43.add 4) Value.string fun t46 =>
    New 9 #[(.string t46)] fun t47 =>
    Do Tryz.prog (Builtin.append_ #[47, 47] 47 #[(Sl.val all3_2), (Sl.val (Sl.mk (some t47) 1 1))]) Sl.val fun t48 =>
    Ar (IntKind.wrap .i64 (i5_2 + 1)) fun t36 =>
    X2 t48 t36)
    (ref05_Keys.call #[(.int .i64 0), (Sl.val ⟨none, 0, 0⟩), (Sl.val all3_2), (Sl.val ⟨none, 0, 0⟩), (.int .i64 0)] fun t51 =>
    Q t51)
def ref16_Locks_Keys.b1 (Q : Sl → K)  (X1 : Sl → Int → K) (l0_1 : (Option Addr)) (all3_1 : Sl) (i4_1 : Int) : K :=
  Nn l0_1 fun t9 =>
  Ld t9 Sl.val fun t11 =>
  Ite (decide (i4_1 < (t11.n : Int)))
    (Ld t9 Sl.val fun t20 =>
    Idx t20 i4_1 7 fun t22 =>
    Ld (t22.add 4) Value.string fun t25 =>
    New 9 #[(.string t25)] fun t26 =>
    Do Tryz.prog (Builtin.append_ #[47, 47] 47 #[(Sl.val all3_1), (Sl.val (Sl.mk (some t26) 1 1))]) Sl.val fun t27 =>
    Ar (IntKind.wrap .i64 (i4_1 + 1)) fun t15 =>
    X1 t27 t15)
    (LoopK (α := Sl × Int) (fun X x => ref16_Locks_Keys.b2 Q X1 (fun all3_2 i5_2 => X (all3_2, i5_2)) t9 x.1 x.2) (all3_1, 0))
def ref16_Locks_Keys (l0 : (Option Addr)) (Q : Sl → K) : K :=
  New 9 #[] fun t6 =>
  LoopK (α := Sl × Int) (fun X x => ref16_Locks_Keys.b1 Q (fun all3_1 i4_1 => X (all3_1, i4_1)) l0 x.1 x.2) ((Sl.mk (some t6) 0 0), 0)
theorem ref16_Locks_Keys_ok (l0 : (Option Addr)) (Q : Sl → K) (w : World) (h : ref16_Locks_Keys l0 Q w) : ref16_Locks_Keys.call l0 Q w := by
  have hL7 : ∀ (X1 : (Sl × Int) → K), XH 3 X1 → ∀ (l0_2 : Addr), LH 7 (fun x : Sl × Int => [(0, (.pointer (some l0_2))), (3, (Sl.val x.1)), (5, (.int .i64 x.2))]) (fun X x => ref16_Locks_Keys.b2 Q (fun all3_1 i4_1 => X1 (all3_1, i4_1)) (fun all3_2 i5_2 => X (all3_2, i5_2)) l0_2 x.1 x.2) := by intros; exact ⟨⟩
  have hL3 : ∀ (l0_1 : (Option Addr)), LH 3 (fun x : Sl × Int => [(0, (.pointer l0_1)), (3, (Sl.val x.1)), (4, (.int .i64 x.2))]) (fun X x => ref16_Locks_Keys.b1 Q (fun all3_1 i4_1 => X (all3_1, i4_1)) l0_1 x.1 x.2) := by intros; exact ⟨⟩
  exact g_walk 52 h Tryz.func12
def ref16_Same.b1 (Q : Bool → K)  (X1 : Int → K) (a0_1 : Sl) (b1_1 : Sl) (i5_1 : Int) : K :=
  Ite (decide (i5_1 < (a0_1.n : Int)))
    (Dr <|
    Idx a0_1 i5_1 4 fun t19 =>
    LdN t19 4 fun t20 =>
    Idx b1_1 i5_1 4 fun t23 =>
    LdN t23 4 fun t24 =>
    Pu Tryz.prog (do eqGuard .neq 42 (.tmp 20) (.tmp 24) (.agg t20) (.agg t24); binOp .neq 42 (.agg t20) (.agg t24) : Sem Value) Value.bool fun t25 =>
    Ite t25
      (Q false)
      (Ar (IntKind.wrap .i64 (i5_1 + 1)) fun t16 =>
      X1 t16))
    (Q true)
def ref16_Same (a0 : Sl) (b1 : Sl) (Q : Bool → K) : K :=
  Ite (decide ((a0.n : Int) ≠ (b1.n : Int)))
    (Q false)
    (LoopK (α := Int) (fun X x => ref16_Same.b1 Q X a0 b1 x) 0)
theorem ref16_Same_ok (a0 : Sl) (b1 : Sl) (Q : Bool → K) (w : World) (h : ref16_Same a0 b1 Q w) : ref16_Same.call a0 b1 Q w := by
  have hL4 : ∀ (a0_1 : Sl) (b1_1 : Sl), LH 4 (fun x : Int => [(0, (Sl.val a0_1)), (1, (Sl.val b1_1)), (5, (.int .i64 x))]) (fun X x => ref16_Same.b1 Q X a0_1 b1_1 x) := by intros; exact ⟨⟩
  exact g_walk 26 h Tryz.func13
def ref16_Locks_Ahead.s2 (Q : Sl → K) (X1 : Sl → Int → K) (l0_2 : (Option Addr)) (tag3_2 : Addr) (out5_2 : Sl) (keys6_2 : Sl) (i7_2 : Int) : K :=
  Ar (IntKind.wrap .i64 (i7_2 + 1)) fun t18 =>
  X1 out5_2 t18
def ref16_Locks_Ahead.s4 (Q : Sl → K) (X1 : Sl → Int → K) (X3 : Sl → Int → K) (l0_4 : Addr) (tag3_4 : Addr) (out5_4 : Sl) (keys6_4 : Sl) (i7_4 : Int) (line8_4 : Sl) (k9_4 : Int) : K :=
  Ar (IntKind.wrap .i64 (k9_4 + 1)) fun t39 =>
  X3 out5_4 t39
def ref16_Locks_Ahead.b3 (Q : Sl → K) (X1 : Sl → Int → K) (X3 : Sl → Int → K) (l0_3 : Addr) (tag3_3 : Addr) (keys6_3 : Sl) (i7_3 : Int) (line8_3 : Sl) (out5_3 : Sl) (k9_3 : Int) : K :=
  Dr <|
  Idx line8_3 k9_3 4 fun t34 =>
  LdN t34 4 fun t35 =>
  LdN tag3_3 4 fun t36 =>
  Pu Tryz.prog (do eqGuard .neq 42 (.tmp 35) (.tmp 36) (.agg t35) (.agg t36); binOp .neq 42 (.agg t35) (.agg t36) : Sem Value) Value.bool fun t37 =>
  Ite t37
    (Idx line8_3 k9_3 4 fun t43 =>
    LdN t43 4 fun t44 =>
    ref16_In.call out5_3 t44 fun t45 =>
    Ite (!t45)
      (Idx line8_3 k9_3 4 fun t50 =>
      LdN t50 4 fun t51 =>
      Bld #[(.int .i64 0), (.int .u64 0), (.int .u64 0), (.int .i64 0)] (fun i => some (i * 4, 4)) [(0, (.agg t51))] fun ct52 =>
      New 42 ct52 fun t52 =>
      Do Tryz.prog (Builtin.append_ #[35, 35] 35 #[(Sl.val out5_3), (Sl.val (Sl.mk (some t52) 1 1))]) Sl.val fun t53 =>
      ref16_Locks_Ahead.s4 Q X1 X3 l0_3 tag3_3 t53 keys6_3 i7_3 line8_3 k9_3)
      (ref16_Locks_Ahead.s4 Q X1 X3 l0_3 tag3_3 out5_3 keys6_3 i7_3 line8_3 k9_3))
    (ref16_Locks_Ahead.s2 Q X1 (some l0_3) tag3_3 out5_3 keys6_3 i7_3)
def ref16_Locks_Ahead.b1 (Q : Sl → K)  (X1 : Sl → Int → K) (l0_1 : (Option Addr)) (tag3_1 : Addr) (keys6_1 : Sl) (out5_1 : Sl) (i7_1 : Int) : K :=
  Ite (decide (i7_1 < (keys6_1.n : Int)))
    (Dr <|
    Nn l0_1 fun t20 =>
    Idx keys6_1 i7_1 1 fun t25 =>
    Ld t20 Sl.val fun t22 =>
    Ld t25 Value.string fun t26 =>
    ref16_Tags.call t22 t26 fun t27 =>
    LdN tag3_1 4 fun t29 =>
    ref16_In.call t27 t29 fun t30 =>
    Ite (!t30)
      (ref16_Locks_Ahead.s2 Q X1 (some t20) tag3_1 out5_1 keys6_1 i7_1)
      (LoopK (α := Sl × Int) (fun X x => ref16_Locks_Ahead.b3 Q X1 (fun out5_3 k9_3 => X (out5_3, k9_3)) t20 tag3_1 keys6_1 i7_1 t27 x.1 x.2) (out5_1, 0)))
    (Q out5_1)
def ref16_Locks_Ahead (l0 : (Option Addr)) (tag1 : (Array Value)) (Q : Sl → K) : K :=
  New 42 tag1 fun tag3 =>
  New 42 #[] fun t10 =>
  ref16_Locks_Keys.call l0 fun t12 =>
  LoopK (α := Sl × Int) (fun X x => ref16_Locks_Ahead.b1 Q (fun out5_1 i7_1 => X (out5_1, i7_1)) l0 tag3 t12 x.1 x.2) ((Sl.mk (some t10) 0 0), 0)
theorem ref16_Locks_Ahead_ok (l0 : (Option Addr)) (tag1 : (Array Value)) (Q : Sl → K) (w : World) (h : ref16_Locks_Ahead l0 tag1 Q w) : ref16_Locks_Ahead.call l0 tag1 Q w := by
  have hJ4 : ∀ (X1 : (Sl × Int) → K), XH 3 X1 → JH 4 fun D => ∃ (l0_2 : (Option Addr)) (tag3_2 : Addr) (keys6_2 : Sl) (i7_2 : Int), D [(0, (.pointer l0_2)), (3, (.pointer (some tag3_2))), (6, (Sl.val keys6_2)), (7, (.int .i64 i7_2))] (fun C => ∀ (out5_2 : Sl), C [(0, (.pointer l0_2)), (3, (.pointer (some tag3_2))), (5, (Sl.val out5_2)), (6, (Sl.val keys6_2)), (7, (.int .i64 i7_2))] (ref16_Locks_Ahead.s2 Q (fun out5_1 i7_1 => X1 (out5_1, i7_1)) l0_2 tag3_2 out5_2 keys6_2 i7_2)) := by intros; exact ⟨fun _ ⟨_, _, _, _, h⟩ => ⟨_, _, h⟩⟩
  have hJ9 : ∀ (X1 : (Sl × Int) → K), XH 3 X1 → ∀ (X3 : (Sl × Int) → K), XH 8 X3 → JH 9 fun D => ∃ (l0_4 : Addr) (tag3_4 : Addr) (keys6_4 : Sl) (i7_4 : Int) (line8_4 : Sl) (k9_4 : Int), D [(0, (.pointer (some l0_4))), (3, (.pointer (some tag3_4))), (6, (Sl.val keys6_4)), (7, (.int .i64 i7_4)), (8, (Sl.val line8_4)), (9, (.int .i64 k9_4))] (fun C => ∀ (out5_4 : Sl), C [(0, (.pointer (some l0_4))), (3, (.pointer (some tag3_4))), (5, (Sl.val out5_4)), (6, (Sl.val keys6_4)), (7, (.int .i64 i7_4)), (8, (Sl.val line8_4)), (9, (.int .i64 k9_4))] (ref16_Locks_Ahead.s4 Q (fun out5_1 i7_1 => X1 (out5_1, i7_1)) (fun out5_3 k9_3 => X3 (out5_3, k9_3)) l0_4 tag3_4 out5_4 keys6_4 i7_4 line8_4 k9_4)) := by intros; exact ⟨fun _ ⟨_, _, _, _, _, _, h⟩ => ⟨_, _, h⟩⟩
  have hL8 : ∀ (X1 : (Sl × Int) → K), XH 3 X1 → ∀ (l0_3 : Addr) (tag3_3 : Addr) (keys6_3 : Sl) (i7_3 : Int) (line8_3 : Sl), LH 8 (fun x : Sl × Int => [(0, (.pointer (some l0_3))), (3, (.pointer (some tag3_3))), (5, (Sl.val x.1)), (6, (Sl.val keys6_3)), (7, (.int .i64 i7_3)), (8, (Sl.val line8_3)), (9, (.int .i64 x.2))]) (fun X x => ref16_Locks_Ahead.b3 Q (fun out5_1 i7_1 => X1 (out5_1, i7_1)) (fun out5_3 k9_3 => X (out5_3, k9_3)) l0_3 tag3_3 keys6_3 i7_3 line8_3 x.1 x.2) := by intros; exact ⟨⟩
  have hD5 : DH 5 1 [8] (.s [0, 1, 2, 4, 5, 6, 3, 7] (.a [(8, 0, .s [9] .e)])) := by intros; exact ⟨⟩
  have hL3 : ∀ (l0_1 : (Option Addr)) (tag3_1 : Addr) (keys6_1 : Sl), LH 3 (fun x : Sl × Int => [(0, (.pointer l0_1)), (3, (.pointer (some tag3_1))), (5, (Sl.val x.1)), (6, (Sl.val keys6_1)), (7, (.int .i64 x.2))]) (fun X x => ref16_Locks_Ahead.b1 Q (fun out5_1 i7_1 => X (out5_1, i7_1)) l0_1 tag3_1 keys6_1 x.1 x.2) := by intros; exact ⟨⟩
  exact g_walk 55 h Tryz.func15
def ref16_Locks_Ready.b1 (Q : Bool → K)  (X1 : Int → K) (l0_1 : (Option Addr)) (tag3_1 : Addr) (i5_1 : Int) : K :=
  Nn l0_1 fun t8 =>
  Ld (t8.add 1) Sl.val fun t10 =>
  Ite (decide (i5_1 < (t10.n : Int)))
    (Dr <|
    Ld (t8.add 1) Sl.val fun t18 =>
    Idx t18 i5_1 7 fun t20 =>
    LdN t20 4 fun t22 =>
    LdN tag3_1 4 fun t23 =>
    Pu Tryz.prog (do eqGuard .eql 42 (.tmp 22) (.tmp 23) (.agg t22) (.agg t23); binOp .eql 42 (.agg t22) (.agg t23) : Sem Value) Value.bool fun t24 =>
    Ite t24
      (Q false)
      (Ar (IntKind.wrap .i64 (i5_1 + 1)) fun t14 =>
      X1 t14))
    (LdN tag3_1 4 fun t26 =>
    ref16_Locks_Ahead.call (some t8) t26 fun t27 =>
    Q (decide ((t27.n : Int) = 0)))
def ref16_Locks_Ready (l0 : (Option Addr)) (tag1 : (Array Value)) (Q : Bool → K) : K :=
  New 42 tag1 fun tag3 =>
  LoopK (α := Int) (fun X x => ref16_Locks_Ready.b1 Q X l0 tag3 x) 0
theorem ref16_Locks_Ready_ok (l0 : (Option Addr)) (tag1 : (Array Value)) (Q : Bool → K) (w : World) (h : ref16_Locks_Ready l0 tag1 Q w) : ref16_Locks_Ready.call l0 tag1 Q w := by
  have hL2 : ∀ (l0_1 : (Option Addr)) (tag3_1 : Addr), LH 2 (fun x : Int => [(0, (.pointer l0_1)), (3, (.pointer (some tag3_1))), (5, (.int .i64 x))]) (fun X x => ref16_Locks_Ready.b1 Q X l0_1 tag3_1 x) := by intros; exact ⟨⟩
  exact g_walk 30 h Tryz.func17
def ref16_In.b1 (Q : Bool → K)  (X1 : Int → K) (list0_1 : Sl) (tag3_1 : Addr) (i5_1 : Int) : K :=
  Ite (decide (i5_1 < (list0_1.n : Int)))
    (Dr <|
    Idx list0_1 i5_1 4 fun t14 =>
    LdN t14 4 fun t15 =>
    LdN tag3_1 4 fun t16 =>
    Pu Tryz.prog (do eqGuard .eql 42 (.tmp 15) (.tmp 16) (.agg t15) (.agg t16); binOp .eql 42 (.agg t15) (.agg t16) : Sem Value) Value.bool fun t17 =>
    Ite t17
      (Q true)
      (Ar (IntKind.wrap .i64 (i5_1 + 1)) fun t11 =>
      X1 t11))
    (Q false)
def ref16_In (list0 : Sl) (tag1 : (Array Value)) (Q : Bool → K) : K :=
  New 42 tag1 fun tag3 =>
  LoopK (α := Int) (fun X x => ref16_In.b1 Q X list0 tag3 x) 0
theorem ref16_In_ok (list0 : Sl) (tag1 : (Array Value)) (Q : Bool → K) (w : World) (h : ref16_In list0 tag1 Q w) : ref16_In.call list0 tag1 Q w := by
  have hL2 : ∀ (list0_1 : Sl) (tag3_1 : Addr), LH 2 (fun x : Int => [(0, (Sl.val list0_1)), (3, (.pointer (some tag3_1))), (5, (.int .i64 x))]) (fun X x => ref16_In.b1 Q X list0_1 tag3_1 x) := by intros; exact ⟨⟩
  exact g_walk 18 h Tryz.func19
def ref16_Tags.s2 (Q : Sl → K) (X1 : Sl → Int → K) (list0_2 : Sl) (key1_2 : ByteArray) (out5_2 : Sl) (i6_2 : Int) : K :=
  Ar (IntKind.wrap .i64 (i6_2 + 1)) fun t13 =>
  X1 out5_2 t13
def ref16_Tags.b1 (Q : Sl → K)  (X1 : Sl → Int → K) (list0_1 : Sl) (key1_1 : ByteArray) (out5_1 : Sl) (i6_1 : Int) : K :=
  Ite (decide (i6_1 < (list0_1.n : Int)))
    (Idx list0_1 i6_1 7 fun t16 =>
    Ld (t16.add 4) Value.string fun t19 =>
    Ite (t19.toList == key1_1.toList)
      (Idx list0_1 i6_1 7 fun t25 =>
      LdN t25 4 fun t27 =>
      Bld #[(.int .i64 0), (.int .u64 0), (.int .u64 0), (.int .i64 0)] (fun i => some (i * 4, 4)) [(0, (.agg t27))] fun ct28 =>
      New 42 ct28 fun t28 =>
      Do Tryz.prog (Builtin.append_ #[35, 35] 35 #[(Sl.val out5_1), (Sl.val (Sl.mk (some t28) 1 1))]) Sl.val fun t29 =>
      ref16_Tags.s2 Q X1 list0_1 key1_1 t29 i6_1)
      (ref16_Tags.s2 Q X1 list0_1 key1_1 out5_1 i6_1))
    (Q out5_1)
def ref16_Tags (list0 : Sl) (key1 : ByteArray) (Q : Sl → K) : K :=
  New 42 #[] fun t7 =>
  LoopK (α := Sl × Int) (fun X x => ref16_Tags.b1 Q (fun out5_1 i6_1 => X (out5_1, i6_1)) list0 key1 x.1 x.2) ((Sl.mk (some t7) 0 0), 0)
theorem ref16_Tags_ok (list0 : Sl) (key1 : ByteArray) (Q : Sl → K) (w : World) (h : ref16_Tags list0 key1 Q w) : ref16_Tags.call list0 key1 Q w := by
  have hJ4 : ∀ (X1 : (Sl × Int) → K), XH 3 X1 → JH 4 fun D => ∃ (list0_2 : Sl) (key1_2 : ByteArray) (i6_2 : Int), D [(0, (Sl.val list0_2)), (1, (.string key1_2)), (6, (.int .i64 i6_2))] (fun C => ∀ (out5_2 : Sl), C [(0, (Sl.val list0_2)), (1, (.string key1_2)), (5, (Sl.val out5_2)), (6, (.int .i64 i6_2))] (ref16_Tags.s2 Q (fun out5_1 i6_1 => X1 (out5_1, i6_1)) list0_2 key1_2 out5_2 i6_2)) := by intros; exact ⟨fun _ ⟨_, _, _, h⟩ => ⟨_, _, h⟩⟩
  have hL3 : ∀ (list0_1 : Sl) (key1_1 : ByteArray), LH 3 (fun x : Sl × Int => [(0, (Sl.val list0_1)), (1, (.string key1_1)), (5, (Sl.val x.1)), (6, (.int .i64 x.2))]) (fun X x => ref16_Tags.b1 Q (fun out5_1 i6_1 => X (out5_1, i6_1)) list0_1 key1_1 x.1 x.2) := by intros; exact ⟨⟩
  exact g_walk 31 h Tryz.func22
def ref16_Locks_Leave.s2 (Q : K) (X1 : Sl → Int → K) (l0_2 : Addr) (tag3_2 : Addr) (left4_2 : Sl) (i5_2 : Int) : K :=
  Ar (IntKind.wrap .i64 (i5_2 + 1)) fun t33 =>
  X1 left4_2 t33
def ref16_Locks_Leave.b1 (Q : K)  (X1 : Sl → Int → K) (l0_1 : Addr) (tag3_1 : Addr) (left4_1 : Sl) (i5_1 : Int) : K :=
  Ld (l0_1.add 2) Sl.val fun t29 =>
  Ite (decide (i5_1 < (t29.n : Int)))
    (Dr <|
    Ld (l0_1.add 2) Sl.val fun t37 =>
    Idx t37 i5_1 4 fun t39 =>
    LdN t39 4 fun t40 =>
    LdN tag3_1 4 fun t41 =>
    Pu Tryz.prog (do eqGuard .neq 42 (.tmp 40) (.tmp 41) (.agg t40) (.agg t41); binOp .neq 42 (.agg t40) (.agg t41) : Sem Value) Value.bool fun t42 =>
    Ite t42
      (Ld (l0_1.add 2) Sl.val fun t47 =>
      Idx t47 i5_1 4 fun t49 =>
      LdN t49 4 fun t50 =>
      Bld #[(.int .i64 0), (.int .u64 0), (.int .u64 0), (.int .i64 0)] (fun i => some (i * 4, 4)) [(0, (.agg t50))] fun ct51 =>
      New 42 ct51 fun t51 =>
      Do Tryz.prog (Builtin.append_ #[35, 35] 35 #[(Sl.val left4_1), (Sl.val (Sl.mk (some t51) 1 1))]) Sl.val fun t52 =>
      ref16_Locks_Leave.s2 Q X1 l0_1 tag3_1 t52 i5_1)
      (ref16_Locks_Leave.s2 Q X1 l0_1 tag3_1 left4_1 i5_1))
    (St (l0_1.add 2) (Sl.val left4_1) <|
    Q)
def ref16_Locks_Leave (l0 : (Option Addr)) (tag1 : (Array Value)) (Q : K) : K :=
  New 42 tag1 fun tag3 =>
  Dr <|
  Nn l0 fun t8 =>
  Ld t8 Sl.val fun t10 =>
  LdN tag3 4 fun t11 =>
  ref16_without.call t10 t11 fun t12 =>
  St t8 (Sl.val t12) <|
  Dr <|
  Ld (t8.add 1) Sl.val fun t19 =>
  LdN tag3 4 fun t20 =>
  ref16_without.call t19 t20 fun t21 =>
  St (t8.add 1) (Sl.val t21) <|
  New 42 #[] fun t24 =>
  LoopK (α := Sl × Int) (fun X x => ref16_Locks_Leave.b1 Q (fun left4_1 i5_1 => X (left4_1, i5_1)) t8 tag3 x.1 x.2) ((Sl.mk (some t24) 0 0), 0)
theorem ref16_Locks_Leave_ok (l0 : (Option Addr)) (tag1 : (Array Value)) (Q : K) (w : World) (h : ref16_Locks_Leave l0 tag1 Q w) : ref16_Locks_Leave.call l0 tag1 Q w := by
  have hJ6 : ∀ (X1 : (Sl × Int) → K), XH 5 X1 → JH 6 fun D => ∃ (l0_2 : Addr) (tag3_2 : Addr) (i5_2 : Int), D [(0, (.pointer (some l0_2))), (3, (.pointer (some tag3_2))), (5, (.int .i64 i5_2))] (fun C => ∀ (left4_2 : Sl), C [(0, (.pointer (some l0_2))), (3, (.pointer (some tag3_2))), (4, (Sl.val left4_2)), (5, (.int .i64 i5_2))] (ref16_Locks_Leave.s2 Q (fun left4_1 i5_1 => X1 (left4_1, i5_1)) l0_2 tag3_2 left4_2 i5_2)) := by intros; exact ⟨fun _ ⟨_, _, _, h⟩ => ⟨_, _, h⟩⟩
  have hL5 : ∀ (l0_1 : Addr) (tag3_1 : Addr), LH 5 (fun x : Sl × Int => [(0, (.pointer (some l0_1))), (3, (.pointer (some tag3_1))), (4, (Sl.val x.1)), (5, (.int .i64 x.2))]) (fun X x => ref16_Locks_Leave.b1 Q (fun left4_1 i5_1 => X (left4_1, i5_1)) l0_1 tag3_1 x.1 x.2) := by intros; exact ⟨⟩
  have hD2 : DH 2 1 [6, 9] (.s [0, 1, 2, 3, 4, 5] (.a [(6, 0, .s [7, 8] (.a [(9, 0, .e)]))])) := by intros; exact ⟨⟩
  have hD1 : DH 1 1 [6, 9] (.s [0, 1, 2, 3, 4, 5] (.a [(6, 0, .s [7, 8] (.a [(9, 0, .e)]))])) := by intros; exact ⟨⟩
  exact g_walk 57 h Tryz.func27
def ref16_Locks_Moved.s2 (Q : K) (X1 : Int → K) (l0_2 : Addr) (key2_2 : ByteArray) (r6_2 : Addr) (i7_2 : Int) : K :=
  Ar (IntKind.wrap .i64 (i7_2 + 1)) fun t23 =>
  X1 t23
def ref16_Locks_Moved.s3 (Q : K) (X1 : Int → K) (l0_3 : Addr) (key2_3 : ByteArray) (r6_3 : Addr) (i7_3 : Int) (t47_3 : Bool) : K :=
  Ite t47_3
    (Ld l0_3 Sl.val fun t52 =>
    Idx t52 i7_3 7 fun t54 =>
    LdN t54 4 fun t56 =>
    ref16_Locks_doom.call (some l0_3) t56 <|
    ref16_Locks_Moved.s2 Q X1 l0_3 key2_3 r6_3 i7_3)
    (ref16_Locks_Moved.s2 Q X1 l0_3 key2_3 r6_3 i7_3)
def ref16_Locks_Moved.s5 (Q : K) (X1 : Int → K) (X4 : Sl → Int → K) (l0_5 : Addr) (key2_5 : ByteArray) (r6_5 : Addr) (left8_5 : Sl) (i9_5 : Int) : K :=
  Ar (IntKind.wrap .i64 (i9_5 + 1)) fun t67 =>
  X4 left8_5 t67
def ref16_Locks_Moved.s6 (Q : K) (X1 : Int → K) (X4 : Sl → Int → K) (l0_6 : Addr) (key2_6 : ByteArray) (r6_6 : Addr) (left8_6 : Sl) (i9_6 : Int) (c10_6 : Addr) (how11_6 : Int) (t87_6 : Bool) : K :=
  Ite t87_6
    (LdN c10_6 7 fun t89 =>
    Bld #[(.int .i64 0), (.int .u64 0), (.int .u64 0), (.int .i64 0), (.string ⟨#[]⟩), (.int .i64 0), (.int .u64 0)] (fun i => some (i * 7, 7)) [(0, (.agg t89))] fun ct90 =>
    New 91 ct90 fun t90 =>
    Do Tryz.prog (Builtin.append_ #[34, 34] 34 #[(Sl.val left8_6), (Sl.val (Sl.mk (some t90) 1 1))]) Sl.val fun t91 =>
    ref16_Locks_Moved.s5 Q X1 X4 l0_6 key2_6 r6_6 t91 i9_6)
    (Ite (decide (how11_6 = 0))
      (Dr <| WithS fun S =>
      LdS S l0_6 Sl.val fun t99 =>
      LdNS S c10_6 7 fun t101 =>
      All [
        (New 91 #[] fun t95 =>
        Sv S <|
        All [
          (Do Tryz.prog (Builtin.append_ #[34, 34] 34 #[(Sl.val (Sl.mk (some t95) 0 0)), (Sl.val t99)]) Sl.val fun t100 =>
          Sv S <|
          Bld #[(.int .i64 0), (.int .u64 0), (.int .u64 0), (.int .i64 0), (.string ⟨#[]⟩), (.int .i64 0), (.int .u64 0)] (fun i => some (i * 7, 7)) [(0, (.agg t101))] fun ct102 =>
          New 91 ct102 fun t102 =>
          Sv S <|
          Do Tryz.prog (Builtin.append_ #[34, 34] 34 #[(Sl.val t100), (Sl.val (Sl.mk (some t102) 1 1))]) Sl.val fun t103 =>
          St l0_6 (Sl.val t103) <|
          ref16_Locks_Moved.s5 Q X1 X4 l0_6 key2_6 r6_6 left8_6 i9_6),
          (Bld #[(.int .i64 0), (.int .u64 0), (.int .u64 0), (.int .i64 0), (.string ⟨#[]⟩), (.int .i64 0), (.int .u64 0)] (fun i => some (i * 7, 7)) [(0, (.agg t101))] fun ct102 =>
          New 91 ct102 fun t102 =>
          Sv S <|
          Do Tryz.prog (Builtin.append_ #[34, 34] 34 #[(Sl.val (Sl.mk (some t95) 0 0)), (Sl.val t99)]) Sl.val fun t100 =>
          Sv S <|
          Do Tryz.prog (Builtin.append_ #[34, 34] 34 #[(Sl.val t100), (Sl.val (Sl.mk (some t102) 1 1))]) Sl.val fun t103 =>
          St l0_6 (Sl.val t103) <|
          ref16_Locks_Moved.s5 Q X1 X4 l0_6 key2_6 r6_6 left8_6 i9_6)
          ]),
        (Bld #[(.int .i64 0), (.int .u64 0), (.int .u64 0), (.int .i64 0), (.string ⟨#[]⟩), (.int .i64 0), (.int .u64 0)] (fun i => some (i * 7, 7)) [(0, (.agg t101))] fun ct102 =>
        New 91 ct102 fun t102 =>
        Sv S <|
        New 91 #[] fun t95 =>
        Sv S <|
        Do Tryz.prog (Builtin.append_ #[34, 34] 34 #[(Sl.val (Sl.mk (some t95) 0 0)), (Sl.val t99)]) Sl.val fun t100 =>
        Sv S <|
        Do Tryz.prog (Builtin.append_ #[34, 34] 34 #[(Sl.val t100), (Sl.val (Sl.mk (some t102) 1 1))]) Sl.val fun t103 =>
        St l0_6 (Sl.val t103) <|
        ref16_Locks_Moved.s5 Q X1 X4 l0_6 key2_6 r6_6 left8_6 i9_6)
        ])
      (LdN c10_6 4 fun t108 =>
      ref16_Locks_doom.call (some l0_6) t108 <|
      ref16_Locks_Moved.s5 Q X1 X4 l0_6 key2_6 r6_6 left8_6 i9_6))
def ref16_Locks_Moved.b4 (Q : K) (X1 : Int → K) (X4 : Sl → Int → K) (l0_4 : Addr) (key2_4 : ByteArray) (r6_4 : Addr) (left8_4 : Sl) (i9_4 : Int) : K :=
  Ld (l0_4.add 1) Sl.val fun t63 =>
  Ite (decide (i9_4 < (t63.n : Int)))
    (Ld (l0_4.add 1) Sl.val fun t71 =>
    Idx t71 i9_4 7 fun t73 =>
    LdN t73 7 fun t74 =>
    New 91 #[(.int .i64 0), (.int .u64 0), (.int .u64 0), (.int .i64 0), (.string ⟨#[]⟩), (.int .i64 0), (.int .u64 0)] fun c10 =>
    StN c10 7 t74 <|
    LdN r6_4 4 fun t75 =>
    LdN (c10.add 4) 3 fun t77 =>
    ref10_Look.call t75 t77 fun t78 =>
    Ld (c10.add 4) Value.string fun t81 =>
    Ite (!(t81.toList == key2_4.toList))
      (ref16_Locks_Moved.s6 Q X1 X4 l0_4 key2_4 r6_4 left8_4 i9_4 c10 t78 true)
      (ref16_Locks_Moved.s6 Q X1 X4 l0_4 key2_4 r6_4 left8_4 i9_4 c10 t78 (decide (t78 = 1))))
    (St (l0_4.add 1) (Sl.val left8_4) <|
    Q)
def ref16_Locks_Moved.b1 (Q : K)  (X1 : Int → K) (l0_1 : (Option Addr)) (key2_1 : ByteArray) (r6_1 : Addr) (i7_1 : Int) : K :=
  Nn l0_1 fun t17 =>
  Ld t17 Sl.val fun t19 =>
  Ite (decide (i7_1 < (t19.n : Int)))
    (Dr <|
    Ld t17 Sl.val fun t27 =>
    Idx t27 i7_1 7 fun t29 =>
    Ld (t29.add 4) Value.string fun t32 =>
    Ite (t32.toList == key2_1.toList)
      (LdN r6_1 4 fun t36 =>
      Ld t17 Sl.val fun t40 =>
      Idx t40 i7_1 7 fun t42 =>
      LdN (t42.add 4) 3 fun t44 =>
      ref10_Look.call t36 t44 fun t45 =>
      ref16_Locks_Moved.s3 Q X1 t17 key2_1 r6_1 i7_1 (decide (t45 ≠ 0)))
      (ref16_Locks_Moved.s3 Q X1 t17 key2_1 r6_1 i7_1 false))
    (New 91 #[] fun t58 =>
    LoopK (α := Sl × Int) (fun X x => ref16_Locks_Moved.b4 Q X1 (fun left8_4 i9_4 => X (left8_4, i9_4)) t17 key2_1 r6_1 x.1 x.2) ((Sl.mk (some t58) 0 0), 0))
def ref16_Locks_Moved (l0 : (Option Addr)) (s1 : (Option Addr)) (key2 : ByteArray) (Q : K) : K :=
  ref06_Store_Get.call s1 key2 fun t14 =>
  New 65 #[(.bool false), (Sl.val ⟨none, 0, 0⟩), (.int .i64 0), (.int .u64 0)] fun r6 =>
  StN r6 4 t14 <|
  LoopK (α := Int) (fun X x => ref16_Locks_Moved.b1 Q X l0 key2 r6 x) 0
theorem ref16_Locks_Moved_ok (l0 : (Option Addr)) (s1 : (Option Addr)) (key2 : ByteArray) (Q : K) (w : World) (h : ref16_Locks_Moved l0 s1 key2 Q w) : ref16_Locks_Moved.call l0 s1 key2 Q w := by
  have hJ3 : ∀ (X1 : Int → K), XH 2 X1 → JH 3 fun D => ∃ (l0_2 : Addr) (key2_2 : ByteArray) (r6_2 : Addr) (i7_2 : Int), D [(0, (.pointer (some l0_2))), (2, (.string key2_2)), (6, (.pointer (some r6_2))), (7, (.int .i64 i7_2))] (fun C => C [(0, (.pointer (some l0_2))), (2, (.string key2_2)), (6, (.pointer (some r6_2))), (7, (.int .i64 i7_2))] (ref16_Locks_Moved.s2 Q X1 l0_2 key2_2 r6_2 i7_2)) := by intros; exact ⟨fun _ ⟨_, _, _, _, h⟩ => ⟨_, _, h⟩⟩
  have hJ5 : ∀ (X1 : Int → K), XH 2 X1 → JH 5 fun D => ∃ (l0_3 : Addr) (key2_3 : ByteArray) (r6_3 : Addr) (i7_3 : Int), D [(0, (.pointer (some l0_3))), (2, (.string key2_3)), (6, (.pointer (some r6_3))), (7, (.int .i64 i7_3))] (fun C => ∀ (t47_3 : Bool), C [(0, (.pointer (some l0_3))), (2, (.string key2_3)), (6, (.pointer (some r6_3))), (7, (.int .i64 i7_3)), (47, (.bool t47_3))] (ref16_Locks_Moved.s3 Q X1 l0_3 key2_3 r6_3 i7_3 t47_3)) := by intros; exact ⟨fun _ ⟨_, _, _, _, h⟩ => ⟨_, _, h⟩⟩
  have hD4 : DH 4 1 [21] (.s [0, 1, 2, 4, 9, 3, 5, 6, 7, 8, 10, 11] (.i (.s [13, 14, 15, 17, 12, 16, 18, 19, 20] (.a [(21, 0, .s [22, 23] .e)])) (.s [12, 13, 14, 15, 16, 17, 18, 19, 20, 21, 22, 23] .e))) := by intros; exact ⟨⟩
  have hJ9 : ∀ (X1 : Int → K), XH 2 X1 → ∀ (X4 : (Sl × Int) → K), XH 8 X4 → JH 9 fun D => ∃ (l0_5 : Addr) (key2_5 : ByteArray) (r6_5 : Addr) (i9_5 : Int), D [(0, (.pointer (some l0_5))), (2, (.string key2_5)), (6, (.pointer (some r6_5))), (9, (.int .i64 i9_5))] (fun C => ∀ (left8_5 : Sl), C [(0, (.pointer (some l0_5))), (2, (.string key2_5)), (6, (.pointer (some r6_5))), (8, (Sl.val left8_5)), (9, (.int .i64 i9_5))] (ref16_Locks_Moved.s5 Q X1 (fun left8_4 i9_4 => X4 (left8_4, i9_4)) l0_5 key2_5 r6_5 left8_5 i9_5)) := by intros; exact ⟨fun _ ⟨_, _, _, _, h⟩ => ⟨_, _, h⟩⟩
  have hD15 : DH 15 2 [9, 12] (.s [0, 2, 3, 4, 5, 7] (.a [(1, 1, .a [(6, 1, .a [(8, 1, .a [(9, 0, .s [10, 11] (.a [(12, 0, .e)]))])]), (8, 1, .a [(6, 1, .a [(9, 0, .s [10, 11] (.a [(12, 0, .e)]))])])]), (8, 1, .a [(1, 1, .a [(6, 1, .a [(9, 0, .s [10, 11] (.a [(12, 0, .e)]))])])])])) := by intros; exact ⟨⟩
  have hJ13 : ∀ (X1 : Int → K), XH 2 X1 → ∀ (X4 : (Sl × Int) → K), XH 8 X4 → JH 13 fun D => ∃ (l0_6 : Addr) (key2_6 : ByteArray) (r6_6 : Addr) (left8_6 : Sl) (i9_6 : Int) (c10_6 : Addr) (how11_6 : Int), D [(0, (.pointer (some l0_6))), (2, (.string key2_6)), (6, (.pointer (some r6_6))), (8, (Sl.val left8_6)), (9, (.int .i64 i9_6)), (10, (.pointer (some c10_6))), (11, (.int .i64 how11_6))] (fun C => ∀ (t87_6 : Bool), C [(0, (.pointer (some l0_6))), (2, (.string key2_6)), (6, (.pointer (some r6_6))), (8, (Sl.val left8_6)), (9, (.int .i64 i9_6)), (10, (.pointer (some c10_6))), (11, (.int .i64 how11_6)), (87, (.bool t87_6))] (ref16_Locks_Moved.s6 Q X1 (fun left8_4 i9_4 => X4 (left8_4, i9_4)) l0_6 key2_6 r6_6 left8_6 i9_6 c10_6 how11_6 t87_6)) := by intros; exact ⟨fun _ ⟨_, _, _, _, _, _, _, h⟩ => ⟨_, _, h⟩⟩
  have hL8 : ∀ (X1 : Int → K), XH 2 X1 → ∀ (l0_4 : Addr) (key2_4 : ByteArray) (r6_4 : Addr), LH 8 (fun x : Sl × Int => [(0, (.pointer (some l0_4))), (2, (.string key2_4)), (6, (.pointer (some r6_4))), (8, (Sl.val x.1)), (9, (.int .i64 x.2))]) (fun X x => ref16_Locks_Moved.b4 Q X1 (fun left8_4 i9_4 => X (left8_4, i9_4)) l0_4 key2_4 r6_4 x.1 x.2) := by intros; exact ⟨⟩
  have hL2 : ∀ (l0_1 : (Option Addr)) (key2_1 : ByteArray) (r6_1 : Addr), LH 2 (fun x : Int => [(0, (.pointer l0_1)), (2, (.string key2_1)), (6, (.pointer (some r6_1))), (7, (.int .i64 x))]) (fun X x => ref16_Locks_Moved.b1 Q X l0_1 key2_1 r6_1 x) := by intros; exact ⟨⟩
  exact g_walk 114 h Tryz.func31
def ref16_Locks_Enter.s2 (Q : K) (X1 : Int → K) (l0_2 : (Option Addr)) (s1_2 : (Option Addr)) (marks3_2 : Sl) (tag6_2 : Addr) (i8_2 : Int) : K :=
  Ar (IntKind.wrap .i64 (i8_2 + 1)) fun t16 =>
  X1 t16
def ref16_Locks_Enter.s3 (Q : K) (X1 : Int → K) (l0_3 : (Option Addr)) (s1_3 : (Option Addr)) (marks3_3 : Sl) (tag6_3 : Addr) (i8_3 : Int) (m9_3 : Addr) (t38_3 : Bool) : K :=
  Ite t38_3
    (ref16_Locks_Enter.s2 Q X1 l0_3 s1_3 marks3_3 tag6_3 i8_3)
    (Dr <| WithS fun S =>
    LdS S m9_3 Value.string fun t41 =>
    LdNS S m9_3 3 fun t43 =>
    ref06_Store_Get.call s1_3 t41 fun t42 =>
    Sv S <|
    ref10_Look.call t42 t43 fun t44 =>
    Ite (decide (t44 = 0))
      (Dr <| WithS fun S =>
      Nn l0_3 fun t50 =>
      LdS S t50 Sl.val fun t52 =>
      LdNS S tag6_3 4 fun t54 =>
      LdNS S m9_3 3 fun t55 =>
      Bld #[(.int .i64 0), (.int .u64 0), (.int .u64 0), (.int .i64 0), (.string ⟨#[]⟩), (.int .i64 0), (.int .u64 0)] ([(0, 4), (4, 3)][·]?) [(0, (.agg t54)), (1, (.agg t55))] fun t56 =>
      All [
        (New 91 #[] fun t48 =>
        Sv S <|
        All [
          (Do Tryz.prog (Builtin.append_ #[34, 34] 34 #[(Sl.val (Sl.mk (some t48) 0 0)), (Sl.val t52)]) Sl.val fun t53 =>
          Sv S <|
          Bld #[(.int .i64 0), (.int .u64 0), (.int .u64 0), (.int .i64 0), (.string ⟨#[]⟩), (.int .i64 0), (.int .u64 0)] (fun i => some (i * 7, 7)) [(0, (.agg t56))] fun ct57 =>
          New 91 ct57 fun t57 =>
          Sv S <|
          Do Tryz.prog (Builtin.append_ #[34, 34] 34 #[(Sl.val t53), (Sl.val (Sl.mk (some t57) 1 1))]) Sl.val fun t58 =>
          St t50 (Sl.val t58) <|
          ref16_Locks_Enter.s2 Q X1 (some t50) s1_3 marks3_3 tag6_3 i8_3),
          (Bld #[(.int .i64 0), (.int .u64 0), (.int .u64 0), (.int .i64 0), (.string ⟨#[]⟩), (.int .i64 0), (.int .u64 0)] (fun i => some (i * 7, 7)) [(0, (.agg t56))] fun ct57 =>
          New 91 ct57 fun t57 =>
          Sv S <|
          Do Tryz.prog (Builtin.append_ #[34, 34] 34 #[(Sl.val (Sl.mk (some t48) 0 0)), (Sl.val t52)]) Sl.val fun t53 =>
          Sv S <|
          Do Tryz.prog (Builtin.append_ #[34, 34] 34 #[(Sl.val t53), (Sl.val (Sl.mk (some t57) 1 1))]) Sl.val fun t58 =>
          St t50 (Sl.val t58) <|
          ref16_Locks_Enter.s2 Q X1 (some t50) s1_3 marks3_3 tag6_3 i8_3)
          ]),
        (Bld #[(.int .i64 0), (.int .u64 0), (.int .u64 0), (.int .i64 0), (.string ⟨#[]⟩), (.int .i64 0), (.int .u64 0)] (fun i => some (i * 7, 7)) [(0, (.agg t56))] fun ct57 =>
        New 91 ct57 fun t57 =>
        Sv S <|
        New 91 #[] fun t48 =>
        Sv S <|
        Do Tryz.prog (Builtin.append_ #[34, 34] 34 #[(Sl.val (Sl.mk (some t48) 0 0)), (Sl.val t52)]) Sl.val fun t53 =>
        Sv S <|
        Do Tryz.prog (Builtin.append_ #[34, 34] 34 #[(Sl.val t53), (Sl.val (Sl.mk (some t57) 1 1))]) Sl.val fun t58 =>
        St t50 (Sl.val t58) <|
        ref16_Locks_Enter.s2 Q X1 (some t50) s1_3 marks3_3 tag6_3 i8_3)
        ])
      (Ite (decide (t44 = 1))
        (Dr <| WithS fun S =>
        Nn l0_3 fun t66 =>
        LdS S (t66.add 1) Sl.val fun t68 =>
        LdNS S tag6_3 4 fun t70 =>
        LdNS S m9_3 3 fun t71 =>
        Bld #[(.int .i64 0), (.int .u64 0), (.int .u64 0), (.int .i64 0), (.string ⟨#[]⟩), (.int .i64 0), (.int .u64 0)] ([(0, 4), (4, 3)][·]?) [(0, (.agg t70)), (1, (.agg t71))] fun t72 =>
        All [
          (New 91 #[] fun t64 =>
          Sv S <|
          All [
            (Do Tryz.prog (Builtin.append_ #[34, 34] 34 #[(Sl.val (Sl.mk (some t64) 0 0)), (Sl.val t68)]) Sl.val fun t69 =>
            Sv S <|
            Bld #[(.int .i64 0), (.int .u64 0), (.int .u64 0), (.int .i64 0), (.string ⟨#[]⟩), (.int .i64 0), (.int .u64 0)] (fun i => some (i * 7, 7)) [(0, (.agg t72))] fun ct73 =>
            New 91 ct73 fun t73 =>
            Sv S <|
            Do Tryz.prog (Builtin.append_ #[34, 34] 34 #[(Sl.val t69), (Sl.val (Sl.mk (some t73) 1 1))]) Sl.val fun t74 =>
            St (t66.add 1) (Sl.val t74) <|
            ref16_Locks_Enter.s2 Q X1 (some t66) s1_3 marks3_3 tag6_3 i8_3),
            (Bld #[(.int .i64 0), (.int .u64 0), (.int .u64 0), (.int .i64 0), (.string ⟨#[]⟩), (.int .i64 0), (.int .u64 0)] (fun i => some (i * 7, 7)) [(0, (.agg t72))] fun ct73 =>
            New 91 ct73 fun t73 =>
            Sv S <|
            Do Tryz.prog (Builtin.append_ #[34, 34] 34 #[(Sl.val (Sl.mk (some t64) 0 0)), (Sl.val t68)]) Sl.val fun t69 =>
            Sv S <|
            Do Tryz.prog (Builtin.append_ #[34, 34] 34 #[(Sl.val t69), (Sl.val (Sl.mk (some t73) 1 1))]) Sl.val fun t74 =>
            St (t66.add 1) (Sl.val t74) <|
            ref16_Locks_Enter.s2 Q X1 (some t66) s1_3 marks3_3 tag6_3 i8_3)
            ]),
          (Bld #[(.int .i64 0), (.int .u64 0), (.int .u64 0), (.int .i64 0), (.string ⟨#[]⟩), (.int .i64 0), (.int .u64 0)] (fun i => some (i * 7, 7)) [(0, (.agg t72))] fun ct73 =>
          New 91 ct73 fun t73 =>
          Sv S <|
          New 91 #[] fun t64 =>
          Sv S <|
          Do Tryz.prog (Builtin.append_ #[34, 34] 34 #[(Sl.val (Sl.mk (some t64) 0 0)), (Sl.val t68)]) Sl.val fun t69 =>
          Sv S <|
          Do Tryz.prog (Builtin.append_ #[34, 34] 34 #[(Sl.val t69), (Sl.val (Sl.mk (some t73) 1 1))]) Sl.val fun t74 =>
          St (t66.add 1) (Sl.val t74) <|
          ref16_Locks_Enter.s2 Q X1 (some t66) s1_3 marks3_3 tag6_3 i8_3)
          ])
        (LdN tag6_3 4 fun t78 =>
        ref16_Locks_doom.call l0_3 t78 <|
        ref16_Locks_Enter.s2 Q X1 l0_3 s1_3 marks3_3 tag6_3 i8_3)))
def ref16_Locks_Enter.b1 (Q : K)  (X1 : Int → K) (l0_1 : (Option Addr)) (s1_1 : (Option Addr)) (marks3_1 : Sl) (tag6_1 : Addr) (i8_1 : Int) : K :=
  Ite (decide (i8_1 < (marks3_1.n : Int)))
    (Idx marks3_1 i8_1 3 fun t19 =>
    LdN t19 3 fun t20 =>
    New 59 #[(.string ⟨#[]⟩), (.int .i64 0), (.int .u64 0)] fun m9 =>
    StN m9 3 t20 <|
    Dr <| WithS fun S =>
    Nn l0_1 fun t22 =>
    LdS S t22 Sl.val fun t24 =>
    LdS S m9 Value.string fun t26 =>
    LdNS S tag6_1 4 fun t27 =>
    ref16_has.call t24 t26 t27 fun t28 =>
    Sv S <|
    Ite t28
      (ref16_Locks_Enter.s3 Q X1 (some t22) s1_1 marks3_1 tag6_1 i8_1 m9 true)
      (LdS S (t22.add 1) Sl.val fun t33 =>
      LdS S m9 Value.string fun t35 =>
      LdNS S tag6_1 4 fun t36 =>
      ref16_has.call t33 t35 t36 fun t37 =>
      ref16_Locks_Enter.s3 Q X1 (some t22) s1_1 marks3_1 tag6_1 i8_1 m9 t37))
    (Q)
def ref16_Locks_Enter (l0 : (Option Addr)) (s1 : (Option Addr)) (tag2 : (Array Value)) (marks3 : Sl) (Q : K) : K :=
  New 42 tag2 fun tag6 =>
  LoopK (α := Int) (fun X x => ref16_Locks_Enter.b1 Q X l0 s1 marks3 tag6 x) 0
theorem ref16_Locks_Enter_ok (l0 : (Option Addr)) (s1 : (Option Addr)) (tag2 : (Array Value)) (marks3 : Sl) (Q : K) (w : World) (h : ref16_Locks_Enter l0 s1 tag2 marks3 Q w) : ref16_Locks_Enter.call l0 s1 tag2 marks3 Q w := by
  have hJ3 : ∀ (X1 : Int → K), XH 2 X1 → JH 3 fun D => ∃ (l0_2 : (Option Addr)) (s1_2 : (Option Addr)) (marks3_2 : Sl) (tag6_2 : Addr) (i8_2 : Int), D [(0, (.pointer l0_2)), (1, (.pointer s1_2)), (3, (Sl.val marks3_2)), (6, (.pointer (some tag6_2))), (8, (.int .i64 i8_2))] (fun C => C [(0, (.pointer l0_2)), (1, (.pointer s1_2)), (3, (Sl.val marks3_2)), (6, (.pointer (some tag6_2))), (8, (.int .i64 i8_2))] (ref16_Locks_Enter.s2 Q X1 l0_2 s1_2 marks3_2 tag6_2 i8_2)) := by intros; exact ⟨fun _ ⟨_, _, _, _, _, h⟩ => ⟨_, _, h⟩⟩
  have hD8 : DH 8 2 [11, 14] (.s [0, 2, 3, 4, 5, 7, 8, 9] (.a [(1, 1, .a [(6, 1, .a [(10, 1, .a [(11, 0, .s [12, 13] (.a [(14, 0, .e)]))])]), (10, 1, .a [(6, 1, .a [(11, 0, .s [12, 13] (.a [(14, 0, .e)]))])])]), (10, 1, .a [(1, 1, .a [(6, 1, .a [(11, 0, .s [12, 13] (.a [(14, 0, .e)]))])])])])) := by intros; exact ⟨⟩
  have hD10 : DH 10 2 [11, 14] (.s [0, 2, 3, 4, 5, 7, 8, 9] (.a [(1, 1, .a [(6, 1, .a [(10, 1, .a [(11, 0, .s [12, 13] (.a [(14, 0, .e)]))])]), (10, 1, .a [(6, 1, .a [(11, 0, .s [12, 13] (.a [(14, 0, .e)]))])])]), (10, 1, .a [(1, 1, .a [(6, 1, .a [(11, 0, .s [12, 13] (.a [(14, 0, .e)]))])])])])) := by intros; exact ⟨⟩
  have hD6 : DH 6 2 [5] (.s [0, 1, 2, 4] (.a [(3, 1, .a [(5, 0, .s [6] .e)])])) := by intros; exact ⟨⟩
  have hJ1000005 : ∀ (X1 : Int → K), XH 2 X1 → JH 1000005 fun D => ∃ (l0_3 : (Option Addr)) (s1_3 : (Option Addr)) (marks3_3 : Sl) (tag6_3 : Addr) (i8_3 : Int) (m9_3 : Addr), D [(0, (.pointer l0_3)), (1, (.pointer s1_3)), (3, (Sl.val marks3_3)), (6, (.pointer (some tag6_3))), (8, (.int .i64 i8_3)), (9, (.pointer (some m9_3)))] (fun C => ∀ (t38_3 : Bool), C [(0, (.pointer l0_3)), (1, (.pointer s1_3)), (3, (Sl.val marks3_3)), (6, (.pointer (some tag6_3))), (8, (.int .i64 i8_3)), (9, (.pointer (some m9_3))), (38, (.bool t38_3))] (ref16_Locks_Enter.s3 Q X1 l0_3 s1_3 marks3_3 tag6_3 i8_3 m9_3 t38_3)) := by intros; exact ⟨fun _ ⟨_, _, _, _, _, _, h⟩ => ⟨_, _, h⟩⟩
  have hD5 : DH 5 2 [16] (.s [0, 1, 2, 4, 3, 5, 6] (.a [(7, 1, .s [8] (.i (.s [9, 10, 11, 12, 13, 14, 15, 16, 17] .e) (.s [9, 10, 11, 13, 12, 14, 15] (.a [(16, 0, .s [17] .e)]))))])) := by intros; exact ⟨⟩
  have hL2 : ∀ (l0_1 : (Option Addr)) (s1_1 : (Option Addr)) (marks3_1 : Sl) (tag6_1 : Addr), LH 2 (fun x : Int => [(0, (.pointer l0_1)), (1, (.pointer s1_1)), (3, (Sl.val marks3_1)), (6, (.pointer (some tag6_1))), (8, (.int .i64 x))]) (fun X x => ref16_Locks_Enter.b1 Q X l0_1 s1_1 marks3_1 tag6_1 x) := by intros; exact ⟨⟩
  exact g_walk 80 h Tryz.func32
def ref16_without.s2 (Q : Sl → K) (X1 : Sl → Int → K) (list0_2 : Sl) (tag3_2 : Addr) (out5_2 : Sl) (i6_2 : Int) : K :=
  Ar (IntKind.wrap .i64 (i6_2 + 1)) fun t13 =>
  X1 out5_2 t13
def ref16_without.b1 (Q : Sl → K)  (X1 : Sl → Int → K) (list0_1 : Sl) (tag3_1 : Addr) (out5_1 : Sl) (i6_1 : Int) : K :=
  Ite (decide (i6_1 < (list0_1.n : Int)))
    (Dr <|
    Idx list0_1 i6_1 7 fun t16 =>
    LdN t16 4 fun t18 =>
    LdN tag3_1 4 fun t19 =>
    Pu Tryz.prog (do eqGuard .neq 42 (.tmp 18) (.tmp 19) (.agg t18) (.agg t19); binOp .neq 42 (.agg t18) (.agg t19) : Sem Value) Value.bool fun t20 =>
    Ite t20
      (Idx list0_1 i6_1 7 fun t24 =>
      LdN t24 7 fun t25 =>
      Bld #[(.int .i64 0), (.int .u64 0), (.int .u64 0), (.int .i64 0), (.string ⟨#[]⟩), (.int .i64 0), (.int .u64 0)] (fun i => some (i * 7, 7)) [(0, (.agg t25))] fun ct26 =>
      New 91 ct26 fun t26 =>
      Do Tryz.prog (Builtin.append_ #[34, 34] 34 #[(Sl.val out5_1), (Sl.val (Sl.mk (some t26) 1 1))]) Sl.val fun t27 =>
      ref16_without.s2 Q X1 list0_1 tag3_1 t27 i6_1)
      (ref16_without.s2 Q X1 list0_1 tag3_1 out5_1 i6_1))
    (Q out5_1)
def ref16_without (list0 : Sl) (tag1 : (Array Value)) (Q : Sl → K) : K :=
  New 42 tag1 fun tag3 =>
  New 91 #[] fun t7 =>
  LoopK (α := Sl × Int) (fun X x => ref16_without.b1 Q (fun out5_1 i6_1 => X (out5_1, i6_1)) list0 tag3 x.1 x.2) ((Sl.mk (some t7) 0 0), 0)
theorem ref16_without_ok (list0 : Sl) (tag1 : (Array Value)) (Q : Sl → K) (w : World) (h : ref16_without list0 tag1 Q w) : ref16_without.call list0 tag1 Q w := by
  have hJ4 : ∀ (X1 : (Sl × Int) → K), XH 3 X1 → JH 4 fun D => ∃ (list0_2 : Sl) (tag3_2 : Addr) (i6_2 : Int), D [(0, (Sl.val list0_2)), (3, (.pointer (some tag3_2))), (6, (.int .i64 i6_2))] (fun C => ∀ (out5_2 : Sl), C [(0, (Sl.val list0_2)), (3, (.pointer (some tag3_2))), (5, (Sl.val out5_2)), (6, (.int .i64 i6_2))] (ref16_without.s2 Q (fun out5_1 i6_1 => X1 (out5_1, i6_1)) list0_2 tag3_2 out5_2 i6_2)) := by intros; exact ⟨fun _ ⟨_, _, _, h⟩ => ⟨_, _, h⟩⟩
  have hL3 : ∀ (list0_1 : Sl) (tag3_1 : Addr), LH 3 (fun x : Sl × Int => [(0, (Sl.val list0_1)), (3, (.pointer (some tag3_1))), (5, (Sl.val x.1)), (6, (.int .i64 x.2))]) (fun X x => ref16_without.b1 Q (fun out5_1 i6_1 => X (out5_1, i6_1)) list0_1 tag3_1 x.1 x.2) := by intros; exact ⟨⟩
  exact g_walk 29 h Tryz.func48
def ref16_Locks_doom (l0 : (Option Addr)) (tag1 : (Array Value)) (Q : K) : K :=
  New 42 tag1 fun tag3 =>
  Dr <|
  Nn l0 fun t5 =>
  Ld (t5.add 2) Sl.val fun t7 =>
  LdN tag3 4 fun t8 =>
  ref16_In.call t7 t8 fun t9 =>
  Ite (!t9)
    (Dr <| WithS fun S =>
    LdS S (t5.add 2) Sl.val fun t16 =>
    LdNS S tag3 4 fun t18 =>
    All [
      (New 42 #[] fun t12 =>
      Sv S <|
      All [
        (Do Tryz.prog (Builtin.append_ #[35, 35] 35 #[(Sl.val (Sl.mk (some t12) 0 0)), (Sl.val t16)]) Sl.val fun t17 =>
        Sv S <|
        Bld #[(.int .i64 0), (.int .u64 0), (.int .u64 0), (.int .i64 0)] (fun i => some (i * 4, 4)) [(0, (.agg t18))] fun ct19 =>
        New 42 ct19 fun t19 =>
        Sv S <|
        Do Tryz.prog (Builtin.append_ #[35, 35] 35 #[(Sl.val t17), (Sl.val (Sl.mk (some t19) 1 1))]) Sl.val fun t20 =>
        St (t5.add 2) (Sl.val t20) <|
        Q),
        (Bld #[(.int .i64 0), (.int .u64 0), (.int .u64 0), (.int .i64 0)] (fun i => some (i * 4, 4)) [(0, (.agg t18))] fun ct19 =>
        New 42 ct19 fun t19 =>
        Sv S <|
        Do Tryz.prog (Builtin.append_ #[35, 35] 35 #[(Sl.val (Sl.mk (some t12) 0 0)), (Sl.val t16)]) Sl.val fun t17 =>
        Sv S <|
        Do Tryz.prog (Builtin.append_ #[35, 35] 35 #[(Sl.val t17), (Sl.val (Sl.mk (some t19) 1 1))]) Sl.val fun t20 =>
        St (t5.add 2) (Sl.val t20) <|
        Q)
        ]),
      (Bld #[(.int .i64 0), (.int .u64 0), (.int .u64 0), (.int .i64 0)] (fun i => some (i * 4, 4)) [(0, (.agg t18))] fun ct19 =>
      New 42 ct19 fun t19 =>
      Sv S <|
      New 42 #[] fun t12 =>
      Sv S <|
      Do Tryz.prog (Builtin.append_ #[35, 35] 35 #[(Sl.val (Sl.mk (some t12) 0 0)), (Sl.val t16)]) Sl.val fun t17 =>
      Sv S <|
      Do Tryz.prog (Builtin.append_ #[35, 35] 35 #[(Sl.val t17), (Sl.val (Sl.mk (some t19) 1 1))]) Sl.val fun t20 =>
      St (t5.add 2) (Sl.val t20) <|
      Q)
      ])
    (Q)
theorem ref16_Locks_doom_ok (l0 : (Option Addr)) (tag1 : (Array Value)) (Q : K) (w : World) (h : ref16_Locks_doom l0 tag1 Q w) : ref16_Locks_doom.call l0 tag1 Q w := by
  have hD2 : DH 2 2 [9, 12] (.s [0, 2, 3, 4, 5, 7] (.a [(1, 1, .a [(6, 1, .a [(8, 1, .a [(9, 0, .s [10, 11] (.a [(12, 0, .e)]))])]), (8, 1, .a [(6, 1, .a [(9, 0, .s [10, 11] (.a [(12, 0, .e)]))])])]), (8, 1, .a [(1, 1, .a [(6, 1, .a [(9, 0, .s [10, 11] (.a [(12, 0, .e)]))])])])])) := by intros; exact ⟨⟩
  have hD1 : DH 1 1 [5] (.s [0, 1, 2, 3, 4] (.a [(5, 0, .s [6] .e)])) := by intros; exact ⟨⟩
  exact g_walk 23 h Tryz.func54
def ref16_has.s2 (Q : Bool → K) (X1 : Int → K) (list0_2 : Sl) (key1_2 : ByteArray) (tag5_2 : Addr) (i7_2 : Int) (t30_2 : Bool) : K :=
  Ite t30_2
    (Q true)
    (Ar (IntKind.wrap .i64 (i7_2 + 1)) fun t13 =>
    X1 t13)
def ref16_has.b1 (Q : Bool → K)  (X1 : Int → K) (list0_1 : Sl) (key1_1 : ByteArray) (tag5_1 : Addr) (i7_1 : Int) : K :=
  Ite (decide (i7_1 < (list0_1.n : Int)))
    (Dr <|
    Idx list0_1 i7_1 7 fun t16 =>
    Ld (t16.add 4) Value.string fun t19 =>
    Ite (t19.toList == key1_1.toList)
      (Idx list0_1 i7_1 7 fun t25 =>
      LdN t25 4 fun t27 =>
      LdN tag5_1 4 fun t28 =>
      Pu Tryz.prog (do eqGuard .eql 42 (.tmp 27) (.tmp 28) (.agg t27) (.agg t28); binOp .eql 42 (.agg t27) (.agg t28) : Sem Value) Value.bool fun t29 =>
      ref16_has.s2 Q X1 list0_1 key1_1 tag5_1 i7_1 t29)
      (ref16_has.s2 Q X1 list0_1 key1_1 tag5_1 i7_1 false))
    (Q false)
def ref16_has (list0 : Sl) (key1 : ByteArray) (tag2 : (Array Value)) (Q : Bool → K) : K :=
  New 42 tag2 fun tag5 =>
  LoopK (α := Int) (fun X x => ref16_has.b1 Q X list0 key1 tag5 x) 0
theorem ref16_has_ok (list0 : Sl) (key1 : ByteArray) (tag2 : (Array Value)) (Q : Bool → K) (w : World) (h : ref16_has list0 key1 tag2 Q w) : ref16_has.call list0 key1 tag2 Q w := by
  have hJ5 : ∀ (X1 : Int → K), XH 2 X1 → JH 5 fun D => ∃ (list0_2 : Sl) (key1_2 : ByteArray) (tag5_2 : Addr) (i7_2 : Int), D [(0, (Sl.val list0_2)), (1, (.string key1_2)), (5, (.pointer (some tag5_2))), (7, (.int .i64 i7_2))] (fun C => ∀ (t30_2 : Bool), C [(0, (Sl.val list0_2)), (1, (.string key1_2)), (5, (.pointer (some tag5_2))), (7, (.int .i64 i7_2)), (30, (.bool t30_2))] (ref16_has.s2 Q X1 list0_2 key1_2 tag5_2 i7_2 t30_2)) := by intros; exact ⟨fun _ ⟨_, _, _, _, h⟩ => ⟨_, _, h⟩⟩
  have hL2 : ∀ (list0_1 : Sl) (key1_1 : ByteArray) (tag5_1 : Addr), LH 2 (fun x : Int => [(0, (Sl.val list0_1)), (1, (.string key1_1)), (5, (.pointer (some tag5_1))), (7, (.int .i64 x))]) (fun X x => ref16_has.b1 Q X list0_1 key1_1 tag5_1 x) := by intros; exact ⟨⟩
  exact g_walk 31 h Tryz.func55
end Go.Proofs.YtihncgfghpbhdaaGreat
/- The walk of functions that add to what stands in a map. Holds for every program. -/
namespace Go.Sep
open Go
set_option linter.unusedVariables false
section
variable {P : Program} {σ : List (Nat × Value)} {o : Oper} {w w' : World} {v : Value} {x y z : Operand} {T : TypeId}
theorem e_mapEntry' {vx vy : Value} (ho : o.op = .mapEntry T x y) (hx : ev σ x = some vx) (hy : ev σ y = some vy) : ∀ v w w', (Instr.mapEntry T vx vy).run P w = .ok v w' → Eff P σ o w (.value v) w' := fun v w w' hr _ _ hs => by
  simp [execOp, ho, hs.ev hx, hs.ev hy, hr]
theorem e_entryStore' {vx vy vz : Value} (ho : o.op = .entryStore T x y z) (hx : ev σ x = some vx) (hy : ev σ y = some vy) (hz : ev σ z = some vz) : ∀ u w w', (Instr.entryStore T vx vy vz).run P w = .ok u w' → Eff P σ o w .skip w' := fun u w w' hr _ _ hs => by
  simp [execOp, ho, hs.ev hx, hs.ev hy, hs.ev hz, hr]
theorem we_do2 {α β : Type} {sem : Sem Value} {c : α → β → Value} {kx : α → β → K} (hs : ∀ v w w', sem.run P w = .ok v w' → Eff P σ o w (.value v) w') : WE P σ o (Do2 P sem c kx) (fun u => u) (fun u => Ans2 c kx u) := fun w ⟨t, u, w', hd, h⟩ => ⟨c t u, w', hs _ _ _ hd, t, u, rfl, h⟩
end
section
variable {P : Program} {dl : List Deferred} {n : Nat} {σ : List (Nat × Value)} {k : K} {ops : Array Oper} {Q : Exit → Act → World → Prop} {o : Oper} {S : World → Prop} {ds done : List Nat} {i d : Nat} {t : Scr}
theorem ox_e2 {kk kS : Value → K} (h : ∀ u, G dl n ((d, u) :: σ) (Al S (kS u)) (Dx P ops Q S ds (i :: done) t)) (hi : ops[i]? = some o := by rfl) (hd : o.dst = some d := by rfl) (hw : wants ops σ o = some true := by rfl) (hp : WE P σ o k (fun u => u) kk)
    (hS : SvA S kk kS) (hn : Nat.ble (d + 1) n = true := by rfl) (nd : isDef o.op = false := by rfl) : G dl n σ (Al S k) (Ox P ops Q S ds done i 1 t) := fun a w hs ⟨_, hk⟩ => by
  obtain ⟨x, w', hp, h'⟩ := hp w hk
  refine ox_run hs hi hw fun hQ => (op_value (r := none) hs nd hp ⟨fun _ _ _ => (hS x w' h').1, ?_⟩)
  rw [hd, dn_len (m := 0)]; exact h x _ w' (hs.put (Nat.le_of_ble_eq_true hn) _) (hS x w' h') hQ
end
set_option maxRecDepth 100000 in
theorem g_walk5 {P : Program} {f : FuncId} {fn : Func} {c : Code} {args : List Value} {kk : Value → K} {k : K} (n : Nat) {w : World} (hk : k w) (hf : P.funcs[f]? = some fn) (hb : fn.body = some c := by rfl) (hn : fn.ntmps = n := by rfl) (hl : Nat.ble args.length n = true := by rfl)
    (h : G [] n (numb 0 args) k (Cx none P c (bodyPostT P fn (Ret kk))) := by
      repeat' first
      | intro _
      | (refine is_tx ?_; first
          | refine tx_nil ?_
          | (refine is_gd ?_ rfl; first | refine tx_no ?_ | refine tx_no' ?_)
          | (refine is_t 0 ?_ rfl; refine tx_p (hp := by exact au_p0) ?_)
          | (refine is_t 2 ?_ rfl; first | refine tx_p (hp := by exact au_p2) ?_ | (refine gx_nn ?_; intro b hb; subst hb) | (refine gx_fv ?_; intro g fs cs hf cb; subst hf))
          | (refine is_t 3 ?_ rfl; refine tx_p (hp := by exact au_p3) ?_)
          | (refine is_t 13 ?_ rfl; refine tx_wr (hp := by exact au_wr13) ?_)
          | (refine is_t 19 ?_ rfl; first | (refine tx_wc (hp := by exact au_wc19) ?_; intro u; first | refine an_1 ?_ | refine an_0 ?_ | refine an_2 ?_ | refine an_3 ?_ | refine an_4 ?_ | refine an_5 ?_) | refine tx_wr (hp := by exact wr_rd (e_ext' rfl rfl rfl)) ?_ | (refine tx_wcn (hp := by exact au_wc19) ?_; intro u; first | refine am_0 ?_ | refine am_1 ?_ | refine am_2 ?_ | skip) | (refine tx_wy ?_; intro u; first | refine an_1 ?_ | refine an_0 ?_ | refine an_2 ?_ | refine an_3 ?_ | refine an_4 ?_ | refine an_5 ?_))
          | (refine is_t 10 ?_ rfl; first | refine tx_p (hp := by exact au_p10) ?_ | refine tx_wp (hp := by exact au_wp10) ?_)
          | (refine is_t 8 ?_ rfl; refine tx_wp (hp := by exact au_wp8) ?_)
          | (refine is_t 20 ?_ rfl; first | refine tx_p (hp := by exact au_p20) ?_ | refine tx_wr (hp := by exact au_wr20) ?_)
          | (refine is_t 27 ?_ rfl; refine tx_wp (hp := by exact au_wp27) ?_)
          | (refine is_t 4 ?_ rfl; first | refine tx_p (hp := by exact au_p4) ?_ | refine tx_wp (hp := by exact au_wp4) ?_)
          | (refine is_t 17 ?_ rfl; refine tx_wk (hp := by exact au_wk17) ?_)
          | (refine is_t 1 ?_ rfl; refine tx_p (hp := by exact au_p1) ?_)
          | (refine is_t 6 ?_ rfl; refine tx_p (hp := by exact au_p6) ?_)
          | (refine is_t 15 ?_ rfl; refine tx_we (hp := by exact au_we15) ?_)
          | (refine is_t 16 ?_ rfl; refine tx_we (hp := by exact au_we16) ?_)
          | (refine is_t 22 ?_ rfl; first | refine tx_we (hp := by exact au_we22) ?_ | refine tx_wen (hp := by exact au_we22) ?_)
          | (refine is_t 28 ?_ rfl; refine tx_wp (hp := by exact au_wp28) ?_)
          | (refine is_t 11 ?_ rfl; first | refine tx_wp (hp := by exact au_wp11) ?_ | refine tx_p (hp := by exact au_p11) ?_ | refine tx_wr (hp := by exact au_wr11) ?_ | refine tx_we (hp := by exact au_we11) ?_)
          | (refine is_t 26 ?_ rfl; first | refine tx_wp (hp := by exact au_wp26) ?_ | refine tx_p (hp := by exact au_p26) ?_)
          | (refine is_t 12 ?_ rfl; first | refine tx_wp (hp := by exact au_wp12) ?_ | refine tx_p (hp := by exact au_p12) ?_)
          | (refine is_t 5 ?_ rfl; refine tx_p (hp := by exact au_p5) ?_)
          | (refine is_t 7 ?_ rfl; refine tx_wp (hp := by exact au_wp7) ?_)
          | (refine is_t 9 ?_ rfl; refine tx_wp (hp := by exact au_wp9) ?_)
          | (refine is_t 14 ?_ rfl; first | refine tx_wr (hp := by exact wr_rd (e_lookup' rfl rfl rfl)) ?_ | (refine tx_wr (hp := by exact wr_rd2 (e_lookup' rfl rfl rfl)) ?_; intro u; refine an_2 ?_))
          | (refine is_t 18 ?_ rfl; refine tx_wk (hp := by exact au_wk18) ?_)
          | (refine is_t 99 ?_ rfl; refine tx_we (hp := by exact we_do2 (e_mapEntry' rfl rfl rfl)) ?_; intro u; refine an_2 ?_)
          | (refine is_t 99 ?_ rfl; refine tx_wk (hp := by exact wk_do (e_entryStore' rfl rfl rfl rfl)) ?_)
          | (refine is_t 21 ?_ rfl; refine tx_wp (hp := by exact au_wp21) ?_)
          | (refine is_t 23 ?_ rfl; refine tx_we (hp := by exact au_we23) ?_)
          | (refine is_t 24 ?_ rfl; refine tx_we (hp := by exact au_we24) ?_)
          | (refine is_t 25 ?_ rfl; refine tx_wr (hp := by exact au_wr25) ?_)
          | (refine tx_ite ?_ ?_ <;> (intro hb; refine gx_fold ?_; intro a w hs; try rw [hb] at hs; clear hb; revert hs; revert w; revert a; refine gx_unf ?_)))
      | (refine is_cx ?_; first
          | refine cx_reg ?_
          | (refine is_seq ?_; first | (refine cx_join ?_; (repeat apply ex_i); refine And.intro sub_auto (And.intro ?_ ?_)) | refine cx_seq ?_)
          | refine cx_cond_i ?_ ?_ rfl
          | refine cx_skip ?_
          | refine cx_ret ?_
          | refine cx_block ?_
          | refine cx_exit ?_
          | refine cx_loop ?_
          | (refine is_cond ?_; first | refine cx_cond_t ?_ | refine cx_cond_f ?_)
          | (refine is_draw ?_; first | refine cx_draw1 ?_ | refine cx_draw0 ?_ | refine cx_draw2 ?_ | refine cx_still ?_)
          | refine cx_label ?_
          | refine cx_rangeF ?_ ?_
          | refine cx_rangeJ ?_ ?_ ?_
          | refine al_drop ?_)
      | (refine is_ex ?_; first
          | refine ex_then ?_
          | refine ex_then_r ?_
          | refine ex_then_x ?_
          | refine ex_blk ?_
          | refine ex_blk_r ?_
          | refine ex_blk_x ?_
          | refine ex_blk_y ?_
          | refine ex_retM ?_
          | refine ex_ret ?_
          | refine ex_end ?_
          | exact rq_n
          | exact rq_r
          | exact rq_x
          | refine al_drop ?_)
      | exact gx_dead
      | refine gp_in ?_
      | (refine is_rx ?_; first
          | refine rx_tmp ?_
          | refine rx_nil ?_
          | refine rx_cell ?_
          | refine rx_cellN ?_)
      | (refine is_fx ?_; first
          | exact fx_1
          | exact fx_0
          | exact fx_2
          | exact fx_3
          | exact fx_4
          | exact fx_5)
      | (refine is_dx ?_; first
          | refine dx_end ?_
          | refine dx_nil ?_
          | refine dx_a ?_
          | (refine dx_iteA ?_ ?_ <;> (intro hb; refine gx_fold ?_; intro a w hs; try rw [hb] at hs; clear hb; revert hs; revert w; revert a; refine gx_unf ?_))
          | (refine dx_ite ?_ ?_ <;> (intro hb; refine gx_fold ?_; intro a w hs; try rw [hb] at hs; clear hb; revert hs; revert w; revert a; refine gx_unf ?_))
          | (refine is_gdx ?_ rfl; first | refine dx_no ?_ | refine dx_no' ?_)
          | (refine is_d 0 ?_ rfl; refine dx_p (hp := by exact au_p0) ?_)
          | (refine is_d 2 ?_ rfl; first | refine dx_p (hp := by exact au_p2) ?_ | (refine al_nn ?_; intro b hb; subst hb) | (refine gx_nn ?_; intro b hb; subst hb) | (refine al_fv ?_; intro g fs cs hf cb; subst hf) | (refine gx_fv ?_; intro g fs cs hf cb; subst hf))
          | (refine is_d 3 ?_ rfl; refine dx_p (hp := by exact au_p3) ?_)
          | (refine is_d 13 ?_ rfl; first | refine dx_is (hp := by exact au_wr13) ?_ | refine dx_S (hp := by exact au_ws13) ?_)
          | (refine is_d 10 ?_ rfl; first | refine dx_p (hp := by exact au_p10) ?_ | refine dx_wpA (hp := by exact au_wp10) ?_ | refine dx_wp (hp := by exact au_wp10) ?_)
          | (refine is_d 8 ?_ rfl; first | refine dx_wpA (hp := by exact au_wp8) ?_ | refine dx_wp (hp := by exact au_wp8) ?_)
          | (refine is_d 20 ?_ rfl; first | refine dx_p (hp := by exact au_p20) ?_ | refine dx_is (hp := by exact au_wr20) ?_ | refine dx_S (hp := by exact au_ws20) ?_)
          | (refine is_d 27 ?_ rfl; first | refine dx_wpA (hp := by exact au_wp27) ?_ | refine dx_wp (hp := by exact au_wp27) ?_)
          | (refine is_d 4 ?_ rfl; first | refine dx_p (hp := by exact au_p4) ?_ | refine dx_wpA (hp := by exact au_wp4) ?_ | refine dx_wp (hp := by exact au_wp4) ?_)
          | (refine is_d 1 ?_ rfl; refine dx_p (hp := by exact au_p1) ?_)
          | (refine is_d 6 ?_ rfl; refine dx_p (hp := by exact au_p6) ?_)
          | (refine is_d 28 ?_ rfl; first | refine dx_wpA (hp := by exact au_wp28) ?_ | refine dx_wp (hp := by exact au_wp28) ?_)
          | (refine is_d 11 ?_ rfl; first | refine dx_wpA (hp := by exact au_wp11) ?_ | refine dx_wp (hp := by exact au_wp11) ?_ | refine dx_p (hp := by exact au_p11) ?_ | refine dx_is (hp := by exact au_wr11) ?_ | refine dx_S (hp := by exact au_ws11) ?_)
          | (refine is_d 26 ?_ rfl; first | refine dx_wpA (hp := by exact au_wp26) ?_ | refine dx_wp (hp := by exact au_wp26) ?_ | refine dx_p (hp := by exact au_p26) ?_)
          | (refine is_d 12 ?_ rfl; first | refine dx_wpA (hp := by exact au_wp12) ?_ | refine dx_wp (hp := by exact au_wp12) ?_ | refine dx_p (hp := by exact au_p12) ?_)
          | (refine is_d 5 ?_ rfl; refine dx_p (hp := by exact au_p5) ?_)
          | (refine is_d 7 ?_ rfl; first | refine dx_wpA (hp := by exact au_wp7) ?_ | refine dx_wp (hp := by exact au_wp7) ?_)
          | (refine is_d 9 ?_ rfl; first | refine dx_wpA (hp := by exact au_wp9) ?_ | refine dx_wp (hp := by exact au_wp9) ?_)
          | (refine is_d 14 ?_ rfl; first | refine dx_is (hp := by exact wr_rd (e_lookup' rfl rfl rfl)) ?_ | (refine dx_is (hp := by exact wr_rd2 (e_lookup' rfl rfl rfl)) ?_; intro u; refine al_an2 ?_) | refine dx_S (hp := by exact ws_rd (e_lookup' rfl rfl rfl)) ?_ | (refine dx_S (hp := by exact ws_rd2 (e_lookup' rfl rfl rfl)) ?_; intro u; refine al_an2 ?_))
          | (refine is_d 21 ?_ rfl; first | refine dx_wpA (hp := by exact au_wp21) ?_ | refine dx_wp (hp := by exact au_wp21) ?_)
          | (refine is_d 25 ?_ rfl; first | refine dx_is (hp := by exact au_wr25) ?_ | refine dx_S (hp := by exact au_ws25) ?_)
          | refine al_drop ?_)
      | (refine is_ox ?_; first
          | (refine is_o 13 ?_ rfl; first | refine ox_r2A (hp := by exact au_wr13) ?_ | refine ox_r2 (hp := by exact au_wr13) ?_)
          | (refine is_o 19 ?_ rfl; first | (refine ox_c1 (hp := by exact au_wc19) ?_; intro u; first | refine al_an1 ?_ | refine al_an0 ?_ | refine al_an2 ?_) | (refine ox_c (hp := by exact au_wc19) ?_; intro u; first | refine an_1 ?_ | refine an_0 ?_ | refine an_2 ?_ | refine an_3 ?_ | refine an_4 ?_ | refine an_5 ?_) | (refine ox_cn (hp := by exact au_wc19) ?_; intro u; first | refine am_0 ?_ | refine am_1 ?_ | refine am_2 ?_ | skip) | (refine ox_y ?_; intro u; first | refine an_1 ?_ | refine an_0 ?_ | refine an_2 ?_ | refine an_3 ?_ | refine an_4 ?_ | refine an_5 ?_))
          | (refine is_o 20 ?_ rfl; first | refine ox_r2A (hp := by exact au_wr20) ?_ | refine ox_r2 (hp := by exact au_wr20) ?_)
          | (refine is_o 17 ?_ rfl; first | refine ox_k1 (hp := by exact au_wk17) ?_ | refine ox_k (hp := by exact au_wk17) ?_)
          | (refine is_o 15 ?_ rfl; first | refine ox_e1 (hp := by exact au_we15) ?_ | refine ox_e (hp := by exact au_we15) ?_)
          | (refine is_o 16 ?_ rfl; first | refine ox_e1 (hp := by exact au_we16) ?_ | refine ox_e (hp := by exact au_we16) ?_)
          | (refine is_o 22 ?_ rfl; first | refine ox_e1 (hp := by exact au_we22) ?_ | refine ox_e (hp := by exact au_we22) ?_ | refine ox_en1 (hp := by exact au_we22) ?_ | refine ox_en (hp := by exact au_we22) ?_)
          | (refine is_o 11 ?_ rfl; first | refine ox_e1 (hp := by exact au_we11) ?_ | refine ox_e (hp := by exact au_we11) ?_ | refine ox_r2A (hp := by exact au_wr11) ?_ | refine ox_r2 (hp := by exact au_wr11) ?_)
          | (refine is_o 14 ?_ rfl; first | refine ox_r2A (hp := by exact wr_rd (e_lookup' rfl rfl rfl)) ?_ | (refine ox_r2A (hp := by exact wr_rd2 (e_lookup' rfl rfl rfl)) ?_; intro u; refine al_an2 ?_) | refine ox_r2 (hp := by exact wr_rd (e_lookup' rfl rfl rfl)) ?_ | (refine ox_r2 (hp := by exact wr_rd2 (e_lookup' rfl rfl rfl)) ?_; intro u; refine an_2 ?_))
          | (refine is_o 18 ?_ rfl; first | refine ox_k1 (hp := by exact au_wk18) ?_ | refine ox_k (hp := by exact au_wk18) ?_)
          | (refine is_o 99 ?_ rfl; first | (refine ox_e2 (hp := by exact we_do2 (e_mapEntry' rfl rfl rfl)) (hS := sva_2) ?_; intro u; refine al_an2 ?_) | (refine ox_e (hp := by exact we_do2 (e_mapEntry' rfl rfl rfl)) ?_; intro u; refine an_2 ?_) | refine ox_k1 (hp := by exact wk_do (e_entryStore' rfl rfl rfl rfl)) ?_ | refine ox_k (hp := by exact wk_do (e_entryStore' rfl rfl rfl rfl)) ?_)
          | (refine is_o 23 ?_ rfl; first | refine ox_e1 (hp := by exact au_we23) ?_ | refine ox_e (hp := by exact au_we23) ?_)
          | (refine is_o 24 ?_ rfl; first | refine ox_e1 (hp := by exact au_we24) ?_ | refine ox_e (hp := by exact au_we24) ?_)
          | (refine is_o 25 ?_ rfl; first | refine ox_r2A (hp := by exact au_wr25) ?_ | refine ox_r2 (hp := by exact au_wr25) ?_)
          | refine al_drop ?_)
      | refine ax_allA ?_ ?_
      | refine ax_all ?_ ?_
      | exact ax_nil
      | refine ax_one ?_
      | (refine is_lx ?_; exact lx_end)
      | (refine is_sx ?_; first
          | refine sx_nil ?_
          | (refine is_gs ?_ rfl; refine sx_no ?_)
          | (refine is_s 0 ?_ rfl; refine sx_p (hp := by exact au_p0) ?_)
          | (refine is_s 2 ?_ rfl; first | refine sx_p (hp := by exact au_p2) ?_ | (refine gx_nn ?_; intro b hb; subst hb) | (refine gx_fv ?_; intro g fs cs hf cb; subst hf))
          | (refine is_s 3 ?_ rfl; refine sx_p (hp := by exact au_p3) ?_)
          | (refine is_s 13 ?_ rfl; refine sx_wr (hp := by exact au_wr13) ?_)
          | (refine is_s 10 ?_ rfl; first | refine sx_p (hp := by exact au_p10) ?_ | refine sx_wp (hp := by exact au_wp10) ?_)
          | (refine is_s 8 ?_ rfl; refine sx_wp (hp := by exact au_wp8) ?_)
          | (refine is_s 20 ?_ rfl; first | refine sx_p (hp := by exact au_p20) ?_ | refine sx_wr (hp := by exact au_wr20) ?_)
          | (refine is_s 27 ?_ rfl; refine sx_wp (hp := by exact au_wp27) ?_)
          | (refine is_s 4 ?_ rfl; first | refine sx_p (hp := by exact au_p4) ?_ | refine sx_wp (hp := by exact au_wp4) ?_)
          | (refine is_s 1 ?_ rfl; refine sx_p (hp := by exact au_p1) ?_)
          | (refine is_s 6 ?_ rfl; refine sx_p (hp := by exact au_p6) ?_)
          | (refine is_s 28 ?_ rfl; refine sx_wp (hp := by exact au_wp28) ?_)
          | (refine is_s 11 ?_ rfl; first | refine sx_wp (hp := by exact au_wp11) ?_ | refine sx_p (hp := by exact au_p11) ?_ | refine sx_wr (hp := by exact au_wr11) ?_)
          | (refine is_s 26 ?_ rfl; first | refine sx_wp (hp := by exact au_wp26) ?_ | refine sx_p (hp := by exact au_p26) ?_)
          | (refine is_s 12 ?_ rfl; first | refine sx_wp (hp := by exact au_wp12) ?_ | refine sx_p (hp := by exact au_p12) ?_)
          | (refine is_s 5 ?_ rfl; refine sx_p (hp := by exact au_p5) ?_)
          | (refine is_s 7 ?_ rfl; refine sx_wp (hp := by exact au_wp7) ?_)
          | (refine is_s 9 ?_ rfl; refine sx_wp (hp := by exact au_wp9) ?_)
          | (refine is_s 14 ?_ rfl; first | refine sx_wr (hp := by exact wr_rd (e_lookup' rfl rfl rfl)) ?_ | (refine sx_wr (hp := by exact wr_rd2 (e_lookup' rfl rfl rfl)) ?_; intro u; refine an_2 ?_))
          | (refine is_s 21 ?_ rfl; refine sx_wp (hp := by exact au_wp21) ?_)
          | (refine is_s 25 ?_ rfl; refine sx_wr (hp := by exact au_wr25) ?_)
          | (refine sx_ite ?_ ?_ <;> (intro hb; refine gx_fold ?_; intro a w hs; try rw [hb] at hs; clear hb; revert hs; revert w; revert a; refine gx_unf ?_)))
      | refine bx_b ?_
      | refine bj_b ?_
      | exact gx_jump
      | refine al_drop ?_) :
    CallF P f args.toArray kk w := g_start n hk hf h hb hn hl
end Go.Sep
/- Adding to what stands in a map. -/
namespace Go.Sep
open Go Go.RowKit Go.MapKept
set_option linter.unusedSimpArgs false
set_option linter.unusedVariables false
set_option linter.unusedSectionVars false
/-- Keys that are found. -/
structure Fnd {α : Type} [DecidableEq α] (P : Program) (kt : TypeId) (enc : α → Value) : Prop where
  chk : ∀ a w, (Instr.checkKey false 10000 kt (enc a)).run P w = .ok () w
  bits : ∀ a, Instr.sameBits 10000 (enc a) (enc a) = true
  find : ∀ (β : Type) (cV : β → Value) (es : Array MapEntry) (m : List (α × β)), mrel enc cV es m → ∀ a w, ((Instr.findKey kt (enc a) es.toList).run P w = .ok none w ∧ mget a m = none ∧ (∀ v, mset a v m = m ++ [(a, v)])) ∨
    ∃ j x, (Instr.findKey kt (enc a) es.toList).run P w = .ok (some (j, cV x)) w ∧ j < m.length ∧ m[j]? = some (a, x) ∧ mget a m = some x ∧ (∀ v, mset a v m = m.set j (a, v))
theorem fndS {α : Type} [DecidableEq α] {P : Program} {kt : TypeId} {cel : α → List Value} (h : KeyS P kt cel) : Fnd P kt (kyS cel) := ⟨fun a w => h.chk a false w, h.bits, fun β cV es m hr a w => by
  rcases run_findS h hr a w with ⟨g1, g2, g3, _⟩ | ⟨j, x, g1, g2, g3, g4, g5, _⟩
  · exact .inl ⟨g1, g2, g3⟩
  · exact .inr ⟨j, x, g1, g2, g3, g4, g5⟩⟩
theorem fndE {α : Type} [DecidableEq α] {P : Program} {kt : TypeId} {d : TypeDesc} {enc : α → Value} (hd : P.underlying kt = some d) (h : KeyE d enc) : Fnd P kt enc := ⟨fun a w => run_checkKey hd (h.key a) _ _, h.bits, fun β cV es m hr a w => by
  rcases mfound h hr a with ⟨g1, g2, g3, _⟩ | ⟨j, x, g1, g2, g3, g4, g5, _⟩
  · exact .inl ⟨run_findKey hd g1, g2, g3⟩
  · exact .inr ⟨j, x, run_findKey hd g1, g2, g3, g4, g5⟩⟩
theorem idx_born {p : MapEntry → Bool} : ∀ {l : List MapEntry} {j : Nat} {e : MapEntry}, l[j]? = some e → p e = true → (∀ i x, i < j → l[i]? = some x → p x = false) → l.findIdx? p = some j
  | [], _, _, h, _, _ => by simp at h
  | a :: l, 0, e, h, hp, _ => by
    simp at h; subst h
    simp [List.findIdx?_cons, hp]
  | a :: l, j + 1, e, h, hp, hn => by
    have h0 := hn 0 a (by omega) rfl
    rw [List.findIdx?_cons, h0]
    simp only [Bool.false_eq_true, if_false]
    rw [idx_born (j := j) (by simpa using h) hp fun i x hi hx => hn (i + 1) x (by omega) (by simpa using hx)]
    rfl
section
variable {α β : Type} [DecidableEq α] {P : Program} {B : World} {Γ Δ : List HProp} {kt : TypeId} {enc : α → Value} {cV : β → Value} {k : K}
/-- A map that has just been asked for an entry. -/
def EntR (enc : α → Value) (cV : β → Value) (b : Nat) (m : List (α × β)) (z : β) (a : α) (st : Int) : HProp := ex fun es : Array MapEntry => ex fun c : Nat => fun g =>
  (stamps es c ∧ ∃ m1 j e, mrel enc cV es m1 ∧ j < m1.length ∧ es[j]? = some e ∧ (e.born : Int) = st ∧ e.key = enc a ∧ (∀ v, m1.set j (a, v) = mset a v m) ∧ m1 = mset a ((mget a m).getD z) m) ∧ blk b (.map es c) g
instance (priority := high) own_ent {b : Nat} {m : List (α × β)} {z : β} {a : α} {st : Int} {Γ : List HProp} : Own b (EntR enc cV b m z a st :: Γ) (EntR enc cV b m z a st) Γ := ⟨.refl _⟩
/-- It's a map still. -/
theorem EntR.map {m : List (α × β)} {z : β} {a : α} {st : Int} {b : Nat} {w : World} (h : Holds B (EntR enc cV b m z a st :: Δ) w) : Holds B (MapR enc cV b (mset a ((mget a m).getD z) m) :: Δ) w := by
  obtain ⟨es, h1⟩ := Holds.ex.1 h
  obtain ⟨c, h1⟩ := Holds.ex.1 h1
  obtain ⟨hst, m1, j, e, hr, hj, he, hbn, hek, hm, h2⟩ := h1.fact fun g hg => hg.1
  subst h2
  exact MapR.shuts ⟨hr, hst⟩ (h1.imp fun g hg => hg.2)
theorem mset_same {v : β} : ∀ {m : List (α × β)} {a : α}, mget a m = some v → mset a v m = m
  | [], _, h => by simp [mget] at h
  | p :: m, a, h => by
    unfold mget at h
    unfold mset
    split at h
    · rename_i hp
      simp only [Option.some.injEq] at h
      rw [if_pos hp, hp, ← h]
    · rename_i hp
      rw [if_neg hp, mset_same h]
theorem mget_self (m : List (α × β)) (a : α) (v : β) : mget a (mset a v m) = some v := by rw [mget_mset, if_pos rfl]
theorem s_mapEnt {T E : TypeId} {b : Nat} {m : List (α × β)} {z : β} {a : α} {k : β → Int → K} (hF : Fnd P kt enc) (hz : zeroT P E (cV z)) (h : ∀ st, HG B (EntR enc cV b m z a st :: Δ) (k ((mget a m).getD z) st)) (hT : P.underlying T = some (.map kt E) := by kernel_rfl) [p : Own b Γ (MapR enc cV b m) Δ] :
    HG B Γ (Do2 P (Instr.mapEntry T (.map (some b)) (enc a)) (fun x y => .tuple #[cV x, .int .i64 y]) k) := fun w hw => by
  obtain ⟨es, c, ⟨hr, hst⟩, h1⟩ := MapR.opens (hw.perm p.perm)
  have hb := h1.block
  have hlen : es.size = m.length := by have := congrArg List.length hr; simpa using this
  have key : ∀ {es' c' v st w'}, (Instr.mapEntry T (.map (some b)) (enc a)).run P w = .ok (.tuple #[cV v, goInt st]) w' → v = (mget a m).getD z → (stamps es' c' ∧ ∃ m1 j e, mrel enc cV es' m1 ∧ j < m1.length ∧ es'[j]? = some e ∧ (e.born : Int) = st ∧ e.key = enc a ∧ (∀ v, m1.set j (a, v) = mset a v m) ∧ m1 = mset a ((mget a m).getD z) m) →
      Holds B (blk b (.map es' c') :: Δ) w' → Do2 P (Instr.mapEntry T (.map (some b)) (enc a)) (fun x y => .tuple #[cV x, .int .i64 y]) k w := fun {es' c' v st w'} h3 h4 h5 h6 => by
    subst h4
    exact ⟨_, st, w', h3, h st w' (Holds.ex.2 ⟨es', Holds.ex.2 ⟨c', h6.imp fun g hg => ⟨h5, hg⟩⟩⟩)⟩
  rcases hF.find β cV es m hr a w with ⟨g1, g2, h2⟩ | ⟨j, x, g1, hj, h0, g2, h2⟩
  · obtain ⟨e1, h3⟩ := h1.setMap (P := P) (es' := es.push { key := enc a, val := cV z, born := c }) (c' := c + 1)
    refine key (es' := es.push { key := enc a, val := cV z, born := c }) (c' := c + 1) (v := z) (st := (c : Int)) ?_ (by rw [g2]; rfl) ⟨stamps_push hst _ _, m ++ [(a, z)], m.length, ⟨enc a, cV z, c⟩, ?_, by simp, ?_, rfl, rfl, fun v => ?_, by rw [h2, g2]; rfl⟩ h3
    · unfold Instr.mapEntry
      simp only [Sem.run_bind, run_underlying hT, Result.andThen, MapKept.run_getObj_map hb, hF.chk, g1, zeroT_spec hz, e1, Sem.run_pure]
    · simp only [mrel, Array.toList_push, List.map_append, List.map_cons, List.map_nil]
      rw [show es.toList.map (fun e => (e.key, e.val)) = _ from hr]
    · rw [← hlen]; simp
    · rw [h2, List.set_append]; simp
  · have hes : ∃ e, es.toList[j]? = some e ∧ e.key = enc a := by
      have := mrel_at hr j
      rw [h0] at this
      cases he : es.toList[j]? with
      | none => rw [he] at this; simp at this
      | some e =>
        rw [he] at this
        simp only [Option.map_some, Option.some.injEq, Prod.mk.injEq] at this
        exact ⟨e, rfl, this.1⟩
    obtain ⟨e, he, hek⟩ := hes
    have he2 : es[j]? = some e := by rw [← he, Array.getElem?_toList]
    have hmod : (es.modify j fun e' => { e' with key := enc a }) = es := by
      apply Array.ext_getElem?
      intro i
      rw [Array.getElem?_modify]
      split
      · rename_i hij
        subst hij
        rw [he2]
        simp [← hek]
      · rfl
    obtain ⟨e1, h3⟩ := h1.setMap (P := P) (es' := es) (c' := c)
    refine key (es' := es) (c' := c) (v := x) (st := (e.born : Int)) ?_ (by rw [g2]; rfl) ⟨hst, m, j, e, hr, hj, he2, rfl, hek, fun v => (h2 v).symm, by rw [g2]; exact (mset_same g2).symm⟩ h3
    unfold Instr.mapEntry
    simp only [Sem.run_bind, run_underlying hT, Result.andThen, MapKept.run_getObj_map hb, hF.chk, g1, he2, Option.map_some, Option.getD_some, hek, Instr.keyThatStays, hF.bits, if_true, Sem.run_pure, hmod, e1]
theorem s_mapEntSt {T : TypeId} {b : Nat} {m : List (α × β)} {z : β} {a : α} {v : β} {x : Value} {st : Int} (hx : x = cV v) (h : HG B (MapR enc cV b (mset a v m) :: Δ) k) [p : Own b Γ (EntR enc cV b m z a st) Δ] :
    HG B Γ (DoU P (Instr.entryStore T (.map (some b)) (.int .i64 st) x) k) := fun w hw => by
  subst hx
  obtain ⟨es, h1⟩ := Holds.ex.1 (hw.perm p.perm)
  obtain ⟨c, h1⟩ := Holds.ex.1 h1
  obtain ⟨hst, m1, j, e, hr, hj, he, hbn, hek, hm, _⟩ := h1.fact fun g hg => hg.1
  have h1 := h1.imp fun g hg => hg.2
  have hb := h1.block
  have hidx : es.findIdx? (fun e' => ((e'.born : Nat) : Int) == st) = some j := by
    rw [show es.findIdx? (fun e' => ((e'.born : Nat) : Int) == st) = es.toList.findIdx? (fun e' => ((e'.born : Nat) : Int) == st) by cases es; simp]
    refine idx_born (e := e) (by rw [← he, Array.getElem?_toList]) (by simp [hbn]) fun i x hi hx => ?_
    simp only [beq_eq_false_iff_ne, ne_eq, ← hbn, Int.natCast_inj]
    intro hbe
    have hl : j < es.toList.length := by
      have := (Array.getElem?_eq_some_iff.1 he).1; simpa using this
    have h1 : (es.toList.map (·.born))[i]? = some e.born := by rw [List.getElem?_map, hx, ← hbe]; rfl
    have h2 : (es.toList.map (·.born))[j]? = some e.born := by rw [List.getElem?_map, Array.getElem?_toList, he]; rfl
    have := (List.getElem?_inj (by simp at hl ⊢; omega) hst.1).1 (h1.trans h2.symm)
    omega
  obtain ⟨e1, h3⟩ := h1.setMap (P := P) (es' := es.modify j fun e' => { e' with val := cV v }) (c' := c)
  refine ⟨(), _, ?_, h _ (MapR.shuts ⟨?_, ?_⟩ h3)⟩
  · unfold Instr.entryStore
    simp only [Sem.run_bind, MapKept.run_getObj_map hb, Result.andThen, asInt, asIntOf, Sem.run_pure, hidx, e1]
  · rw [← hm]
    simp only [mrel]
    apply List.ext_getElem?
    intro i
    have hi := mrel_at hr i
    simp only [List.getElem?_map, Array.getElem?_toList, Array.getElem?_modify] at hi ⊢
    by_cases hij : j = i
    · subst hij
      rw [List.getElem?_set_self hj, he]
      simp [hek]
    · rw [List.getElem?_set_ne hij, if_neg hij]
      exact hi
  · have : (es.modify j fun e' => { e' with val := cV v }) = es.modify j fun e' => { e' with key := enc a, val := cV v } := by
      apply Array.ext_getElem?
      intro i
      simp only [Array.getElem?_modify]
      split
      · rename_i hij
        subst hij
        rw [he]
        simp [← hek]
      · rfl
    rw [this]
    exact stamps_modify hst _ _ _
end
section
variable {P : Program} {B : World} {Γ Δ : List HProp} {k : K}
/-! ### what is read in any of some states -/
theorem s_wsP {k : (World → Prop) → K} (S : World → Prop) (h0 : ∀ w, Holds B Γ w → S w) (h : HG B Γ (k S)) : HG B Γ (WithS k) := fun w hw => ⟨S, h0 w hw, h w hw⟩
theorem s_svP {S : World → Prop} (h0 : ∀ w, Holds B Γ w → S w) (h : HG B Γ k) : HG B Γ (Sv S k) := fun w hw => ⟨h0 w hw, h w hw⟩
theorem s_ldNSP {S : World → Prop} {a : Addr} {n : Nat} {l : List Value} {k : Array Value → K} (h0 : ∀ w, S w → RdN w a l.toArray) (h : HG B Γ (k l.toArray)) (hn : l.length = n := by rfl) : HG B Γ (LdNS S a n k) := fun w hw => ⟨l.toArray, by simpa using hn, h0, h w hw⟩
theorem s_ldSP {S : World → Prop} {α : Type} {a : Addr} {c : α → Value} {x : α} {k : α → K} (h0 : ∀ w, S w → w.cell? a = some (c x)) (h : HG B Γ (k x)) : HG B Γ (LdS S a c k) := fun w hw => ⟨x, h0, h w hw⟩
theorem s_rdSP {S : World → Prop} {α : Type} {s : Sem Value} {c : α → Value} {x : α} {k : α → K} (h0 : ∀ w, S w → s.run P w = .ok (c x) w) (h : HG B Γ (k x)) : HG B Γ (RdS P S s c k) := fun w hw => ⟨x, h0, h w hw⟩
theorem rd_at {a : Addr} {b off n : Nat} {l l' : List Value} {T : TypeId} {fz : Nat × Nat} {w : World} (hw : Holds B Γ w) [ad : AdrIs a b off] [p : Own b Γ (blk b (.cells l.toArray T fz)) Δ] (hl : (l.drop off).take n = l' := by rfl) (hn : l'.length = n := by rfl) : RdN w a l'.toArray := by
  rw [ad.h]; exact rdN_own (own_blkOf hw (p := p)) hl hn
theorem look_at {α β : Type} [DecidableEq α] {kt : TypeId} {cel : α → List Value} {cV : β → Value} {T E : TypeId} {b : Nat} {m : List (α × β)} {z : β} {a : α} {w : World} (hw : Holds B Γ w) (hE : KeyS P kt cel) (hz : zeroT P E (cV z)) (hT : P.underlying T = some (.map kt E) := by kernel_rfl) [p : Own b Γ (MapR (kyS cel) cV b m) Δ] :
    (Instr.lookup T (.map (some b)) (kyS cel a) false).run P w = .ok (cV ((mget a m).getD z)) w := by
  obtain ⟨x, h1, rfl⟩ := s_look1S (B := B) (Γ := Γ) (Δ := Δ) (P := P) (b := b) (m := m) (a := a) (k := fun x _ => x = (mget a m).getD z) hE hz (fun w _ => rfl) hT w hw
  exact h1
end
end Go.Sep
/- The document's locks: claims in two lists (In, has, without, doom, Leave). -/
namespace Go.Proofs.YtihncgfghpbhdaaGreat
open Go Go.Sep Go.Sep.Bt
set_option linter.unusedSimpArgs false
set_option linter.unusedVariables false
set_option linter.unusedSectionVars false
set_option maxRecDepth 100000
theorem tagF_fl (L : List TagM) : ∀ v ∈ L.flatMap tagF, flatV v = true := fun v hv => by
  obtain ⟨x, _, hx⟩ := List.mem_flatMap.1 hv
  simp only [tagF, List.mem_cons, List.not_mem_nil, or_false] at hx
  rcases hx with rfl | rfl | rfl | rfl <;> rfl
section
variable {B : World} {Γ Δ : List HProp} {k : K} {tag : TagM}
theorem s_slc0 {E esz b : Nat} (h : HG B (SlC E esz ⟨some ⟨b, 0, none⟩, 0, 0⟩ [] :: Γ) k) : HG B (blk b (.cells ([] : List Value).toArray E (0, 0)) :: Γ) k := s_conv (blk_SlC (vs := []) rfl (by simp)) h
/-- A copy with one more, in whatever order it is made. -/
theorem s_cpyA {E T esz : Nat} {z us vs : List Value} {S : World → Prop} {s : Sl} {k : Sl → K} (h0 : ∀ w, Holds B Γ w → S w) (hr : ∀ w, Holds B Γ w → RdC w s esz vs) (hv : ∀ u ∈ vs, flatV u = true) (hroom : s.n ≤ 1000000) (h : ∀ s', s'.n = s.n + 1 → HG B (SlC E esz s' (vs ++ us) :: Γ) (k s'))
    (hz : z.length = esz := by rfl) (hl : us.length = esz := by rfl) (hfl : us.all flatV = true := by rfl) (hT : appT Tryz.prog T T E esz = true := by kernel_rfl) : HG B Γ (All [
      (New E #[] fun t => Sv S <| All [
        (Do Tryz.prog (Builtin.append_ #[T, T] T #[Sl.val (Sl.mk (some t) 0 0), s.val]) Sl.val fun a => Sv S <| Bld z.toArray (fun i => some (i * esz, esz)) [(0, .agg us.toArray)] fun ct => New E ct fun b => Sv S <|
          Do Tryz.prog (Builtin.append_ #[T, T] T #[a.val, Sl.val (Sl.mk (some b) 1 1)]) Sl.val k),
        (Bld z.toArray (fun i => some (i * esz, esz)) [(0, .agg us.toArray)] fun ct => New E ct fun b => Sv S <|
          Do Tryz.prog (Builtin.append_ #[T, T] T #[Sl.val (Sl.mk (some t) 0 0), s.val]) Sl.val fun a => Sv S <| Do Tryz.prog (Builtin.append_ #[T, T] T #[a.val, Sl.val (Sl.mk (some b) 1 1)]) Sl.val k)]),
      (Bld z.toArray (fun i => some (i * esz, esz)) [(0, .agg us.toArray)] fun ct => New E ct fun b => Sv S <| New E #[] fun t => Sv S <|
        Do Tryz.prog (Builtin.append_ #[T, T] T #[Sl.val (Sl.mk (some t) 0 0), s.val]) Sl.val fun a => Sv S <| Do Tryz.prog (Builtin.append_ #[T, T] T #[a.val, Sl.val (Sl.mk (some b) 1 1)]) Sl.val k)]) := by
  have hfa := flat_all hfl
  refine s_all2 ?_ ?_
  · refine s_new fun t => ?_
    refine s_slc0 (esz := esz) ?_
    refine s_svP (fun w hw => h0 w hw.drops) ?_
    refine s_all2 ?_ ?_
    · refine s_append (E := E) (esz := esz) (us := vs) (fun w hw => hr w hw.drops) hv (by simp only; omega) (hT := hT) fun a ha => ?_
      refine s_svP (fun w hw => h0 w hw.drops) ?_
      refine s_bld1 ?_ hz hl
      refine s_new fun b => ?_
      refine s_svP (fun w hw => h0 w hw.drops) ?_
      refine s_append (E := E) (esz := esz) (us := us) (fun w hw => RdC.of_blk hw List.mem_cons_self (by simp) (by omega) 1) hfa (by simp only at ha ⊢; omega) (hT := hT) fun a' ha' => ?_
      rw [List.nil_append]
      exact s_end (h a' (by simp only at ha ha'; omega))
    · refine s_bld1 ?_ hz hl
      refine s_new fun b => ?_
      refine s_svP (fun w hw => h0 w hw.drops) ?_
      refine s_append (s := ⟨some ⟨t, 0, none⟩, 0, 0⟩) (E := E) (esz := esz) (us := vs) (fun w hw => hr w hw.drops) hv (by simp only; omega) (hT := hT) fun a ha => ?_
      refine s_svP (fun w hw => h0 w hw.drops) ?_
      refine s_append (E := E) (esz := esz) (us := us) (fun w hw => RdC.of_blk hw (List.mem_cons_of_mem _ List.mem_cons_self) (by simp) (by omega) 1) hfa (by simp only at ha ⊢; omega) (hT := hT) fun a' ha' => ?_
      rw [List.nil_append]
      exact s_end (h a' (by simp only at ha ha'; omega))
  · refine s_bld1 ?_ hz hl
    refine s_new fun b => ?_
    refine s_svP (fun w hw => h0 w hw.drops) ?_
    refine s_new fun t => ?_
    refine s_slc0 (esz := esz) ?_
    refine s_svP (fun w hw => h0 w hw.drops) ?_
    refine s_append (E := E) (esz := esz) (us := vs) (fun w hw => hr w hw.drops) hv (by simp only; omega) (hT := hT) fun a ha => ?_
    refine s_svP (fun w hw => h0 w hw.drops) ?_
    refine s_append (E := E) (esz := esz) (us := us) (fun w hw => RdC.of_blk hw (List.mem_cons_of_mem _ List.mem_cons_self) (by simp) (by omega) 1) hfa (by simp only at ha ⊢; omega) (hT := hT) fun a' ha' => ?_
    rw [List.nil_append]
    exact s_end (h a' (by simp only at ha ha'; omega))
theorem in16_hg {s : Sl} {L : List TagM} {Q : Bool → K} (hl : L.length < 1000000000) (hr : ∀ w, Holds B Γ w → RdC w s 4 (L.flatMap tagF)) (h : HG B Γ (Q (decide (tag ∈ L)))) : HG B Γ (ref16_In.call s (tagF tag).toArray Q) := fun w hw => by
  refine ref16_In_ok _ _ _ _ ?_
  have ln : s.n = L.length := rd_len tagF_len (by omega) (hr w hw)
  refine hg hw ?_
  clear hw w
  unfold ref16_In
  refine s_new fun g3 => ?_
  refine s_loop (α := Int) (ι := Nat) (fun x i => x = (i : Int) ∧ i ≤ L.length ∧ tag ∉ L.take i) (fun x i => blk g3 (.cells (tagF tag).toArray ty_api_Tag (0, 0)) :: Γ) (fun x i => L.length - i) 0 ⟨rfl, Nat.zero_le _, by simp⟩ ?_
  rintro k' _ i ⟨rfl, hi, hn⟩ hk'
  unfold ref16_In.b1
  refine s_ite (fun hb => ?_) fun hb => ?_
  · have hil : i < L.length := by simp only [decide_eq_true_eq] at hb; omega
    have htk := List.take_succ_eq_append_getElem hil
    have hge : L[i]? = some L[i] := List.getElem?_eq_getElem hil
    have hmem : L[i] ∈ L := List.getElem_mem hil
    generalize L[i] = x at htk hge hmem
    refine s_dr ?_
    refine s_idxN tagF tagF_len (fun w hw => hr w hw.drops) hge ?_
    refine s_ldN (b := g3) (l' := tagF tag) ?_
    refine s_eqS (xs := tagF x) (ys := tagF tag) (ks := tagK) tagF_inj ?_
    refine s_ite (fun hp => ?_) fun hp => ?_
    · have : x = tag := by simpa using hp
      rw [show decide (tag ∈ L) = true by rw [← this]; simpa using hmem] at h
      exact s_end h
    · have hne : x ≠ tag := by simpa using hp
      refine s_ai ?_
      exact hk' ((i : Int) + 1) (i + 1) ⟨by simp, hil, by rw [htk]; simp [hn, Ne.symm hne]⟩ (by omega)
  · have hil : i = L.length := by simp only [decide_eq_false_iff_not] at hb; omega
    rw [hil, List.take_length] at hn
    rw [show decide (tag ∈ L) = false by simpa using hn] at h
    exact s_end h
def hasK (L : List Claim) (key : List UInt8) (tag : TagM) : Bool := L.any fun c => decide (c.2.key = key) && decide (c.1 = tag)
theorem s_ldNA16 {a : Addr} {m : Nat} {cs us : List Value} {k : Array Value → K} (hn : ∀ w, Holds B Γ w → RdN w a cs.toArray) (hm : m ≤ cs.length) (h : HG B Γ (k us.toArray)) (hu : cs.take m = us := by rfl) : HG B Γ (LdN a m k) := fun w hw => by
  refine ⟨us.toArray, by rw [← hu]; simp; omega, fun i hi => ?_, h w hw⟩
  have hl : us.length = min m cs.length := by rw [← hu, List.length_take]
  simp only [List.size_toArray] at hi
  have := hn w hw i (by simp only [List.size_toArray]; omega)
  rw [this]
  have e : cs[i]? = us[i]? := by rw [← hu, List.getElem?_take, if_pos (by omega)]
  simpa using e
theorem s_ldAi {α : Type} {a : Addr} {i : Nat} {cs : List Value} {c : α → Value} {x : α} {k : α → K} (hn : ∀ w, Holds B Γ w → RdN w a cs.toArray) (hv : cs[i]? = some (c x)) (h : HG B Γ (k x)) : HG B Γ (Ld (a.add i) c k) := fun w hw => ⟨x, by
  have := hn w hw i (by have := (List.getElem?_eq_some_iff.1 hv).1; simpa using this)
  rw [this]; simpa using hv, h w hw⟩
theorem has16_hg {s : Sl} {L : List Claim} {key : List UInt8} {Q : Bool → K} (hl : L.length < 1000000000) (hr : ∀ w, Holds B Γ w → RdC w s 7 (L.flatMap clF)) (h : HG B Γ (Q (hasK L key tag))) : HG B Γ (ref16_has.call s (bs key) (tagF tag).toArray Q) := fun w hw => by
  refine ref16_has_ok _ _ _ _ _ ?_
  have ln : s.n = L.length := rd_len clF_len (by omega) (hr w hw)
  refine hg hw ?_
  clear hw w
  unfold ref16_has
  refine s_new fun g5 => ?_
  refine s_loop (α := Int) (ι := Nat) (fun x i => x = (i : Int) ∧ i ≤ L.length ∧ hasK (L.take i) key tag = false) (fun x i => blk g5 (.cells (tagF tag).toArray ty_api_Tag (0, 0)) :: Γ) (fun x i => L.length - i) 0 ⟨rfl, Nat.zero_le _, by simp [hasK]⟩ ?_
  rintro k' _ i ⟨rfl, hi, hn⟩ hk'
  unfold ref16_has.b1
  refine s_ite (fun hb => ?_) fun hb => ?_
  · have hil : i < L.length := by simp only [decide_eq_true_eq] at hb; omega
    have htk := List.take_succ_eq_append_getElem hil
    have hge : L[i]? = some L[i] := List.getElem?_eq_getElem hil
    have hmem : L[i] ∈ L := List.getElem_mem hil
    generalize L[i] = x at htk hge hmem
    have step : (decide (x.2.key = key) && decide (x.1 = tag)) = false → HG B (blk g5 (.cells (tagF tag).toArray ty_api_Tag (0, 0)) :: Γ) (ref16_has.s2 Q k' s (bs key) ⟨g5, 0, none⟩ (i : Int) false) := fun hx => by
      unfold ref16_has.s2
      refine s_f ?_
      refine s_ai ?_
      exact hk' ((i : Int) + 1) (i + 1) ⟨by simp, hil, by rw [htk]; unfold hasK at hn ⊢; rw [List.any_append, hn]; simp only [List.any_cons, List.any_nil, Bool.or_false, Bool.false_or, hx]⟩ (by omega)
    refine s_dr ?_
    refine s_idxFA clF clF_len (by omega) (fun w hw => hr w hw.drops) hge fun t16 ht16 => ?_
    refine s_ldAi (cs := clF x) (i := 4) (x := bs x.2.key) (fun w hw => ht16 w (hr w hw.drops)) rfl ?_
    refine s_ite (fun hp => ?_) fun hp => ?_
    · have hkey : x.2.key = key := by rw [bs_list, bs_list] at hp; simpa using hp
      refine s_idxFA clF clF_len (by omega) (fun w hw => hr w hw.drops) hge fun t25 ht25 => ?_
      refine s_ldNA16 (cs := clF x) (us := tagF x.1) (fun w hw => ht25 w (hr w hw.drops)) (by rw [clF_len]; omega) ?_
      refine s_ldN (b := g5) (l' := tagF tag) ?_
      refine s_eqS (xs := tagF x.1) (ys := tagF tag) (ks := tagK) tagF_inj ?_
      by_cases hx : x.1 = tag
      · rw [show decide (x.1 = tag) = true by simpa using hx]
        unfold ref16_has.s2
        refine s_t ?_
        rw [show hasK L key tag = true by unfold hasK; rw [List.any_eq_true]; exact ⟨x, hmem, by simp [hkey, hx]⟩] at h
        exact s_end h
      · rw [show decide (x.1 = tag) = false by simpa using hx]
        exact step (by simp [hx])
    · have hkey : x.2.key ≠ key := by rw [bs_list, bs_list] at hp; simpa using hp
      exact step (by simp [hkey])
  · have hil : i = L.length := by simp only [decide_eq_false_iff_not] at hb; omega
    rw [hil, List.take_length] at hn
    rw [hn] at h
    exact s_end h
theorem without16_hg {s : Sl} {L : List Claim} {Q : Sl → K} (hl : L.length ≤ 1000000) (hr : ∀ w, Holds B Γ w → RdC w s 7 (L.flatMap clF)) (h : ∀ s', HG B (SlC ty_argosyref16_Claim 7 s' ((noT tag L).flatMap clF) :: Γ) (Q s')) : HG B Γ (ref16_without.call s (tagF tag).toArray Q) := fun w hw => by
  refine ref16_without_ok _ _ _ _ ?_
  have ln : s.n = L.length := rd_len clF_len (by omega) (hr w hw)
  refine hg hw ?_
  clear hw w
  unfold ref16_without
  refine s_new fun g3 => ?_
  refine s_new fun t7 => ?_
  refine s_slc0 (esz := 7) ?_
  refine s_loop (α := Sl × Int) (ι := Nat) (fun x i => x.2 = (i : Int) ∧ i ≤ L.length) (fun x i => SlC ty_argosyref16_Claim 7 x.1 ((noT tag (L.take i)).flatMap clF) :: blk g3 (.cells (tagF tag).toArray ty_api_Tag (0, 0)) :: Γ) (fun x i => L.length - i) 0 ⟨rfl, Nat.zero_le _⟩ ?_
  rintro k' ⟨o, _⟩ i ⟨rfl, hi⟩ hk'
  simp only at hi hk' ⊢
  refine s_cap o fun a1 a2 a3 a4 => ?_
  rw [flatMap_len _ 7 clF_len] at a1
  have ho : (noT tag (L.take i)).length ≤ i := by
    unfold noT
    have h1 := List.length_filter_le (fun c : Claim => !decide (c.1 = tag)) (L.take i)
    rw [List.length_take] at h1
    omega
  unfold ref16_without.b1
  refine s_ite (fun hb => ?_) fun hb => ?_
  · have hil : i < L.length := by simp only [decide_eq_true_eq] at hb; omega
    have htk := List.take_succ_eq_append_getElem hil
    have hge : L[i]? = some L[i] := List.getElem?_eq_getElem hil
    generalize L[i] = x at htk hge
    refine s_dr ?_
    refine s_idxFA clF clF_len (by omega) (fun w hw => hr w hw.drops) hge fun t16 ht16 => ?_
    refine s_ldNA16 (cs := clF x) (us := tagF x.1) (fun w hw => ht16 w (hr w hw.drops)) (by rw [clF_len]; omega) ?_
    refine s_ldN (b := g3) (l' := tagF tag) ?_
    refine s_neS (xs := tagF x.1) (ys := tagF tag) (ks := tagK) tagF_inj ?_
    by_cases hx : x.1 = tag
    · refine s_f ?_ (by simp [hx])
      unfold ref16_without.s2
      refine s_ai ?_
      have hfin := hk' (o, (i : Int) + 1) (i + 1) ⟨by simp, hil⟩ (by omega)
      rw [show noT tag (L.take (i + 1)) = noT tag (L.take i) by rw [htk]; simp [noT, hx]] at hfin
      exact hfin
    · refine s_t ?_ (by simp [hx])
      refine s_idxN clF clF_len (fun w hw => hr w hw.drops) hge ?_
      refine s_bld1 ?_
      refine s_app1 (s := o) (m := 1) (us := clF x) (fun o2 ho2 => ?_)
      unfold ref16_without.s2
      refine s_ai ?_
      have hfin := hk' (o2, (i : Int) + 1) (i + 1) ⟨by simp, hil⟩ (by omega)
      rw [show (noT tag (L.take (i + 1))).flatMap clF = (noT tag (L.take i)).flatMap clF ++ clF x by rw [htk]; simp [noT, hx, List.flatMap_append]] at hfin
      exact hfin
  · have hil : i = L.length := by simp only [decide_eq_false_iff_not] at hb; omega
    rw [hil, List.take_length]
    exact s_end (h o)
end
end Go.Proofs.YtihncgfghpbhdaaGreat
/- A B-tree's node, leaf or not, in one view. Holds for every program. -/
namespace Go.Sep
open Go Go.RowKit
set_option linter.unusedSimpArgs false
set_option linter.unusedVariables false
namespace Bt
section
variable {κ : Type} {G : BtT κ} {c : κ → κ → Int} {B : World} {Γ Δ : List HProp}
/-- Items and kids in turn. -/
def wv : List G.It → List (Kid G) → List G.It
  | its, [] => its
  | [], q :: _ => q.2
  | x :: its, q :: ks => q.2 ++ x :: wv its ks
theorem wv_ps (q0 : Kid G) : ∀ (ps : List (G.It × Kid G)), wv (ps.map Prod.fst) (q0 :: ps.map Prod.snd) = psL q0 ps
  | [] => by simp [wv, psL]
  | (x, q) :: ps => by
    have e : psL q0 ((x, q) :: ps) = q0.2 ++ x :: psL q ps := by simp [psL]
    rw [e, ← wv_ps q ps]; rfl
/-- As many kids as there must be. -/
def Fit (d : Nat) (its : List G.It) (ks : List (Kid G)) : Prop := match d with
  | 0 => ks = []
  | _ + 1 => ks.length = its.length + 1
def kidsD (G : BtT κ) : Nat → List (Kid G) → HProp
  | 0, _ => Sep.stars []
  | d + 1, ks => kidsR G d ks
abbrev rawL (G : BtT κ) (d b : Nat) (s kd : Sl) (its : List G.It) (ks : List (Kid G)) (Γ : List HProp) : List HProp := nodeB G b s kd :: itsR G s its :: kpsR G kd (ks.map ptr) :: kidsD G d ks :: Γ
theorem s_raw {d m b : Nat} {L : List G.It} {k : K} (h : ∀ s kd its ks, Fit d its ks → its.length ≤ 5 → (m = 2 → its ≠ []) → L = wv its ks → HG B (rawL G d b s kd its ks Γ) k) : HG B (NodeR G d m b L :: Γ) k := by
  cases d with
  | zero =>
    refine s_node0 fun s kd h1 h2 => ?_
    refine fun w hw => ?_
    refine hg (show Holds B (kidsD G 0 [] :: _) w from Holds.flat.2 hw) ?_
    have := h s kd L [] rfl h2 h1 (by cases L <;> rfl)
    refine s_end (Δ := nodeB G b s kd :: itsR G s L :: kpsR G kd [] :: kidsD G 0 [] :: Γ) ?_
    exact this
  | succ d =>
    refine s_nodeS fun s kd q0 ps h1 h2 h3 => ?_
    exact h s kd (ps.map Prod.fst) (q0 :: ps.map Prod.snd) (by simp [Fit]) (by simpa using h2) (fun hm => by simpa using h1 (by omega)) (by rw [h3, wv_ps])
theorem zip_ps {its : List G.It} {ks : List (Kid G)} (h : ks.length = its.length + 1) : ∃ (q0 : Kid G) (ps : List (G.It × Kid G)), its = ps.map Prod.fst ∧ ks = q0 :: ps.map Prod.snd := by
  cases ks with
  | nil => simp at h
  | cons q0 ks =>
    refine ⟨q0, its.zip ks, ?_, ?_⟩
    · rw [List.map_fst_zip (by simp at h; omega)]
    · rw [List.map_snd_zip (by simp at h; omega)]
theorem s_unraw {d m b : Nat} {s kd : Sl} {its : List G.It} {ks : List (Kid G)} {k : K} (hf : Fit d its ks) (hl : its.length ≤ 5) (hm : 1 ≤ m → (d = 0 ∧ m = 1) ∨ its ≠ []) (h : HG B (NodeR G d m b (wv its ks) :: Γ) k) : HG B (rawL G d b s kd its ks Γ) k := by
  cases d with
  | zero =>
    have hk : ks = [] := hf
    subst hk
    have e : wv its [] = its := by cases its <;> rfl
    rw [e] at h
    show HG B (nodeB G b s kd :: itsR G s its :: kpsR G kd [] :: kidsD G 0 [] :: Γ) k
    refine s_end (Δ := nodeB G b s kd :: itsR G s its :: kpsR G kd [] :: Γ) ?_
    exact s_mk0 (fun h2 => by rcases hm (by omega) with h3 | h3
                              · omega
                              · exact h3) hl h
  | succ d =>
    obtain ⟨q0, ps, rfl, rfl⟩ := zip_ps hf
    rw [wv_ps] at h
    exact s_mkS (fun h2 => by rcases hm h2 with h3 | h3
                              · omega
                              · simpa using h3) (by simpa using hl) h
end
end Bt
end Go.Sep
/- A B-tree: what Delete's functions are (printed by tools/mkbt.py). Holds for every program. -/
namespace Go.Sep
open Go Go.RowKit
set_option linter.unusedSimpArgs false
set_option linter.unusedVariables false
namespace Bt
structure BtD (κ : Type) extends BtT κ where
  delIC : Sl → Int → Int → (Sl → K) → K
  delKC : Sl → Int → Int → (Sl → K) → K
  ntakeC : Option Addr → κ → (Array Value → Bool → K) → K
  nlastC : Option Addr → (Array Value → K) → K
  nmendC : Option Addr → Int → K → K
section
variable {κ : Type}
def nmend_s2 (G : BtD κ) (Q : K)  (n0_2 : Addr) (i1_2 : Int) (kid4_2 : Addr) (t202_2 : Bool) : K :=
  Ite t202_2
    (Ld (n0_2.add 1) Sl.val fun t229 =>
    Ar (IntKind.wrap .i64 (i1_2 + 1)) fun t231 =>
    Idx t229 t231 1 fun t232 =>
    Ld t232 Value.pointer fun t233 =>
    Dr <| WithS fun S =>
    LdS S kid4_2 Sl.val fun t238 =>
    LdS S n0_2 Sl.val fun t242 =>
    Idx t242 i1_2 (G.nv + 1) fun t244 =>
    LdNS S t244 (G.nv + 1) fun t245 =>
    Bld (G.kz :: G.vz).toArray (fun i => some (i * (G.nv + 1), (G.nv + 1))) [(0, (.agg t245))] fun ct246 =>
    New G.tI ct246 fun t246 =>
    Sv S <|
    Do G.P (Builtin.append_ #[G.tSI, G.tSI] G.tSI #[(Sl.val t238), (Sl.val (Sl.mk (some t246) 1 1))]) Sl.val fun t247 =>
    St kid4_2 (Sl.val t247) <|
    Dr <|
    Nn t233 fun t256 =>
    Ld n0_2 Sl.val fun t253 =>
    Ld t256 Sl.val fun t258 =>
    Idx t258 0 (G.nv + 1) fun t259 =>
    LdN t259 (G.nv + 1) fun t260 =>
    Idx t253 i1_2 (G.nv + 1) fun t261 =>
    StN t261 (G.nv + 1) t260 <|
    Ld t256 Sl.val fun t266 =>
    G.delIC t266 0 1 fun t267 =>
    St t256 (Sl.val t267) <|
    Ld (t256.add 1) Sl.val fun t273 =>
    Ite (decide ((0 : Int) < (t273.n : Int)))
      (Dr <| WithS fun S =>
      LdS S (kid4_2.add 1) Sl.val fun t280 =>
      LdS S (t256.add 1) Sl.val fun t284 =>
      Idx t284 0 1 fun t285 =>
      LdS S t285 Value.pointer fun t286 =>
      New G.tK #[(.pointer t286)] fun t287 =>
      Sv S <|
      Do G.P (Builtin.append_ #[G.tSK, G.tSK] G.tSK #[(Sl.val t280), (Sl.val (Sl.mk (some t287) 1 1))]) Sl.val fun t288 =>
      St (kid4_2.add 1) (Sl.val t288) <|
      Ld (t256.add 1) Sl.val fun t295 =>
      G.delKC t295 0 1 fun t296 =>
      St (t256.add 1) (Sl.val t296) <|
      Q)
      (Q))
    (Ar (if (1 : Int) > i1_2 then 1 else i1_2) fun t18 =>
    Dr <|
    Ld (n0_2.add 1) Sl.val fun t22 =>
    Ar (IntKind.wrap .i64 (t18 - 1)) fun t24 =>
    Idx t22 t24 1 fun t25 =>
    Ld t25 Value.pointer fun t26 =>
    Ld (n0_2.add 1) Sl.val fun t30 =>
    Idx t30 t18 1 fun t32 =>
    Ld t32 Value.pointer fun t33 =>
    Dr <| WithS fun S =>
    Nn t26 fun t36 =>
    Ar (IntKind.wrap .i64 (t18 - 1)) fun t44 =>
    Nn t33 fun t50 =>
    LdS S t36 Sl.val fun t38 =>
    LdS S n0_2 Sl.val fun t42 =>
    Idx t42 t44 (G.nv + 1) fun t45 =>
    LdNS S t45 (G.nv + 1) fun t46 =>
    LdS S t50 Sl.val fun t52 =>
    Bld (G.kz :: G.vz).toArray (fun i => some (i * (G.nv + 1), (G.nv + 1))) [(0, (.agg t46))] fun ct47 =>
    New G.tI ct47 fun t47 =>
    Sv S <|
    Do G.P (Builtin.append_ #[G.tSI, G.tSI] G.tSI #[(Sl.val t38), (Sl.val (Sl.mk (some t47) 1 1))]) Sl.val fun t48 =>
    Sv S <|
    Do G.P (Builtin.append_ #[G.tSI, G.tSI] G.tSI #[(Sl.val t48), (Sl.val t52)]) Sl.val fun t53 =>
    St t36 (Sl.val t53) <|
    Dr <|
    Ld (t36.add 1) Sl.val fun t60 =>
    Ld (t50.add 1) Sl.val fun t64 =>
    Do G.P (Builtin.append_ #[G.tSK, G.tSK] G.tSK #[(Sl.val t60), (Sl.val t64)]) Sl.val fun t65 =>
    St (t36.add 1) (Sl.val t65) <|
    Ld n0_2 Sl.val fun t72 =>
    Ar (IntKind.wrap .i64 (t18 - 1)) fun t74 =>
    G.delIC t72 t74 t18 fun t76 =>
    St n0_2 (Sl.val t76) <|
    Ld (n0_2.add 1) Sl.val fun t83 =>
    Ar (IntKind.wrap .i64 (t18 + 1)) fun t86 =>
    G.delKC t83 t18 t86 fun t87 =>
    St (n0_2.add 1) (Sl.val t87) <|
    Q)
def nmend_s1 (G : BtD κ) (Q : K)  (n0_1 : Addr) (i1_1 : Int) (kid4_1 : Addr) (t97_1 : Bool) : K :=
  Ite t97_1
    (Ld (n0_1.add 1) Sl.val fun t118 =>
    Ar (IntKind.wrap .i64 (i1_1 - 1)) fun t120 =>
    Idx t118 t120 1 fun t121 =>
    Ld t121 Value.pointer fun t122 =>
    Nn t122 fun t124 =>
    Ld t124 Sl.val fun t126 =>
    Ar (IntKind.wrap .i64 ((t126.n : Int) - 1)) fun t128 =>
    Dr <| WithS fun S =>
    Ar (IntKind.wrap .i64 (i1_1 - 1)) fun t139 =>
    LdS S kid4_1 Sl.val fun t133 =>
    LdS S n0_1 Sl.val fun t137 =>
    Idx t137 t139 (G.nv + 1) fun t140 =>
    LdNS S t140 (G.nv + 1) fun t141 =>
    Bld (G.kz :: G.vz).toArray (fun i => some (i * (G.nv + 1), (G.nv + 1))) [(0, (.agg t141))] fun ct142 =>
    New G.tI ct142 fun t142 =>
    Sv S <|
    G.insIC t133 0 (Sl.mk (some t142) 1 1) fun t143 =>
    St kid4_1 (Sl.val t143) <|
    Dr <|
    Ar (IntKind.wrap .i64 (i1_1 - 1)) fun t151 =>
    Ld n0_1 Sl.val fun t149 =>
    Ld t124 Sl.val fun t155 =>
    Idx t155 t128 (G.nv + 1) fun t157 =>
    LdN t157 (G.nv + 1) fun t158 =>
    Idx t149 t151 (G.nv + 1) fun t159 =>
    StN t159 (G.nv + 1) t158 <|
    Ld t124 Sl.val fun t164 =>
    Slc t164 0 t128 (t164.c : Int) (G.nv + 1) fun t166 =>
    St t124 (Sl.val t166) <|
    Ld (t124.add 1) Sl.val fun t172 =>
    Ite (decide ((0 : Int) < (t172.n : Int)))
      (Dr <| WithS fun S =>
      Ar (IntKind.wrap .i64 (t128 + 1)) fun t185 =>
      LdS S (kid4_1.add 1) Sl.val fun t179 =>
      LdS S (t124.add 1) Sl.val fun t183 =>
      Idx t183 t185 1 fun t186 =>
      LdS S t186 Value.pointer fun t187 =>
      New G.tK #[(.pointer t187)] fun t188 =>
      Sv S <|
      G.insKC t179 0 (Sl.mk (some t188) 1 1) fun t189 =>
      St (kid4_1.add 1) (Sl.val t189) <|
      Ld (t124.add 1) Sl.val fun t196 =>
      Ar (IntKind.wrap .i64 (t128 + 1)) fun t198 =>
      Slc t196 0 t198 (t196.c : Int) 1 fun t199 =>
      St (t124.add 1) (Sl.val t199) <|
      Q)
      (Q))
    (Ar (IntKind.wrap .i64 (i1_1 + 1)) fun t204 =>
    Ld (n0_1.add 1) Sl.val fun t208 =>
    Ite (decide (t204 < (t208.n : Int)))
      (Ld (n0_1.add 1) Sl.val fun t215 =>
      Ar (IntKind.wrap .i64 (i1_1 + 1)) fun t217 =>
      Idx t215 t217 1 fun t218 =>
      Ld t218 Value.pointer fun t219 =>
      Nn t219 fun t220 =>
      Ld t220 Sl.val fun t222 =>
      nmend_s2 G Q n0_1 i1_1 kid4_1 (decide ((2 : Int) < (t222.n : Int))))
      (nmend_s2 G Q n0_1 i1_1 kid4_1 false))
def nmend (G : BtD κ) (n0 : (Option Addr)) (i1 : Int) (Q : K) : K :=
  Nn n0 fun t11 =>
  Ld (t11.add 1) Sl.val fun t13 =>
  Idx t13 i1 1 fun t15 =>
  Ld t15 Value.pointer fun t16 =>
  Nn t16 fun t92 =>
  Ld t92 Sl.val fun t94 =>
  Ite (decide ((2 : Int) ≤ (t94.n : Int)))
    (Q)
    (Ite (decide ((0 : Int) < i1))
      (Ld (t11.add 1) Sl.val fun t104 =>
      Ar (IntKind.wrap .i64 (i1 - 1)) fun t106 =>
      Idx t104 t106 1 fun t107 =>
      Ld t107 Value.pointer fun t108 =>
      Nn t108 fun t109 =>
      Ld t109 Sl.val fun t111 =>
      nmend_s1 G Q t11 i1 t92 (decide ((2 : Int) < (t111.n : Int))))
      (nmend_s1 G Q t11 i1 t92 false))
def nlast (G : BtD κ) (n0 : (Option Addr)) (Q : (Array Value) → K) : K :=
  New G.tI (G.kz :: G.vz).toArray fun t2 =>
  Nn n0 fun t7 =>
  Ld (t7.add 1) Sl.val fun t9 =>
  Ar (IntKind.wrap .i64 ((t9.n : Int) - 1)) fun t11 =>
  Ite (decide ((0 : Int) ≤ t11))
    (Ld (t7.add 1) Sl.val fun t17 =>
    Idx t17 t11 1 fun t19 =>
    Ld t19 Value.pointer fun t20 =>
    G.nlastC t20 fun t21 =>
    New G.tI (G.kz :: G.vz).toArray fun x4 =>
    StN x4 (G.nv + 1) t21 <|
    G.nmendC (some t7) t11 <|
    LdN x4 (G.nv + 1) fun t25 =>
    StN t2 (G.nv + 1) t25 <|
    LdN t2 (G.nv + 1) fun r0 =>
    Q r0)
    (Dr <| WithS fun S =>
    LdS S t7 Sl.val fun t29 =>
    LdS S t7 Sl.val fun t33 =>
    Ar (IntKind.wrap .i64 ((t33.n : Int) - 1)) fun t35 =>
    Idx t29 t35 (G.nv + 1) fun t36 =>
    LdNS S t36 (G.nv + 1) fun t37 =>
    New G.tI (G.kz :: G.vz).toArray fun x5 =>
    Sv S <|
    StN x5 (G.nv + 1) t37 <|
    Dr <|
    Ld t7 Sl.val fun t42 =>
    Ld t7 Sl.val fun t46 =>
    Ar (IntKind.wrap .i64 ((t46.n : Int) - 1)) fun t48 =>
    Slc t42 0 t48 (t42.c : Int) (G.nv + 1) fun t49 =>
    St t7 (Sl.val t49) <|
    LdN x5 (G.nv + 1) fun t52 =>
    StN t2 (G.nv + 1) t52 <|
    LdN t2 (G.nv + 1) fun r0 =>
    Q r0)
def ntake_s1 (G : BtD κ) (Q : (Array Value) → Bool → K)  (value4_1 : Addr) (ok5_1 : Bool) : K :=
  LdN value4_1 G.nv fun t94 =>
  StN value4_1 G.nv t94 <|
  LdN value4_1 G.nv fun r0 =>
  Q r0 ok5_1
def ntake_s2 (G : BtD κ) (Q : (Array Value) → Bool → K)  (n0_2 : (Option Addr)) (key1_2 : κ) (value4_2 : Addr) (i6_2 : Int) (found7_2 : Bool) (t14_2 : Bool) : K :=
  Ite t14_2
    (Nn n0_2 fun t25 =>
    Ld t25 Sl.val fun t27 =>
    Idx t27 i6_2 (G.nv + 1) fun t29 =>
    LdN (t29.add 1) G.nv fun t31 =>
    StN value4_2 G.nv t31 <|
    Ld t25 Sl.val fun t36 =>
    Ar (IntKind.wrap .i64 (i6_2 + 1)) fun t39 =>
    G.delIC t36 i6_2 t39 fun t40 =>
    St t25 (Sl.val t40) <|
    LdN value4_2 G.nv fun t43 =>
    StN value4_2 G.nv t43 <|
    LdN value4_2 G.nv fun r0 =>
    Q r0 true)
    (Ite found7_2
      (Nn n0_2 fun t47 =>
      Ld t47 Sl.val fun t49 =>
      Idx t49 i6_2 (G.nv + 1) fun t51 =>
      LdN (t51.add 1) G.nv fun t53 =>
      StN value4_2 G.nv t53 <|
      Dr <| WithS fun S =>
      LdS S t47 Sl.val fun t57 =>
      LdS S (t47.add 1) Sl.val fun t62 =>
      Idx t62 i6_2 1 fun t64 =>
      LdS S t64 Value.pointer fun t65 =>
      G.nlastC t65 fun t66 =>
      Sv S <|
      Idx t57 i6_2 (G.nv + 1) fun t67 =>
      StN t67 (G.nv + 1) t66 <|
      G.nmendC (some t47) i6_2 <|
      LdN value4_2 G.nv fun t71 =>
      StN value4_2 G.nv t71 <|
      LdN value4_2 G.nv fun r0 =>
      Q r0 true)
      (Nn n0_2 fun t74 =>
      Ld (t74.add 1) Sl.val fun t76 =>
      Ite (decide ((0 : Int) < (t76.n : Int)))
        (Ld (t74.add 1) Sl.val fun t83 =>
        Idx t83 i6_2 1 fun t85 =>
        Ld t85 Value.pointer fun t86 =>
        G.ntakeC t86 key1_2 fun t88x0 t88x1 =>
        StN value4_2 G.nv t88x0 <|
        G.nmendC (some t74) i6_2 <|
        ntake_s1 G Q value4_2 t88x1)
        (ntake_s1 G Q value4_2 false)))
def ntake (G : BtD κ) (n0 : (Option Addr)) (key1 : κ) (Q : (Array Value) → Bool → K) : K :=
  New G.tV G.vz.toArray fun value4 =>
  G.nsearchC n0 key1 fun t11x0 t11x1 =>
  Ite t11x1
    (Nn n0 fun t18 =>
    Ld (t18.add 1) Sl.val fun t20 =>
    ntake_s2 G Q (some t18) key1 value4 t11x0 true (decide ((t20.n : Int) = 0)))
    (ntake_s2 G Q n0 key1 value4 t11x0 false false)
def tdel_s2 (G : BtD κ) (Q : (Array Value) → Bool → K)  (value4_2 : Addr) (ok5_2 : Bool) : K :=
  LdN value4_2 G.nv fun t55 =>
  StN value4_2 G.nv t55 <|
  LdN value4_2 G.nv fun r0 =>
  Q r0 ok5_2
def tdel_s1 (G : BtD κ) (Q : (Array Value) → Bool → K)  (t0_1 : Addr) (value4_1 : Addr) (ok5_1 : Bool) : K :=
  Ite ok5_1
    (Ld (t0_1.add 1) (Value.int .i64) fun t51 =>
    Ar (IntKind.wrap .i64 (t51 - 1)) fun t52 =>
    St (t0_1.add 1) (.int .i64 t52) <|
    tdel_s2 G Q value4_1 ok5_1)
    (tdel_s2 G Q value4_1 ok5_1)
def tdel_s3 (G : BtD κ) (Q : (Array Value) → Bool → K)  (t0_3 : Addr) (value4_3 : Addr) (ok5_3 : Bool) (t34_3 : Bool) : K :=
  Ite t34_3
    (Ld t0_3 Value.pointer fun t39 =>
    Nn t39 fun t40 =>
    Ld (t40.add 1) Sl.val fun t42 =>
    Idx t42 0 1 fun t43 =>
    Ld t43 Value.pointer fun t44 =>
    St t0_3 (.pointer t44) <|
    tdel_s1 G Q t0_3 value4_3 ok5_3)
    (tdel_s1 G Q t0_3 value4_3 ok5_3)
def tdel (G : BtD κ) (t0 : (Option Addr)) (key1 : κ) (Q : (Array Value) → Bool → K) : K :=
  New G.tV G.vz.toArray fun value4 =>
  Nn t0 fun t8 =>
  Ld t8 Value.pointer fun t10 =>
  G.ntakeC t10 key1 fun t12x0 t12x1 =>
  StN value4 G.nv t12x0 <|
  Ld t8 Value.pointer fun t18 =>
  Nn t18 fun t19 =>
  Ld t19 Sl.val fun t21 =>
  Ite (decide ((t21.n : Int) = 0))
    (Ld t8 Value.pointer fun t28 =>
    Nn t28 fun t29 =>
    Ld (t29.add 1) Sl.val fun t31 =>
    tdel_s3 G Q t8 value4 t12x1 (decide ((t31.n : Int) = 1)))
    (tdel_s3 G Q t8 value4 t12x1 false)
end
/-- What is asked of Delete's functions. -/
structure BtDOk {κ : Type} (G : BtD κ) (c : κ → κ → Int) : Prop extends BtOk G.toBtT c where
  delI : ∃ Z, ∀ s i j Q w, delK G.P G.tSI Z (G.nv + 1) s i j Q w → G.delIC s i j Q w
  delK : ∃ Z, ∀ s i j Q w, delK G.P G.tSK Z 1 s i j Q w → G.delKC s i j Q w
  take : ∀ n k Q w, ntake G n k Q w → G.ntakeC n k Q w
  last : ∀ n Q w, nlast G n Q w → G.nlastC n Q w
  mend : ∀ n i Q w, nmend G n i Q w → G.nmendC n i Q w
end Bt
end Go.Sep
/- A B-tree: what mend does. Holds for every program. -/
namespace Go.Sep
open Go Go.RowKit
set_option linter.unusedSimpArgs false
set_option linter.unusedVariables false
namespace Bt
section
variable {κ : Type} {B : World} {Γ Γ0 Δ : List HProp}
/-- An element that is read in every state that bears this. -/
theorem s_ldElS {α : Type} {f : α → List Value} {esz E : Nat} {s : Sl} {L : List α} {i : Nat} {x : α} {k : Array Value → K} (hf : ∀ x, (f x).length = esz) (hx : L[i]? = some x) (h : HG B Γ (k (f x).toArray)) [o : OwnS s Γ0 (SlC E esz s (L.flatMap f)) Δ] : HG B Γ (LdNS (Holds B Γ0) (elA s i esz) esz k) := fun w hw => by
  refine ⟨(f x).toArray, by simp [hf], fun w' hw' => ?_, h w hw⟩
  obtain ⟨cs, hcs, hrd, hk⟩ := s_ldEl (s := s) (i := i) (k := fun cs _ => cs = (f x).toArray) (E := E) (Γ := Γ0) (B := B) hf hx (fun _ _ => rfl) w' hw'
  rw [← hk]; exact hrd
theorem s_ldES1 {α : Type} {c : α → Value} {E : Nat} {s : Sl} {L : List α} {i : Nat} {x : α} {k : α → K} (hx : L[i]? = some x) (h : HG B Γ (k x)) [o : OwnS s Γ0 (SlC E 1 s (L.map c)) Δ] : HG B Γ (LdS (Holds B Γ0) (elA s i 1) c k) := fun w hw => by
  refine ⟨x, fun w' hw' => ?_, h w hw⟩
  obtain ⟨h0, h1, h2, h3, h4⟩ := own_rd hw' (p := o)
  rw [← add0 (elA s i 1)]
  exact el_cell (vs := L.map c) (off := 0) h0 h3 (by simp [hx])
/-- An element is another one. -/
theorem s_stEl {α : Type} {f : α → List Value} {esz E : Nat} {s : Sl} {A C : List α} {x y : α} {k : K} (hf : ∀ x, (f x).length = esz) (hfl : (f y).all flatV = true) (h : HG B (SlC E esz s ((A ++ y :: C).flatMap f) :: Δ) k) [o : OwnS s Γ (SlC E esz s ((A ++ x :: C).flatMap f)) Δ] : HG B Γ (StN (elA s A.length esz) esz (f y).toArray k) := by
  rw [← add0 (elA s A.length esz)]
  refine s_stEN (s := s) (us := f y) ?_ (hf y) ?_ hfl
  · have e : layAt ((A ++ x :: C).flatMap f) (A.length * esz + 0) (f y) = (A ++ y :: C).flatMap f := by
      have e1 : (A ++ x :: C).flatMap f = A.flatMap f ++ (f x ++ C.flatMap f) := by simp
      have e2 : (A ++ y :: C).flatMap f = A.flatMap f ++ (f y ++ C.flatMap f) := by simp
      rw [e1, e2, layAt_mid (by simp [flatMap_len f esz hf]) (by rw [hf, hf])]
    rw [e]; exact h
  · have e1 : ((A ++ x :: C).flatMap f).length = (A.length + (C.length + 1)) * esz := by rw [flatMap_len f esz hf]; simp
    rw [e1, Nat.add_mul, Nat.add_mul]; omega
variable {G : BtT κ} {c : κ → κ → Int}
theorem wv_nil (its : List G.It) : wv its ([] : List (Kid G)) = its := by cases its <;> rfl
theorem wv_app {d : Nat} {i1 i2 : List G.It} {k1 k2 : List (Kid G)} {x : G.It} (h1 : Fit d i1 k1) (h2 : Fit d i2 k2) : wv (i1 ++ x :: i2) (k1 ++ k2) = wv i1 k1 ++ x :: wv i2 k2 := by
  cases d with
  | zero =>
    have e1 : k1 = [] := h1
    have e2 : k2 = [] := h2
    subst e1; subst e2
    simp only [List.append_nil, wv_nil]
  | succ d =>
    obtain ⟨q1, ps1, rfl, rfl⟩ := zip_ps h1
    obtain ⟨q2, ps2, rfl, rfl⟩ := zip_ps h2
    have e : wv (ps1.map Prod.fst ++ x :: ps2.map Prod.fst) (q1 :: ps1.map Prod.snd ++ q2 :: ps2.map Prod.snd) = psL q1 (ps1 ++ (x, q2) :: ps2) := by
      rw [← wv_ps]; simp
    rw [e, wv_ps, wv_ps]
    simp [psL]
theorem fit_app {d : Nat} {i1 i2 : List G.It} {k1 k2 : List (Kid G)} {x : G.It} (h1 : Fit d i1 k1) (h2 : Fit d i2 k2) : Fit d (i1 ++ x :: i2) (k1 ++ k2) := by
  cases d with
  | zero =>
    have e1 : k1 = [] := h1
    have e2 : k2 = [] := h2
    subst e1; subst e2; rfl
  | succ d =>
    simp only [Fit, List.length_append, List.length_cons] at h1 h2 ⊢
    omega
theorem fit_split {d : Nat} {i1 i2 : List G.It} {ks : List (Kid G)} {x : G.It} (h : Fit d (i1 ++ x :: i2) ks) : ∃ k1 k2, ks = k1 ++ k2 ∧ Fit d i1 k1 ∧ Fit d i2 k2 := by
  cases d with
  | zero => exact ⟨[], [], h, rfl, rfl⟩
  | succ d =>
    simp only [Fit, List.length_append, List.length_cons] at h
    exact ⟨ks.take (i1.length + 1), ks.drop (i1.length + 1), (List.take_append_drop _ _).symm, by simp [Fit]; omega, by simp [Fit]; omega⟩
theorem kids_join {d : Nat} {A C : List (Kid G)} : ∀ w, Holds B (kidsD G d A :: kidsD G d C :: Γ) w ↔ Holds B (kidsD G d (A ++ C) :: Γ) w := fun w => by
  cases d with
  | zero =>
    show Holds B (Sep.stars [] :: Sep.stars [] :: Γ) w ↔ Holds B (Sep.stars [] :: Γ) w
    exact Holds.flat (Δ := [])
  | succ d =>
    show Holds B (kidsR G d A :: kidsR G d C :: Γ) w ↔ Holds B (kidsR G d (A ++ C) :: Γ) w
    constructor
    · intro h
      have h1 := Holds.flat.1 h
      have h2 := Holds.flat.1 (h1.perm (List.perm_middle (a := kidsR G d C) (l₁ := A.map fun q => NodeR G d 2 q.1 q.2) (l₂ := Γ)))
      refine Holds.flat.2 (h2.perm ?_)
      rw [List.map_append, List.append_assoc]
      rw [← List.append_assoc, ← List.append_assoc]
      exact List.perm_append_comm.append_right Γ
    · intro h
      have := s_kids_split (k := fun w => Holds B (kidsR G d A :: kidsR G d C :: Γ) w) (fun w h => h) w h
      exact this
theorem s_join {d : Nat} {A C : List (Kid G)} {k : K} (h : HG B (kidsD G d (A ++ C) :: Γ) k) : HG B (kidsD G d A :: kidsD G d C :: Γ) k := fun w hw => h w ((kids_join w).1 hw)
theorem s_part {d : Nat} {A C : List (Kid G)} {k : K} (h : HG B (kidsD G d A :: kidsD G d C :: Γ) k) : HG B (kidsD G d (A ++ C) :: Γ) k := fun w hw => h w ((kids_join w).2 hw)
end
end Bt
end Go.Sep
/- A B-tree: a kid is filled up from its left, its right, or joined. Holds for every program. -/
namespace Go.Sep
open Go Go.RowKit
set_option linter.unusedSimpArgs false
set_option linter.unusedVariables false
namespace Bt
section
variable {κ : Type} {G : BtD κ} {c : κ → κ → Int} {B : World} {Γ Δ : List HProp}
theorem its_n {s : Sl} {its : List G.It} (h : (its.flatMap G.f).length = s.n * (G.nv + 1)) : s.n = its.length := by
  rw [flatMap_len G.f _ G.f_len] at h
  exact (Nat.eq_of_mul_eq_mul_right (by omega) h).symm
theorem kps_n {s : Sl} {kp : List (Option Addr)} (h : (kp.map Value.pointer).length = s.n * 1) : s.n = kp.length := by rw [kp_len] at h; omega
theorem flat_f (ok : BtOk G.toBtT c) (x : G.It) : (G.f x).all flatV = true := List.all_eq_true.2 (f_flat ok x)
theorem ins_first {its : List G.It} {x : G.It} : (its.flatMap G.f).take (0 * (G.nv + 1)) ++ G.f x ++ (its.flatMap G.f).drop (0 * (G.nv + 1)) = (x :: its).flatMap G.f := by simp
theorem ins_firstK {kp : List (Option Addr)} {x : Option Addr} : (kp.map Value.pointer).take (0 * 1) ++ [Value.pointer x] ++ (kp.map Value.pointer).drop (0 * 1) = (x :: kp).map Value.pointer := by simp
theorem s_shrinkI {s : Sl} {its : List G.It} {m : Nat} {k : K} (hm : m ≤ s.n) (hc : s.n ≤ s.c) (h : HG B (itsR G.toBtT ⟨s.a, m, s.c⟩ (its.take m) :: Δ) k) [p : OwnS s Γ (itsR G.toBtT s its) Δ] : HG B Γ k := by
  refine s_shrink (s := s) (m := m) (c' := s.c) hm (Nat.le_trans hm hc) (Nat.le_refl _) ?_
  rw [flatMap_take G.f_len]
  exact h
theorem s_shrinkK {s : Sl} {kp : List (Option Addr)} {m : Nat} {k : K} (hm : m ≤ s.n) (hc : s.n ≤ s.c) (h : HG B (kpsR G.toBtT ⟨s.a, m, s.c⟩ (kp.take m) :: Δ) k) [p : OwnS s Γ (kpsR G.toBtT s kp) Δ] : HG B Γ k := by
  refine s_shrink (s := s) (m := m) (c' := s.c) hm (Nat.le_trans hm hc) (Nat.le_refl _) ?_
  rw [show (kp.map Value.pointer).take (m * 1) = (kp.take m).map Value.pointer by simp]
  exact h
theorem s_turnL (ok : BtDOk G c) {d n : Nat} {s kd sp kp sq kq : Sl} {A C : List (Kid G.toBtT)} {p q : Kid G.toBtT} {IA IC ip iq : List G.It} {x y : G.It} {cp cq : List (Kid G.toBtT)} {i : Int} {Q : K}
    (hi : i = ((A.length + 1 : Nat) : Int)) (hA : IA.length = A.length) (hl : IA.length + IC.length ≤ 5) (hC : C.length = IC.length) (hp : 2 ≤ ip.length ∧ ip.length ≤ 5) (hq : iq.length ≤ 1) (hfp : Fit d (ip ++ [y]) cp) (hfq : Fit d iq cq)
    (h : ∀ P' Q', P' ++ y :: Q' = wv (ip ++ [y]) cp ++ x :: wv iq cq → ∀ s' kd', HG B (nodeB G.toBtT n s' kd' :: itsR G.toBtT s' (IA ++ y :: IC) :: kpsR G.toBtT kd' ((A ++ p :: q :: C).map ptr) :: NodeR G.toBtT d 2 p.1 P' :: NodeR G.toBtT d 2 q.1 Q' :: Γ) Q) :
    HG B (nodeB G.toBtT n s kd :: itsR G.toBtT s (IA ++ x :: IC) :: kpsR G.toBtT kd ((A ++ p :: q :: C).map ptr) :: rawL G.toBtT d p.1 sp kp (ip ++ [y]) cp (rawL G.toBtT d q.1 sq kq iq cq Γ)) (nmend_s1 G Q ⟨n, 0, none⟩ i ⟨q.1, 0, none⟩ true) := by
  subst hi
  have okT := ok.toBtOk
  obtain ⟨cp', kz, rfl, hf1, hfz⟩ := fit_split (i1 := ip) (i2 := []) hfp
  refine s_cap s fun a1 a2 a3 a4 => ?_
  refine s_cap kd fun b1 b2 b3 b4 => ?_
  refine s_cap sp fun c1 c2 c3 c4 => ?_
  refine s_cap kp fun d1 d2 d3 d4 => ?_
  refine s_cap sq fun e1 e2 e3 e4 => ?_
  refine s_cap kq fun f1 f2 f3 f4 => ?_
  have hsn := its_n a1
  have hkn := kps_n b1
  have hspn := its_n c1
  have hkpn := kps_n d1
  have hsqn := its_n e1
  have hkqn := kps_n f1
  simp only [List.length_append, List.length_cons, List.length_nil, List.length_map] at hsn hkn hspn hkpn hsqn hkqn
  unfold nmend_s1
  refine s_t ?_
  refine s_ld (b := n) (x := kd) ?_
  refine s_ai ?_
  refine s_idx (s := kd) (i := A.length) ?_
  refine s_ldE0 (s := kd) (x := ptr p) (by simp) ?_
  refine s_nn ?_
  refine s_ld (b := p.1) (x := sp) ?_
  refine s_ai ?_
  refine s_dr ?_
  refine s_ws ?_
  refine s_ai ?_
  refine s_ldS (b := q.1) (x := sq) ?_
  refine s_ldS (b := n) (x := s) ?_
  refine s_idx (s := s) (i := A.length) ?_
  refine s_ldElS (s := s) (x := x) G.f_len (by rw [← hA]; simp) ?_
  refine s_bld1 ?_ (by simp [okT.vz.1]) (G.f_len _)
  refine s_new fun t => ?_
  refine s_sv ?_
  obtain ⟨R, rot, hins⟩ := okT.insI
  refine fun w hw => hins _ _ _ _ _ ?_
  refine hg hw ?_
  clear hw w
  refine s_ins (s := sq) (i := 0) (t := t) (by omega) (by omega) (G.f_len _) (by omega) (fl_flat okT _) (f_flat okT _) (fun sq' hsq' => ?_) okT.TI okT.ZI
  rw [ins_first]
  refine s_st (b := q.1) ?_
  refine s_dr ?_
  refine s_ai ?_
  refine s_ld (b := n) (x := s) ?_
  refine s_ld (b := p.1) (x := sp) ?_
  refine s_idx (s := sp) (i := ip.length) ?_
  refine s_ldEl (s := sp) (x := y) G.f_len (by simp) ?_
  refine s_idx (s := s) (i := IA.length) ?_
  refine s_stEl (s := s) (A := IA) (x := x) (y := y) G.f_len (flat_f okT y) ?_
  refine s_ld (b := p.1) (x := sp) ?_
  refine s_slc (lo := 0) (hi := ip.length) (mx := sp.c) ?_
  rw [cut0 c3]
  refine s_st (b := p.1) ?_
  refine s_shrinkI (s := sp) (m := ip.length) (by omega) c2 ?_
  rw [List.take_left]
  refine s_ld (b := p.1) (x := kp) ?_
  have fin : ∀ sp2 kp2 sq2 kq2, HG B (rawL G.toBtT d p.1 sp2 kp2 ip cp' (rawL G.toBtT d q.1 sq2 kq2 (x :: iq) (kz ++ cq) (nodeB G.toBtT n s kd :: itsR G.toBtT s (IA ++ y :: IC) :: kpsR G.toBtT kd ((A ++ p :: q :: C).map ptr) :: Γ))) Q := fun sp2 kp2 sq2 kq2 => by
    refine s_unraw (m := 2) hf1 hp.2 (fun _ => .inr fun h => by rw [h] at hp; simp at hp) ?_
    refine s_end (Δ := rawL G.toBtT d q.1 sq2 kq2 (x :: iq) (kz ++ cq) (NodeR G.toBtT d 2 p.1 (wv ip cp') :: nodeB G.toBtT n s kd :: itsR G.toBtT s (IA ++ y :: IC) :: kpsR G.toBtT kd ((A ++ p :: q :: C).map ptr) :: Γ)) ?_
    refine s_unraw (m := 2) (fit_app (i1 := []) hfz hfq) (by simp; omega) (fun _ => .inr (by simp)) ?_
    refine s_end (h (wv ip cp') (wv (x :: iq) (kz ++ cq)) ?_ s kd)
    rw [wv_app hf1 hfz, show x :: iq = [] ++ x :: iq from rfl, wv_app hfz hfq]
    simp
  cases d with
  | zero =>
    have e1 : cp' = [] := hf1
    have e2 : kz = [] := hfz
    have e3 : cq = [] := hfq
    subst e1; subst e2; subst e3
    refine s_f ?_ (by simp at hkpn; simp [hkpn])
    simp only [List.append_nil] at fin ⊢
    exact s_end (fin ⟨sp.a, ip.length, sp.c⟩ kp sq' kq)
  | succ d =>
    obtain ⟨z, rfl⟩ : ∃ z, kz = [z] := List.length_eq_one_iff.1 hfz
    have hcl : cp'.length = ip.length + 1 := hf1
    have hcql : cq.length = iq.length + 1 := hfq
    simp only [List.length_cons, List.length_nil] at hkpn
    refine s_t ?_ (by simp; omega)
    refine s_dr ?_
    refine s_ws ?_
    refine s_ai ?_
    refine s_ldS (b := q.1) (x := kq) ?_
    refine s_ldS (b := p.1) (x := kp) ?_
    refine s_idx (s := kp) (i := ip.length + 1) ?_
    refine s_ldES1 (s := kp) (c := Value.pointer) (L := (cp' ++ [z]).map ptr) (x := ptr z) (by rw [← hcl]; simp) ?_
    refine s_new fun t2 => ?_
    refine s_sv ?_
    obtain ⟨R2, rot2, hins2⟩ := okT.insK
    refine fun w hw => hins2 _ _ _ _ _ ?_
    refine hg hw ?_
    clear hw w
    refine s_ins (s := kq) (i := 0) (t := t2) (us := [Value.pointer (ptr z)]) (by omega) (by omega) rfl (by omega) (kp_flat _) (by simp [flatV]) (fun kq' hkq' => ?_) okT.TK okT.ZK
    rw [ins_firstK, show ptr z :: cq.map ptr = ([z] ++ cq).map ptr from rfl]
    refine s_st (b := q.1) ?_
    refine s_ld (b := p.1) (x := kp) ?_
    refine s_ai ?_
    refine s_slc (lo := 0) (hi := ip.length + 1) (mx := kp.c) ?_
    rw [cut0 d3]
    refine s_st (b := p.1) ?_
    refine s_shrinkK (s := kp) (m := ip.length + 1) (by omega) d2 ?_
    rw [show ((cp' ++ [z]).map ptr).take (ip.length + 1) = cp'.map ptr by rw [List.map_append]; exact List.take_left' (by simp [hcl])]
    refine s_pick (kidsD G.toBtT (d + 1) (cp' ++ [z])) ?_
    refine s_part ?_
    refine s_end (Δ := kidsD G.toBtT (d + 1) [z] :: kidsD G.toBtT (d + 1) cq :: kidsD G.toBtT (d + 1) cp' :: nodeB G.toBtT p.1 ⟨sp.a, ip.length, sp.c⟩ ⟨kp.a, ip.length + 1, kp.c⟩ :: itsR G.toBtT ⟨sp.a, ip.length, sp.c⟩ ip :: kpsR G.toBtT ⟨kp.a, ip.length + 1, kp.c⟩ (cp'.map ptr) :: nodeB G.toBtT q.1 sq' kq' :: itsR G.toBtT sq' (x :: iq) :: kpsR G.toBtT kq' (([z] ++ cq).map ptr) :: nodeB G.toBtT n s kd :: itsR G.toBtT s (IA ++ y :: IC) :: kpsR G.toBtT kd ((A ++ p :: q :: C).map ptr) :: Γ) ?_
    refine s_join ?_
    exact s_end (fin ⟨sp.a, ip.length, sp.c⟩ ⟨kp.a, ip.length + 1, kp.c⟩ sq' kq')
end
end Bt
end Go.Sep
/- A B-tree: a kid is filled up from its right, or joined. Holds for every program. -/
namespace Go.Sep
open Go Go.RowKit
set_option linter.unusedSimpArgs false
set_option linter.unusedVariables false
namespace Bt
section
variable {κ : Type} {G : BtD κ} {c : κ → κ → Int} {B : World} {Γ Δ : List HProp}
theorem kp_at {L : List (Kid G.toBtT)} {i : Nat} {q : Kid G.toBtT} (h : L[i]? = some q) : ((L.map ptr).map Value.pointer)[i * 1]? = some (Value.pointer (ptr q)) := by simp [h]
theorem at_mid2 {α : Type} {A C : List α} {x y : α} : (A ++ x :: y :: C)[A.length + 1]? = some y := by
  rw [List.getElem?_append_right (by omega), show A.length + 1 - A.length = 1 by omega]; rfl
theorem del_first {x : G.It} {its : List G.It} : ((x :: its).flatMap G.f).take (0 * (G.nv + 1)) ++ ((x :: its).flatMap G.f).drop (1 * (G.nv + 1)) = its.flatMap G.f := by
  rw [flatMap_drop G.f_len]; simp
theorem del_firstK {p : Kid G.toBtT} {kp : List (Kid G.toBtT)} : (((p :: kp).map ptr).map Value.pointer).take (0 * 1) ++ (((p :: kp).map ptr).map Value.pointer).drop (1 * 1) = (kp.map ptr).map Value.pointer := by simp
theorem del_mid {A C : List G.It} {x : G.It} : ((A ++ x :: C).flatMap G.f).take (A.length * (G.nv + 1)) ++ ((A ++ x :: C).flatMap G.f).drop ((A.length + 1) * (G.nv + 1)) = (A ++ C).flatMap G.f := by
  rw [flatMap_take G.f_len, flatMap_drop G.f_len, List.take_left, show A ++ x :: C = (A ++ [x]) ++ C by simp, List.drop_left' (by simp)]; simp
theorem del_midK {A C : List (Kid G.toBtT)} {p q : Kid G.toBtT} : (((A ++ p :: q :: C).map ptr).map Value.pointer).take ((A.length + 1) * 1) ++ (((A ++ p :: q :: C).map ptr).map Value.pointer).drop ((A.length + 2) * 1) = ((A ++ p :: C).map ptr).map Value.pointer := by
  rw [Nat.mul_one, Nat.mul_one, ← List.map_take, ← List.map_take, ← List.map_drop, ← List.map_drop]
  rw [show A ++ p :: q :: C = (A ++ [p]) ++ q :: C by simp, List.take_left' (by simp), show (A ++ [p]) ++ q :: C = (A ++ [p, q]) ++ C by simp, List.drop_left' (by simp)]
  simp

theorem s_turnR (ok : BtDOk G c) {d n : Nat} {s kd sr kr sq kq : Sl} {A C : List (Kid G.toBtT)} {q r : Kid G.toBtT} {IA IC ir iq : List G.It} {x y : G.It} {cr cq : List (Kid G.toBtT)} {i : Int} {Q : K}
    (hi : i = (A.length : Int)) (hA : IA.length = A.length) (hl : IA.length + IC.length ≤ 5) (hC : C.length = IC.length) (hr : 1 ≤ ir.length ∧ ir.length ≤ 5) (hq : iq.length ≤ 1) (hfr : Fit d (y :: ir) cr) (hfq : Fit d iq cq)
    (h : ∀ Q' R', Q' ++ y :: R' = wv iq cq ++ x :: wv (y :: ir) cr → ∀ s' kd', HG B (nodeB G.toBtT n s' kd' :: itsR G.toBtT s' (IA ++ y :: IC) :: kpsR G.toBtT kd' ((A ++ q :: r :: C).map ptr) :: NodeR G.toBtT d 2 q.1 Q' :: NodeR G.toBtT d 2 r.1 R' :: Γ) Q) :
    HG B (nodeB G.toBtT n s kd :: itsR G.toBtT s (IA ++ x :: IC) :: kpsR G.toBtT kd ((A ++ q :: r :: C).map ptr) :: rawL G.toBtT d q.1 sq kq iq cq (rawL G.toBtT d r.1 sr kr (y :: ir) cr Γ)) (nmend_s2 G Q ⟨n, 0, none⟩ i ⟨q.1, 0, none⟩ true) := by
  subst hi
  have okT := ok.toBtOk
  obtain ⟨cz, cr', rfl, hfz, hf2⟩ := fit_split (i1 := []) (x := y) (i2 := ir) hfr
  refine s_cap s fun a1 a2 a3 a4 => ?_
  refine s_cap kd fun b1 b2 b3 b4 => ?_
  refine s_cap sr fun c1 c2 c3 c4 => ?_
  refine s_cap kr fun d1 d2 d3 d4 => ?_
  refine s_cap sq fun e1 e2 e3 e4 => ?_
  refine s_cap kq fun f1 f2 f3 f4 => ?_
  have hsn := its_n a1
  have hkn := kps_n b1
  have hsrn := its_n c1
  have hkrn := kps_n d1
  have hsqn := its_n e1
  have hkqn := kps_n f1
  simp only [List.length_append, List.length_cons, List.length_nil, List.length_map] at hsn hkn hsrn hkrn hsqn hkqn
  unfold nmend_s2
  repeat first | refine s_nx ?_ | refine s_ai ?_
  refine s_idx (s := kd) (i := A.length + 1) ?_
  refine s_ldE0 (s := kd) (x := ptr r) (kp_at at_mid2) ?_
  repeat first | refine s_nx ?_ | refine s_ai ?_
  refine s_idx (s := s) (i := A.length) ?_
  refine s_ldElS (s := s) (x := x) G.f_len (by rw [← hA]; simp) ?_
  refine s_bld1 ?_ (by simp [okT.vz.1]) (G.f_len _)
  refine s_new fun t => ?_
  repeat refine s_nx ?_
  refine s_append (s := sq) (us := G.f x) (blk_rd (G.f_len x)) (f_flat okT x) (by simp only; omega) (hT := okT.TI) fun sq' hsq' => ?_
  rw [show iq.flatMap G.f ++ G.f x = (iq ++ [x]).flatMap G.f by simp]
  repeat refine s_nx ?_
  refine s_nn ?_
  repeat refine s_nx ?_
  refine s_idx (s := sr) (i := 0) ?_
  refine s_ldEl (s := sr) (x := y) G.f_len rfl ?_
  refine s_idx (s := s) (i := IA.length) ?_
  refine s_stEl (s := s) (A := IA) (x := x) (y := y) G.f_len (flat_f okT y) ?_
  repeat refine s_nx ?_
  obtain ⟨Z, hdel⟩ := ok.delI
  refine fun w hw => hdel _ _ _ _ _ ?_
  refine hg hw ?_
  clear hw w
  refine s_del (s := sr) (i := 0) (j := 1) (by omega) (by omega) (by omega) (fl_flat okT _) (fun sr' hsr' => ?_) okT.TI
  rw [del_first]
  repeat refine s_nx ?_
  have fin : ∀ sr2 kr2 sq2 kq2, HG B (rawL G.toBtT d q.1 sq2 kq2 (iq ++ [x]) (cq ++ cz) (rawL G.toBtT d r.1 sr2 kr2 ir cr' (nodeB G.toBtT n s kd :: itsR G.toBtT s (IA ++ y :: IC) :: kpsR G.toBtT kd ((A ++ q :: r :: C).map ptr) :: Γ))) Q := fun sr2 kr2 sq2 kq2 => by
    refine s_unraw (m := 2) (fit_app (i2 := []) hfq hfz) (by simp; omega) (fun _ => .inr (by simp)) ?_
    refine s_pick (kidsD G.toBtT d cr') ?_
    refine s_ownS kr2 ?_
    refine s_ownS sr2 ?_
    refine s_own r.1 ?_
    refine s_unraw (m := 2) hf2 hr.2 (fun _ => .inr fun h => by rw [h] at hr; simp at hr) ?_
    refine s_end (h (wv (iq ++ [x]) (cq ++ cz)) (wv ir cr') ?_ s kd)
    rw [wv_app (i2 := []) hfq hfz, show y :: ir = [] ++ y :: ir from rfl, wv_app hfz hf2]
    simp
  cases d with
  | zero =>
    have e1 : cr' = [] := hf2
    have e2 : cz = [] := hfz
    have e3 : cq = [] := hfq
    subst e1; subst e2; subst e3
    refine s_f ?_ (by simp at hkrn; simp [hkrn])
    simp only [List.append_nil] at fin ⊢
    exact s_end (fin sr' kr sq' kq)
  | succ d =>
    obtain ⟨z, rfl⟩ : ∃ z, cz = [z] := List.length_eq_one_iff.1 hfz
    have hcl : cr'.length = ir.length + 1 := hf2
    have hcql : cq.length = iq.length + 1 := hfq
    simp only [List.length_cons, List.length_nil] at hkrn
    refine s_t ?_ (by simp; omega)
    repeat refine s_nx ?_
    refine s_idx (s := kr) (i := 0) ?_
    refine s_ldES1 (s := kr) (c := Value.pointer) (L := ([z] ++ cr').map ptr) (x := ptr z) (by simp) ?_
    refine s_new fun t2 => ?_
    repeat refine s_nx ?_
    refine s_append (s := kq) (us := [Value.pointer (ptr z)]) (blk_rd rfl) (by simp [flatV]) (by simp only; omega) (hT := okT.TK) fun kq' hkq' => ?_
    rw [show (cq.map ptr).map Value.pointer ++ [Value.pointer (ptr z)] = ((cq ++ [z]).map ptr).map Value.pointer by simp]
    repeat refine s_nx ?_
    obtain ⟨Z2, hdel2⟩ := ok.delK
    refine fun w hw => hdel2 _ _ _ _ _ ?_
    refine hg hw ?_
    clear hw w
    refine s_del (s := kr) (i := 0) (j := 1) (by omega) (by omega) (by omega) (kp_flat _) (fun kr' hkr' => ?_) okT.TK
    rw [show (([z] ++ cr').map ptr) = ((z :: cr').map ptr) from rfl, del_firstK]
    repeat refine s_nx ?_
    refine s_pick (kidsD G.toBtT (d + 1) ([z] ++ cr')) ?_
    refine s_part ?_
    refine s_pick (kidsD G.toBtT (d + 1) [z]) ?_
    refine s_pick (kidsD G.toBtT (d + 1) cq) ?_
    refine s_join ?_
    exact s_end (fin sr' kr' sq' kq')

theorem s_merge (ok : BtDOk G c) {d n : Nat} {s kd sp kp sq kq : Sl} {A C : List (Kid G.toBtT)} {p q : Kid G.toBtT} {IA IC ip iq : List G.It} {x : G.It} {cp cq : List (Kid G.toBtT)} {i : Int} {k4 : Addr} {Q : K}
    (hi : (if (1 : Int) > i then 1 else i) = ((A.length + 1 : Nat) : Int)) (hA : IA.length = A.length) (hl : IA.length + IC.length ≤ 5) (hC : C.length = IC.length) (hp : ip.length + iq.length ≤ 4) (hfp : Fit d ip cp) (hfq : Fit d iq cq)
    (h : ∀ s' kd', HG B (nodeB G.toBtT n s' kd' :: itsR G.toBtT s' (IA ++ IC) :: kpsR G.toBtT kd' ((A ++ p :: C).map ptr) :: NodeR G.toBtT d 2 p.1 (wv ip cp ++ x :: wv iq cq) :: Γ) Q) :
    HG B (nodeB G.toBtT n s kd :: itsR G.toBtT s (IA ++ x :: IC) :: kpsR G.toBtT kd ((A ++ p :: q :: C).map ptr) :: rawL G.toBtT d p.1 sp kp ip cp (rawL G.toBtT d q.1 sq kq iq cq Γ)) (nmend_s2 G Q ⟨n, 0, none⟩ i k4 false) := by
  have okT := ok.toBtOk
  refine s_cap s fun a1 a2 a3 a4 => ?_
  refine s_cap kd fun b1 b2 b3 b4 => ?_
  refine s_cap sp fun c1 c2 c3 c4 => ?_
  refine s_cap kp fun d1 d2 d3 d4 => ?_
  refine s_cap sq fun e1 e2 e3 e4 => ?_
  refine s_cap kq fun f1 f2 f3 f4 => ?_
  have hsn := its_n a1
  have hkn := kps_n b1
  have hspn := its_n c1
  have hkpn := kps_n d1
  have hsqn := its_n e1
  have hkqn := kps_n f1
  simp only [List.length_append, List.length_cons, List.length_nil, List.length_map] at hsn hkn hspn hkpn hsqn hkqn
  have hks : cp.length ≤ 6 ∧ cq.length ≤ 6 := by
    cases d with
    | zero =>
      have e1 : cp = [] := hfp
      have e2 : cq = [] := hfq
      subst e1; subst e2; exact ⟨by simp, by simp⟩
    | succ d =>
      have e1 : cp.length = ip.length + 1 := hfp
      have e2 : cq.length = iq.length + 1 := hfq
      omega
  unfold nmend_s2
  repeat refine s_nx ?_
  refine s_ar hi ?_
  repeat first | refine s_nx ?_ | refine s_ai ?_
  refine s_idx (s := kd) (i := A.length) ?_
  refine s_ldE0 (s := kd) (x := ptr p) (kp_at at_mid) ?_
  repeat refine s_nx ?_
  refine s_idx (s := kd) (i := A.length + 1) ?_
  refine s_ldE0 (s := kd) (x := ptr q) (kp_at at_mid2) ?_
  refine s_dr ?_
  refine s_wsD [nodeB G.toBtT n s kd, itsR G.toBtT s (IA ++ x :: IC), nodeB G.toBtT p.1 sp kp, nodeB G.toBtT q.1 sq kq] ?_
  refine s_nn ?_
  refine s_ai ?_
  refine s_nn ?_
  repeat refine s_nx ?_
  refine s_idx (s := s) (i := A.length) ?_
  refine s_ldElS (s := s) (x := x) G.f_len (by rw [← hA]; simp) ?_
  repeat refine s_nx ?_
  refine s_bld1 ?_ (by simp [okT.vz.1]) (G.f_len _)
  refine s_new fun t => ?_
  repeat refine s_nx ?_
  refine s_append (s := sp) (us := G.f x) (blk_rd (G.f_len x)) (f_flat okT x) (by simp only; omega) (hT := okT.TI) fun sp1 hsp1 => ?_
  rw [show ip.flatMap G.f ++ G.f x = (ip ++ [x]).flatMap G.f by simp]
  repeat refine s_nx ?_
  refine s_append (s := sp1) (us := iq.flatMap G.f) (fun w hw => (own_rd (s := sq) hw).1) (fl_flat okT _) (by simp only at hsp1 ⊢; omega) (hT := okT.TI) fun sp2 hsp2 => ?_
  rw [show (ip ++ [x]).flatMap G.f ++ iq.flatMap G.f = (ip ++ x :: iq).flatMap G.f by simp]
  repeat refine s_nx ?_
  refine s_append (s := kp) (us := (cq.map ptr).map Value.pointer) (fun w hw => (own_rd (s := kq) hw).1) (kp_flat _) (by omega) (hT := okT.TK) fun kp' hkp' => ?_
  rw [← List.map_append, ← List.map_append]
  repeat first | refine s_nx ?_ | refine s_ai ?_
  obtain ⟨Z, hdel⟩ := ok.delI
  refine fun w hw => hdel _ _ _ _ _ ?_
  refine hg hw ?_
  clear hw w
  rw [show ((A.length + 1 : Nat) : Int) - 1 = ((A.length : Nat) : Int) by omega]
  refine s_del (s := s) (i := A.length) (j := A.length + 1) (by omega) (by omega) (by omega) (fl_flat okT _) (fun s' hs' => ?_) okT.TI
  rw [← hA, del_mid, hA]
  repeat first | refine s_nx ?_ | refine s_ai ?_
  obtain ⟨Z2, hdel2⟩ := ok.delK
  refine fun w hw => hdel2 _ _ _ _ _ ?_
  refine hg hw ?_
  clear hw w
  rw [show ((A.length + 1 : Nat) : Int) + 1 = ((A.length + 2 : Nat) : Int) by omega]
  refine s_del (s := kd) (i := A.length + 1) (j := A.length + 2) (by omega) (by omega) (by omega) (kp_flat _) (fun kd' hkd' => ?_) okT.TK
  rw [del_midK]
  repeat refine s_nx ?_
  refine s_pick (kidsD G.toBtT d cq) ?_
  refine s_pick (kidsD G.toBtT d cp) ?_
  refine s_join ?_
  refine s_pick (kidsD G.toBtT d (cp ++ cq)) ?_
  refine s_ownS kp' ?_
  refine s_ownS sp2 ?_
  refine s_own p.1 ?_
  refine s_unraw (m := 2) (fit_app hfp hfq) (by simp; omega) (fun _ => .inr (by simp)) ?_
  rw [wv_app hfp hfq]
  exact s_end (h s' kd')
end
end Bt
end Go.Sep
/- A B-tree: mend. Holds for every program. -/
namespace Go.Sep
open Go Go.RowKit
set_option linter.unusedSimpArgs false
set_option linter.unusedVariables false
namespace Bt
section
variable {κ : Type} {G : BtD κ} {c : κ → κ → Int} {B : World} {Γ Δ : List HProp}
theorem wv_two : ∀ {IA IC : List G.It} {A C : List (Kid G.toBtT)}, IA.length = A.length → C.length = IC.length → ∃ U V : List G.It, (∀ p : Kid G.toBtT, wv (IA ++ IC) (A ++ p :: C) = U ++ p.2 ++ V) ∧ ∀ (p : Kid G.toBtT) (x : G.It) (q : Kid G.toBtT), wv (IA ++ x :: IC) (A ++ p :: q :: C) = U ++ p.2 ++ x :: (q.2 ++ V)
  | [], [], [], C, _, hC => ⟨[], [], fun p => by simp [wv], fun p x q => by simp [wv]⟩
  | [], z :: IC, [], C, _, hC => ⟨[], z :: wv IC C, fun p => by simp [wv], fun p x q => by simp [wv]⟩
  | a :: IA, IC, r :: A, C, hA, hC => by
    obtain ⟨U, V, h1, h2⟩ := wv_two (IA := IA) (IC := IC) (A := A) (C := C) (by simpa using hA) hC
    exact ⟨r.2 ++ a :: U, V, fun p => by simp [wv, h1], fun p x q => by simp [wv, h2]⟩
  | [], _, _ :: _, _, hA, _ => by simp at hA
  | _ :: _, _, [], _, hA, _ => by simp at hA
theorem split_at {α : Type} {L : List α} {a c : Nat} (h : L.length = a + 1 + c) : ∃ A x C, L = A ++ x :: C ∧ A.length = a ∧ C.length = c :=
  ⟨L.take a, L[a], L.drop (a + 1), by rw [← List.drop_eq_getElem_cons, List.take_append_drop], by simp; omega, by simp; omega⟩
theorem s_asm1 {d n : Nat} {s kd : Sl} {its : List G.It} {ks : List (Kid G.toBtT)} {k : K} (hf : ks.length = its.length + 1) (hl : its.length ≤ 5) (h : HG B (NodeR G.toBtT (d + 1) 0 n (wv its ks) :: Γ) k) :
    HG B (nodeB G.toBtT n s kd :: itsR G.toBtT s its :: kpsR G.toBtT kd (ks.map ptr) :: kidsR G.toBtT d ks :: Γ) k := s_unraw (d := d + 1) (m := 0) hf hl (fun h => by omega) h
theorem s_asmK {d n : Nat} {s kd : Sl} {its : List G.It} {A C : List (Kid G.toBtT)} {p : Kid G.toBtT} {P' : List G.It} {k : K} (hf : (A ++ p :: C).length = its.length + 1) (hl : its.length ≤ 5) (h : HG B (NodeR G.toBtT (d + 1) 0 n (wv its (A ++ (p.1, P') :: C)) :: Γ) k) :
    HG B (nodeB G.toBtT n s kd :: itsR G.toBtT s its :: kpsR G.toBtT kd ((A ++ p :: C).map ptr) :: NodeR G.toBtT d 2 p.1 P' :: kidsR G.toBtT d (A ++ C) :: Γ) k := by
  rw [show (A ++ p :: C).map ptr = (A ++ (p.1, P') :: C).map ptr by simp [ptr]]
  refine s_pick (kidsR G.toBtT d (A ++ C)) ?_
  refine s_pick (NodeR G.toBtT d 2 p.1 P') ?_
  refine s_unkid (q := (p.1, P')) ?_
  refine s_pick (kidsR G.toBtT d (A ++ (p.1, P') :: C)) ?_
  refine s_ownS kd ?_
  refine s_ownS s ?_
  refine s_own n ?_
  exact s_asm1 (by simpa using hf) hl h
theorem s_asm2 {d n : Nat} {s kd : Sl} {its : List G.It} {A C : List (Kid G.toBtT)} {p q : Kid G.toBtT} {P' Q' : List G.It} {k : K} (hf : (A ++ p :: q :: C).length = its.length + 1) (hl : its.length ≤ 5) (h : HG B (NodeR G.toBtT (d + 1) 0 n (wv its (A ++ (p.1, P') :: (q.1, Q') :: C)) :: Γ) k) :
    HG B (nodeB G.toBtT n s kd :: itsR G.toBtT s its :: kpsR G.toBtT kd ((A ++ p :: q :: C).map ptr) :: NodeR G.toBtT d 2 p.1 P' :: NodeR G.toBtT d 2 q.1 Q' :: kidsR G.toBtT d (A ++ C) :: Γ) k := by
  rw [show (A ++ p :: q :: C).map ptr = (A ++ p :: (q.1, Q') :: C).map ptr by simp [ptr]]
  refine s_pick (kidsR G.toBtT d (A ++ C)) ?_
  refine s_pick (NodeR G.toBtT d 2 q.1 Q') ?_
  refine s_unkid (q := (q.1, Q')) ?_
  refine s_pick (kidsR G.toBtT d (A ++ (q.1, Q') :: C)) ?_
  refine s_pick (NodeR G.toBtT d 2 p.1 P') ?_
  refine s_ownS kd ?_
  refine s_ownS s ?_
  refine s_own n ?_
  exact s_asmK (by simpa using hf) hl h

theorem mend_spec (ok : BtDOk G c) {d n : Nat} {s kd : Sl} {its : List G.It} {A C : List (Kid G.toBtT)} {q : Kid G.toBtT} {Q : K} (hl : its.length ≤ 5) (hne : its ≠ []) (hf : (A ++ q :: C).length = its.length + 1)
    (h : HG B (NodeR G.toBtT (d + 1) 0 n (wv its (A ++ q :: C)) :: Γ) Q) :
    HG B (nodeB G.toBtT n s kd :: itsR G.toBtT s its :: kpsR G.toBtT kd ((A ++ q :: C).map ptr) :: NodeR G.toBtT d 0 q.1 q.2 :: kidsR G.toBtT d (A ++ C) :: Γ) (G.nmendC (some ⟨n, 0, none⟩) (A.length : Int) Q) := by
  refine fun w hw => ok.mend _ _ _ _ ?_
  refine hg hw ?_
  clear hw w
  have okT := ok.toBtOk
  have hnl : 1 ≤ its.length := List.length_pos_iff.2 hne
  refine s_cap s fun a1 a2 a3 a4 => ?_
  refine s_cap kd fun b1 b2 b3 b4 => ?_
  have hsn := its_n a1
  have hkn := kps_n b1
  have hf' : A.length + (C.length + 1) = its.length + 1 := by simpa using hf
  simp only [List.length_append, List.length_cons, List.length_map] at hkn
  unfold nmend
  repeat refine s_nx ?_
  refine s_idx (s := kd) (i := A.length) ?_
  refine s_ldE0 (s := kd) (x := ptr q) (kp_at at_mid) ?_
  refine s_nn ?_
  refine s_own q.1 ?_
  refine s_raw fun sq kq iq cq hfq hlq _ hqL => ?_
  refine s_cap sq fun e1 e2 e3 e4 => ?_
  have hsqn := its_n e1
  repeat refine s_nx ?_
  refine s_ite (fun hb => ?_) fun hb => ?_
  · have hb' : 2 ≤ iq.length := by simp only [decide_eq_true_eq] at hb; omega
    refine s_unraw (m := 2) hfq hlq (fun _ => .inr fun h => by rw [h] at hb'; simp at hb') ?_
    rw [← hqL]
    refine s_pick (kidsR G.toBtT d (A ++ C)) ?_
    refine s_pick (NodeR G.toBtT d 2 q.1 q.2) ?_
    refine s_ownS kd ?_
    refine s_ownS s ?_
    refine s_own n ?_
    exact s_asmK hf hl h
  have hq1 : iq.length ≤ 1 := by simp only [decide_eq_false_iff_not] at hb; omega
  rcases List.eq_nil_or_concat A with rfl | ⟨A, p, rfl⟩
  · -- no kid on the left
    obtain ⟨r, C, rfl⟩ : ∃ r C', C = r :: C' := by
      cases C with
      | nil => simp only [List.length_nil] at hf'; omega
      | cons r C => exact ⟨r, C, rfl⟩
    simp only [List.length_cons, List.length_nil, List.nil_append] at hf' hkn hf h ⊢
    obtain ⟨IA, x, IC, rfl, hIA, hIC⟩ := split_at (L := its) (a := 0) (c := C.length) (by omega)
    obtain rfl : IA = [] := List.length_eq_zero_iff.1 hIA
    obtain ⟨U, V, hU1, hU2⟩ := wv_two (IA := []) (IC := IC) (A := []) (C := C) rfl hIC.symm
    simp only [List.nil_append] at hU1 hU2 hl hf' h ⊢
    rw [hU2] at h
    simp only [List.length_cons] at hl hf'
    refine s_f ?_
    unfold nmend_s1
    repeat first | refine s_nx ?_ | refine s_ai ?_
    refine s_t ?_ (by simp; omega)
    repeat first | refine s_nx ?_ | refine s_ai ?_
    refine s_idx (s := kd) (i := 1) ?_
    refine s_ldE0 (s := kd) (x := ptr r) (kp_at (at_mid2 (A := []))) ?_
    refine s_nn ?_
    refine s_pick (kidsR G.toBtT d (r :: C)) ?_
    refine s_kid (A := []) ?_
    refine s_raw fun sr kr ir cr hfr hlr hrne hrL => ?_
    refine s_cap sr fun c1 c2 c3 c4 => ?_
    have hsrn := its_n c1
    repeat refine s_nx ?_
    by_cases hb3 : 2 < ir.length
    · rw [show decide ((2 : Int) < (sr.n : Int)) = true by simp; omega]
      obtain ⟨y, ir, rfl⟩ : ∃ y ir', ir = y :: ir' := by
        cases ir with
        | nil => simp at hb3
        | cons y ir => exact ⟨y, ir, rfl⟩
      simp only [List.length_cons] at hb3 hlr
      refine s_pick (kidsD G.toBtT d cr) ?_
      refine s_ownS kr ?_
      refine s_ownS sr ?_
      refine s_own r.1 ?_
      refine s_pick (kidsD G.toBtT d cq) ?_
      refine s_ownS kq ?_
      refine s_ownS sq ?_
      refine s_own q.1 ?_
      refine s_ownS kd ?_
      refine s_ownS s ?_
      refine s_own n ?_
      refine s_turnR ok (A := []) (IA := []) rfl rfl (by simp only [List.length_nil]; omega) hIC.symm (by omega) hq1 hfr hfq fun Q' R' e s' kd' => ?_
      refine s_pick (kidsR G.toBtT d ([] ++ C)) ?_
      refine s_pick (NodeR G.toBtT d 2 r.1 R') ?_
      refine s_pick (NodeR G.toBtT d 2 q.1 Q') ?_
      refine s_ownS kd' ?_
      refine s_ownS s' ?_
      refine s_own n ?_
      refine s_asm2 (A := []) (by simp; omega) (by simp; omega) ?_
      simp only [List.nil_append]
      rw [hU2, show U ++ (q.1, Q').2 ++ y :: ((r.1, R').2 ++ V) = U ++ (Q' ++ y :: R') ++ V by simp, e, ← hqL, ← hrL]
      simpa using h
    · rw [show decide ((2 : Int) < (sr.n : Int)) = false by simp; omega]
      refine s_pick (kidsD G.toBtT d cr) ?_
      refine s_ownS kr ?_
      refine s_ownS sr ?_
      refine s_own r.1 ?_
      refine s_pick (kidsD G.toBtT d cq) ?_
      refine s_ownS kq ?_
      refine s_ownS sq ?_
      refine s_own q.1 ?_
      refine s_ownS kd ?_
      refine s_ownS s ?_
      refine s_own n ?_
      refine s_merge ok (A := []) (IA := []) (by simp) rfl (by simp only [List.length_nil]; omega) hIC.symm (by omega) hfq hfr fun s' kd' => ?_
      refine s_pick (kidsR G.toBtT d ([] ++ C)) ?_
      refine s_pick (NodeR G.toBtT d 2 q.1 (wv iq cq ++ x :: wv ir cr)) ?_
      refine s_ownS kd' ?_
      refine s_ownS s' ?_
      refine s_own n ?_
      refine s_asmK (A := []) (by simp; omega) (by simp; omega) ?_
      simp only [List.nil_append]
      have h2 := hU1 (q.1, wv iq cq ++ x :: wv ir cr)
      rw [h2, ← hqL, ← hrL]
      simpa using h
  · -- a kid on the left
    simp only [List.concat_eq_append, List.append_assoc, List.singleton_append] at hf' hkn hf h ⊢
    have hAl : (A ++ [p]).length = A.length + 1 := by simp
    rw [hAl] at hf' hkn ⊢
    obtain ⟨IA, x, IC, rfl, hIA, hIC⟩ := split_at (L := its) (a := A.length) (c := C.length) (by omega)
    obtain ⟨U, V, hU1, hU2⟩ := wv_two (IA := IA) (IC := IC) (A := A) (C := C) hIA hIC.symm
    have hil : (IA ++ x :: IC).length = IA.length + (IC.length + 1) := by simp
    rw [hU2] at h
    rw [hil] at hl
    refine s_t ?_
    repeat first | refine s_nx ?_ | refine s_ai ?_
    refine s_idx (s := kd) (i := A.length) ?_
    refine s_ldE0 (s := kd) (x := ptr p) (kp_at at_mid) ?_
    refine s_nn ?_
    refine s_pick (kidsR G.toBtT d (A ++ p :: C)) ?_
    refine s_kid ?_
    refine s_raw fun sp kp ip cp hfp hlp hpne hpL => ?_
    refine s_cap sp fun c1 c2 c3 c4 => ?_
    have hspn := its_n c1
    repeat refine s_nx ?_
    by_cases hb3 : 2 < ip.length
    · rw [show decide ((2 : Int) < (sp.n : Int)) = true by simp; omega]
      rcases List.eq_nil_or_concat ip with rfl | ⟨ip, y, rfl⟩
      · simp at hb3
      simp only [List.concat_eq_append] at hb3 hlp hfp hpL ⊢
      have hipl : (ip ++ [y]).length = ip.length + 1 := by simp
      rw [hipl] at hb3 hlp
      refine s_pick (kidsD G.toBtT d cq) ?_
      refine s_ownS kq ?_
      refine s_ownS sq ?_
      refine s_own q.1 ?_
      refine s_pick (kidsD G.toBtT d cp) ?_
      refine s_ownS kp ?_
      refine s_ownS sp ?_
      refine s_own p.1 ?_
      refine s_ownS kd ?_
      refine s_ownS s ?_
      refine s_own n ?_
      refine s_turnL ok (A := A) (by omega) hIA (by omega) hIC.symm (by omega) hq1 hfp hfq fun P' Q' e s' kd' => ?_
      refine s_pick (kidsR G.toBtT d (A ++ C)) ?_
      refine s_pick (NodeR G.toBtT d 2 q.1 Q') ?_
      refine s_pick (NodeR G.toBtT d 2 p.1 P') ?_
      refine s_ownS kd' ?_
      refine s_ownS s' ?_
      refine s_own n ?_
      refine s_asm2 (by simp; omega) (by simp; omega) ?_
      rw [hU2, show U ++ (p.1, P').2 ++ y :: ((q.1, Q').2 ++ V) = U ++ (P' ++ y :: Q') ++ V by simp, e, ← hqL, ← hpL]
      simpa using h
    rw [show decide ((2 : Int) < (sp.n : Int)) = false by simp; omega]
    unfold nmend_s1
    repeat first | refine s_nx ?_ | refine s_ai ?_
    cases C with
    | nil =>
      refine s_f ?_ (by simp only [List.length_nil] at hkn; simp; omega)
      refine s_pick (kidsD G.toBtT d cq) ?_
      refine s_ownS kq ?_
      refine s_ownS sq ?_
      refine s_own q.1 ?_
      refine s_pick (kidsD G.toBtT d cp) ?_
      refine s_ownS kp ?_
      refine s_ownS sp ?_
      refine s_own p.1 ?_
      refine s_ownS kd ?_
      refine s_ownS s ?_
      refine s_own n ?_
      refine s_merge ok (by simp only [gt_iff_lt]; split <;> omega) hIA (by omega) hIC.symm (by omega) hfp hfq fun s' kd' => ?_
      refine s_pick (kidsR G.toBtT d (A ++ [])) ?_
      refine s_pick (NodeR G.toBtT d 2 p.1 (wv ip cp ++ x :: wv iq cq)) ?_
      refine s_ownS kd' ?_
      refine s_ownS s' ?_
      refine s_own n ?_
      refine s_asmK (by simp only [List.length_append, List.length_cons]; omega) (by simp only [List.length_append]; omega) ?_
      rw [hU1, ← hqL, ← hpL]
      simpa using h
    | cons r C =>
      simp only [List.length_cons] at hf' hkn hIC
      obtain ⟨x2, IC, rfl⟩ : ∃ x2 IC', IC = x2 :: IC' := by
        cases IC with
        | nil => simp at hIC
        | cons x2 IC => exact ⟨x2, IC, rfl⟩
      simp only [List.length_cons] at hIC hl
      refine s_t ?_ (by simp; omega)
      repeat first | refine s_nx ?_ | refine s_ai ?_
      refine s_idx (s := kd) (i := A.length + 2) ?_
      refine s_ldE0 (s := kd) (x := ptr r) (kp_at (by rw [show A ++ p :: q :: r :: C = (A ++ [p]) ++ q :: r :: C by simp, show A.length + 2 = (A ++ [p]).length + 1 by simp]; exact at_mid2)) ?_
      refine s_nn ?_
      refine s_pick (kidsR G.toBtT d (A ++ r :: C)) ?_
      refine s_kid ?_
      refine s_raw fun sr kr ir cr hfr hlr hrne hrL => ?_
      refine s_cap sr fun g1 g2 g3 g4 => ?_
      have hsrn := its_n g1
      repeat refine s_nx ?_
      by_cases hb4 : 2 < ir.length
      · rw [show decide ((2 : Int) < (sr.n : Int)) = true by simp; omega]
        obtain ⟨y, ir, rfl⟩ : ∃ y ir', ir = y :: ir' := by
          cases ir with
          | nil => simp at hb4
          | cons y ir => exact ⟨y, ir, rfl⟩
        simp only [List.length_cons] at hb4 hlr
        refine s_pick (kidsD G.toBtT d cp) ?_
        refine s_ownS kp ?_
        refine s_ownS sp ?_
        refine s_own p.1 ?_
        refine s_unraw (m := 2) hfp hlp (fun _ => .inr (hpne rfl)) ?_
        rw [← hpL]
        rw [show A ++ p :: q :: r :: C = (A ++ [p]) ++ q :: r :: C by simp, show IA ++ x :: x2 :: IC = (IA ++ [x]) ++ x2 :: IC by simp]
        refine s_pick (kidsD G.toBtT d cr) ?_
        refine s_ownS kr ?_
        refine s_ownS sr ?_
        refine s_own r.1 ?_
        refine s_pick (kidsD G.toBtT d cq) ?_
        refine s_ownS kq ?_
        refine s_ownS sq ?_
        refine s_own q.1 ?_
        refine s_ownS kd ?_
        refine s_ownS s ?_
        refine s_own n ?_
        refine s_turnR ok (A := A ++ [p]) (IA := IA ++ [x]) (by rw [hAl]) (by simp [hIA]) (by simp; omega) (by omega) (by omega) hq1 hfr hfq fun Q' R' e s' kd' => ?_
        refine s_pick (kidsR G.toBtT d (A ++ C)) ?_
        refine s_pick (NodeR G.toBtT d 2 p.1 p.2) ?_
        refine s_unkid ?_
        rw [show A ++ p :: C = (A ++ [p]) ++ C by simp]
        refine s_pick (kidsR G.toBtT d ((A ++ [p]) ++ C)) ?_
        refine s_pick (NodeR G.toBtT d 2 r.1 R') ?_
        refine s_pick (NodeR G.toBtT d 2 q.1 Q') ?_
        refine s_ownS kd' ?_
        refine s_ownS s' ?_
        refine s_own n ?_
        refine s_asm2 (by simp; omega) (by simp; omega) ?_
        obtain ⟨U', V', hV1, hV2⟩ := wv_two (IA := IA ++ [x]) (IC := IC) (A := A ++ [p]) (C := C) (by simp [hIA]) (by omega)
        have h3 := hV2 q x2 r
        have h4 := hU2 p x q
        rw [show (IA ++ [x]) ++ x2 :: IC = IA ++ x :: x2 :: IC by simp, show (A ++ [p]) ++ q :: r :: C = A ++ p :: q :: r :: C by simp, h4] at h3
        rw [hV2, show U' ++ (q.1, Q').2 ++ y :: ((r.1, R').2 ++ V') = U' ++ (Q' ++ y :: R') ++ V' by simp, e, ← hqL, ← hrL]
        rw [h3] at h
        simpa using h
      · rw [show decide ((2 : Int) < (sr.n : Int)) = false by simp; omega]
        refine s_pick (kidsD G.toBtT d cr) ?_
        refine s_ownS kr ?_
        refine s_ownS sr ?_
        refine s_own r.1 ?_
        refine s_unraw (m := 2) hfr hlr (fun _ => .inr (hrne rfl)) ?_
        rw [← hrL]
        refine s_pick (kidsR G.toBtT d (A ++ C)) ?_
        refine s_pick (NodeR G.toBtT d 2 r.1 r.2) ?_
        refine s_unkid ?_
        refine s_pick (kidsD G.toBtT d cq) ?_
        refine s_ownS kq ?_
        refine s_ownS sq ?_
        refine s_own q.1 ?_
        refine s_pick (kidsD G.toBtT d cp) ?_
        refine s_ownS kp ?_
        refine s_ownS sp ?_
        refine s_own p.1 ?_
        refine s_ownS kd ?_
        refine s_ownS s ?_
        refine s_own n ?_
        refine s_merge ok (by simp only [gt_iff_lt]; split <;> omega) hIA (by simp; omega) (by simp; omega) (by omega) hfp hfq fun s' kd' => ?_
        refine s_pick (kidsR G.toBtT d (A ++ r :: C)) ?_
        refine s_pick (NodeR G.toBtT d 2 p.1 (wv ip cp ++ x :: wv iq cq)) ?_
        refine s_ownS kd' ?_
        refine s_ownS s' ?_
        refine s_own n ?_
        refine s_asmK (by simp only [List.length_append, List.length_cons]; omega) (by simp only [List.length_append, List.length_cons]; omega) ?_
        rw [hU1, ← hqL, ← hpL]
        simpa using h
end
end Bt
end Go.Sep
/- A B-tree: last, take and Delete. Holds for every program. -/
namespace Go.Sep
open Go Go.RowKit
set_option linter.unusedSimpArgs false
set_option linter.unusedVariables false
namespace Bt
section
variable {κ : Type} {G : BtD κ} {c : κ → κ → Int} {B : World} {Γ Δ : List HProp}
theorem wv_end : ∀ {its : List G.It} {A : List (Kid G.toBtT)}, its.length = A.length → ∃ U : List G.It, ∀ p : Kid G.toBtT, wv its (A ++ [p]) = U ++ p.2
  | [], [], _ => ⟨[], fun p => by simp [wv]⟩
  | a :: its, r :: A, h => by
    obtain ⟨U, h1⟩ := wv_end (its := its) (A := A) (by simpa using h)
    exact ⟨r.2 ++ a :: U, fun p => by simp [wv, h1]⟩
  | [], _ :: _, h => by simp at h
  | _ :: _, [], h => by simp at h
theorem nlast_spec (ok : BtDOk G c) : ∀ (d : Nat) {b : Nat} {L : List G.It} {Γ : List HProp} {Q : Array Value → K},
    (∀ L0 x, L = L0 ++ [x] → HG B (NodeR G.toBtT d 0 b L0 :: Γ) (Q (G.f x).toArray)) → HG B (NodeR G.toBtT d 2 b L :: Γ) (G.nlastC (some ⟨b, 0, none⟩) Q) := by
  have okT := ok.toBtOk
  intro d
  induction d with
  | zero =>
    intro b L Γ Q h
    refine fun w hw => ok.last _ _ _ ?_
    refine hg hw ?_
    clear hw w
    refine s_node0 fun s kd hne hl => ?_
    rcases List.eq_nil_or_concat L with rfl | ⟨L0, x, rfl⟩
    · exact absurd rfl (hne rfl)
    simp only [List.concat_eq_append] at h hl ⊢
    have hll : (L0 ++ [x]).length = L0.length + 1 := by simp
    rw [hll] at hl
    refine s_cap s fun a1 a2 a3 a4 => ?_
    refine s_cap kd fun b1 b2 b3 b4 => ?_
    have hsn := its_n a1
    have hkn := kps_n b1
    rw [hll] at hsn
    simp only [List.length_nil] at hkn
    unfold nlast
    refine s_new fun t2 => ?_
    repeat first | refine s_nx ?_ | refine s_ai ?_
    refine s_f ?_ (by simp; omega)
    repeat first | refine s_nx ?_ | refine s_ai ?_
    refine s_idx (s := s) (i := L0.length) ?_
    refine s_ldElS (s := s) (x := x) G.f_len (by simp) ?_
    refine s_new fun x5 => ?_
    repeat refine s_nx ?_
    refine s_stN (b := x5) ?_ (by simp [okT.vz.1]) (G.f_len x) (flat_f okT x)
    repeat first | refine s_nx ?_ | refine s_ai ?_
    refine s_slc (lo := 0) (hi := L0.length) (mx := s.c) ?_
    rw [cut0 a3]
    repeat refine s_nx ?_
    refine s_shrinkI (s := s) (m := L0.length) (by omega) a2 ?_
    rw [List.take_left]
    refine s_ldN (b := x5) (l' := G.f x) ?_ (List.take_of_length_le (by simp [G.f_len])) (G.f_len _)
    refine s_stN (b := t2) ?_ (by simp [okT.vz.1]) (G.f_len x) (flat_f okT x)
    refine s_ldN (b := t2) (l' := G.f x) ?_ (List.take_of_length_le (by simp [G.f_len])) (G.f_len _)
    refine s_ownS kd ?_
    refine s_ownS ⟨s.a, L0.length, s.c⟩ ?_
    refine s_own b ?_
    refine s_mk0 (m := 0) (by simp) (by omega) ?_
    exact s_end (h L0 x rfl)
  | succ d ih =>
    intro b L Γ Q h
    refine fun w hw => ok.last _ _ _ ?_
    refine hg hw ?_
    clear hw w
    refine s_raw fun s kd its ks hf hl hne hL => ?_
    subst hL
    have hf' : ks.length = its.length + 1 := hf
    rcases List.eq_nil_or_concat ks with rfl | ⟨A, q, rfl⟩
    · simp at hf'
    simp only [List.concat_eq_append] at h hf hf' ⊢
    have hkl : (A ++ [q]).length = A.length + 1 := by simp
    rw [hkl] at hf'
    refine s_pick (kidsD G.toBtT (d + 1) (A ++ [q])) ?_
    refine s_conv (A' := kidsR G.toBtT d (A ++ [q])) (fun _ h => h) ?_
    refine s_kid (A := A) (C := []) ?_
    refine s_cap s fun a1 a2 a3 a4 => ?_
    refine s_cap kd fun b1 b2 b3 b4 => ?_
    have hsn := its_n a1
    have hkn := kps_n b1
    rw [List.length_map, hkl] at hkn
    unfold nlast
    refine s_new fun t2 => ?_
    repeat first | refine s_nx ?_ | refine s_ai ?_
    rw [show ((kd.n : Nat) : Int) - 1 = ((A.length : Nat) : Int) by omega]
    refine s_t ?_ (by simp)
    repeat refine s_nx ?_
    refine s_idx (s := kd) (i := A.length) ?_
    refine s_ldE0 (s := kd) (x := ptr q) (kp_at at_mid) ?_
    refine s_pick (NodeR G.toBtT d 2 q.1 q.2) ?_
    refine ih (b := q.1) (L := q.2) fun L0 x e => ?_
    refine s_new fun x4 => ?_
    refine s_stN (b := x4) ?_ (by simp [okT.vz.1]) (G.f_len x) (flat_f okT x)
    rw [show (A ++ [q]).map ptr = (A ++ [(q.1, L0)]).map ptr by simp [ptr]]
    refine s_pick (kidsR G.toBtT d (A ++ [])) ?_
    refine s_pick (NodeR G.toBtT d 0 q.1 L0) ?_
    refine s_ownS kd ?_
    refine s_ownS s ?_
    refine s_own b ?_
    refine mend_spec ok (q := (q.1, L0)) (C := []) hl (hne rfl) (by simp; omega) ?_
    refine s_ldN (b := x4) (l' := G.f x) ?_ (List.take_of_length_le (by simp [G.f_len])) (G.f_len _)
    refine s_stN (b := t2) ?_ (by simp [okT.vz.1]) (G.f_len x) (flat_f okT x)
    refine s_ldN (b := t2) (l' := G.f x) ?_ (List.take_of_length_le (by simp [G.f_len])) (G.f_len _)
    refine s_end (h (wv its (A ++ [(q.1, L0)])) x ?_)
    obtain ⟨U, hU⟩ := wv_end (its := its) (A := A) (by omega)
    rw [hU, hU, e, List.append_assoc]

/-! ### take -/
def DelR (c : κ → κ → Int) {ν : Type} (z : ν) (L : List (κ × ν)) (k : κ) (L' : List (κ × ν)) (old : ν) (had : Bool) : Prop :=
  (∃ A C, L = A ++ (k, old) :: C ∧ L' = A ++ C ∧ had = true) ∨ ((∃ A C, L = A ++ C ∧ (∀ x ∈ A, c x.1 k < 0) ∧ (∀ x ∈ C, c k x.1 < 0)) ∧ L' = L ∧ old = z ∧ had = false)
theorem DelR.mid {ν : Type} {z old : ν} {A C L L' : List (κ × ν)} {k : κ} {had : Bool} (hA : ∀ x ∈ A, c x.1 k < 0) (hC : ∀ x ∈ C, c k x.1 < 0) (h : DelR c z L k L' old had) : DelR c z (A ++ L ++ C) k (A ++ L' ++ C) old had := by
  rcases h with ⟨A', C', rfl, rfl, rfl⟩ | ⟨⟨A', C', rfl, h1, h2⟩, rfl, rfl, rfl⟩
  · exact .inl ⟨A ++ A', C' ++ C, by simp, by simp, rfl⟩
  · refine .inr ⟨⟨A ++ A', C' ++ C, by simp, fun x hx => ?_, fun x hx => ?_⟩, rfl, rfl, rfl⟩
    · rcases List.mem_append.1 hx with hx | hx
      · exact hA x hx
      · exact h1 x hx
    · rcases List.mem_append.1 hx with hx | hx
      · exact h2 x hx
      · exact hC x hx
theorem DelR.srt {ν : Type} {z old : ν} {L L' : List (κ × ν)} {k : κ} {had : Bool} (h : DelR c z L k L' old had) (hs : Srt c L) : Srt c L' := by
  rcases h with ⟨A', C', rfl, rfl, rfl⟩ | ⟨_, rfl, rfl, rfl⟩
  · exact hs.sub ((List.Sublist.refl A').append (List.sublist_cons_self _ _))
  · exact hs
theorem DelR.len {ν : Type} {z old : ν} {L L' : List (κ × ν)} {k : κ} {had : Bool} (h : DelR c z L k L' old had) : L.length = L'.length + (if had then 1 else 0) := by
  rcases h with ⟨A', C', rfl, rfl, rfl⟩ | ⟨_, rfl, rfl, rfl⟩
  · simp; omega
  · simp
theorem ntake_spec (ok : BtDOk G c) : ∀ (d : Nat) {m b : Nat} {M : List G.It} {k : κ} {Γ : List HProp} {Q : Array Value → Bool → K}, 1 ≤ m → Srt c M →
    (∀ M' old had, DelR c (G.z0 ok.vz) M k M' old had → HG B (NodeR G.toBtT d 0 b M' :: Γ) (Q old.1.toArray had)) →
    HG B (NodeR G.toBtT d m b M :: Γ) (G.ntakeC (some ⟨b, 0, none⟩) k Q) := by
  have okT := ok.toBtOk
  intro d
  induction d with
  | zero =>
    intro m b M k Γ Q hm hs h
    refine fun w hw => ok.take _ _ _ _ ?_
    refine hg hw ?_
    clear hw w
    refine s_node0 fun s kd _ hl => ?_
    refine s_cap s fun a1 a2 a3 a4 => ?_
    refine s_cap kd fun b1 b2 b3 b4 => ?_
    have hsn := its_n a1
    have hkn := kps_n b1
    simp only [List.length_nil] at hkn
    unfold ntake
    refine s_new fun v4 => ?_
    refine s_search okT (s := s) (kd := kd) hs (by omega) (fun A v0 C e => ?_) fun A C e hA hC => ?_
    · subst e
      have hlen : (A ++ (k, v0) :: C).length = A.length + (C.length + 1) := List.length_append
      repeat refine s_nx ?_
      rw [show decide ((kd.n : Int) = 0) = true by simp; omega]
      unfold ntake_s2
      repeat refine s_nx ?_
      refine s_idx (s := s) (i := A.length) ?_
      refine s_ldEN (s := s) (l' := v0.1) drop_val v0.2.1 ?_
      refine s_stN (b := v4) ?_ okT.vz.1 v0.2.1 v0.2.2
      repeat first | refine s_nx ?_ | refine s_ai ?_
      obtain ⟨Z, hdel⟩ := ok.delI
      refine fun w hw => hdel _ _ _ _ _ ?_
      refine hg hw ?_
      clear hw w
      rw [show ((A.length : Nat) : Int) + 1 = ((A.length + 1 : Nat) : Int) by omega]
      refine s_del (s := s) (i := A.length) (j := A.length + 1) (by omega) (by omega) (by omega) (fl_flat okT _) (fun s' hs' => ?_) okT.TI
      rw [del_mid]
      repeat refine s_nx ?_
      refine s_ret3 (v := v0) ?_
      refine s_ownS kd ?_
      refine s_ownS s' ?_
      refine s_own b ?_
      refine s_mk0 (m := 0) (by simp) (by simp; omega) ?_
      exact s_end (h _ _ _ (.inl ⟨A, C, rfl, rfl, rfl⟩))
    · subst e
      repeat refine s_nx ?_
      unfold ntake_s2
      repeat refine s_nx ?_
      refine s_f ?_ (by simp; omega)
      unfold ntake_s1
      refine s_ret3 (v := G.z0 okT.vz) ?_
      refine s_ownS kd ?_
      refine s_ownS s ?_
      refine s_own b ?_
      refine s_mk0 (m := 0) (by simp) hl ?_
      exact s_end (h _ _ _ (.inr ⟨⟨A, C, rfl, hA, hC⟩, rfl, rfl, rfl⟩))
  | succ d ih =>
    intro m b M k Γ Q hm hs h
    refine fun w hw => ok.take _ _ _ _ ?_
    refine hg hw ?_
    clear hw w
    refine s_nodeS fun s kd q0 ps hne hl hM => ?_
    subst hM
    have hne := hne hm
    refine s_cap s fun a1 a2 a3 a4 => ?_
    refine s_cap kd fun b1 b2 b3 b4 => ?_
    have hsn := its_n a1
    have hkn := kps_n b1
    simp only [List.length_map, List.length_cons] at hsn hkn
    unfold ntake
    refine s_new fun v4 => ?_
    refine s_search okT (s := s) (kd := kd) (hs.sub (its_sub q0 ps)) (by simp; omega) (fun A v0 C e => ?_) fun A C e hA hC => ?_
    · obtain ⟨l, q, r, hA, hC, hK, hL, hlen⟩ := zip_of (q0 := q0) e
      rw [e, hK]
      rw [hL] at hs h
      obtain ⟨⟨xx, q1⟩, r, rfl, hxx, hC'⟩ := List.map_eq_cons_iff.1 hC.symm
      simp only at hxx
      subst hxx
      subst hA
      subst hC'
      simp only [List.length_cons] at hlen
      have hll : (l.map Prod.snd).length = l.length := by simp
      have hlf : (l.map Prod.fst).length = l.length := by simp
      repeat refine s_nx ?_
      rw [show decide ((kd.n : Int) = 0) = false by simp; omega]
      unfold ntake_s2
      repeat refine s_nx ?_
      refine s_idx (s := s) (i := (l.map Prod.snd).length) ?_
      refine s_ldEN (s := s) (l' := v0.1) drop_val v0.2.1 ?_
      refine s_stN (b := v4) ?_ okT.vz.1 v0.2.1 v0.2.2
      refine s_dr ?_
      refine s_wsD [nodeB G.toBtT b s kd, itsR G.toBtT s (l.map Prod.snd ++ (k, v0) :: r.map Prod.fst), kpsR G.toBtT kd ((l.map Prod.fst ++ q :: (((k, v0), q1) :: r).map Prod.snd).map ptr)] ?_
      repeat refine s_nx ?_
      refine s_idx (s := kd) (i := (l.map Prod.fst).length) ?_ (by omega)
      refine s_ldES1 (s := kd) (c := Value.pointer) (L := (l.map Prod.fst ++ q :: (((k, v0), q1) :: r).map Prod.snd).map ptr) (x := ptr q) (by simp) ?_
      refine s_pick (kidsR G.toBtT d (l.map Prod.fst ++ q :: (((k, v0), q1) :: r).map Prod.snd)) ?_
      refine s_kid ?_
      refine nlast_spec ok d (b := q.1) (L := q.2) fun L0 x e2 => ?_
      repeat refine s_nx ?_
      refine s_idx (s := s) (i := (l.map Prod.snd).length) ?_
      refine s_stEl (s := s) (A := l.map Prod.snd) (x := (k, v0)) (y := x) G.f_len (flat_f okT x) ?_
      rw [show (l.map Prod.fst ++ q :: (((k, v0), q1) :: r).map Prod.snd).map ptr = (l.map Prod.fst ++ (q.1, L0) :: (((k, v0), q1) :: r).map Prod.snd).map ptr by simp [ptr]]
      rw [show ((l.map Prod.snd).length : Int) = ((l.map Prod.fst).length : Int) by rw [hll, hlf]]
      refine s_pick (kidsR G.toBtT d (l.map Prod.fst ++ (((k, v0), q1) :: r).map Prod.snd)) ?_
      refine s_pick (NodeR G.toBtT d 0 q.1 L0) ?_
      refine s_ownS kd ?_
      refine s_ownS s ?_
      refine s_own b ?_
      refine mend_spec ok (q := (q.1, L0)) (by simp; omega) (by simp) (by simp; omega) ?_
      refine s_ret3 (v := v0) ?_
      refine s_end (h (wv (l.map Prod.snd ++ x :: r.map Prod.fst) (l.map Prod.fst ++ (q.1, L0) :: (((k, v0), q1) :: r).map Prod.snd)) v0 true (.inl ⟨preL l ++ q.2, q1.2 ++ postL r, ?_, ?_, rfl⟩))
      · simp [postL]
      · obtain ⟨q0', ps', e3, e4, e5, e6⟩ := zback l (q.1, L0) ((x, q1) :: r)
        rw [show l.map Prod.snd ++ x :: r.map Prod.fst = ps'.map Prod.fst from e4.symm, show l.map Prod.fst ++ (q.1, L0) :: (((k, v0), q1) :: r).map Prod.snd = q0' :: ps'.map Prod.snd from e5.symm, wv_ps, e6, e2]
        simp [postL]
    · obtain ⟨l, q, r, rfl, rfl, hK, hL, hlen⟩ := zip_of (q0 := q0) e
      rw [e, hK]
      rw [hL] at hs h
      have hll : (l.map Prod.snd).length = l.length := by simp
      have hlf : (l.map Prod.fst).length = l.length := by simp
      have hs1 := List.pairwise_append.1 hs
      have hs2 := List.pairwise_append.1 hs1.1
      have hpre := pre_lt okT l hs2.1 hA
      have hpost := post_gt okT r hs1.2.1 hC
      repeat refine s_nx ?_
      unfold ntake_s2
      repeat refine s_nx ?_
      refine s_t ?_ (by simp; omega)
      repeat refine s_nx ?_
      refine s_idx (s := kd) (i := (l.map Prod.fst).length) ?_ (by omega)
      refine s_ldE0 (s := kd) (x := ptr q) (kp_at at_mid) ?_
      refine s_pick (kidsR G.toBtT d (l.map Prod.fst ++ q :: r.map Prod.snd)) ?_
      refine s_kid ?_
      refine ih (m := 2) (b := q.1) (M := q.2) (by omega) hs2.2.1 fun M' old had hp => ?_
      refine s_stN (b := v4) ?_ okT.vz.1 old.2.1 old.2.2
      rw [show (l.map Prod.fst ++ q :: r.map Prod.snd).map ptr = (l.map Prod.fst ++ (q.1, M') :: r.map Prod.snd).map ptr by simp [ptr]]
      rw [show ((l.map Prod.snd).length : Int) = ((l.map Prod.fst).length : Int) by rw [hll, hlf]]
      refine s_pick (kidsR G.toBtT d (l.map Prod.fst ++ r.map Prod.snd)) ?_
      refine s_pick (NodeR G.toBtT d 0 q.1 M') ?_
      refine s_ownS kd ?_
      refine s_ownS s ?_
      refine s_own b ?_
      refine mend_spec ok (q := (q.1, M')) (by simp; omega) (fun h0 => hne ?_) (by simp; omega) ?_
      · have := congrArg List.length h0
        simp only [List.length_append, List.length_map, List.length_nil] at this
        exact List.length_eq_zero_iff.1 (by omega)
      unfold ntake_s1
      refine s_ret3 (v := old) ?_
      obtain ⟨q0', ps', e3, e4, e5, e6⟩ := zback l (q.1, M') r
      rw [← e4, ← e5, wv_ps, e6]
      exact s_end (h _ _ _ (hp.mid hpre hpost))

theorem s_tdel1 (ok : BtDOk G c) {t v4 d b : Nat} {L L' : List G.It} {k : κ} {old : Cel G.nv} {had : Bool} {Q : Array Value → Bool → K} (hs : Srt c L) (hL : L.length < 1000000000) (hp : DelR c (G.z0 ok.vz) L k L' old had) (h : HG B (TreeR G.toBtT c t L' :: Γ) (Q old.1.toArray had)) :
    HG B (valB G.toBtT v4 old :: blk t (.cells [.pointer (some ⟨b, 0, none⟩), .int .i64 L.length].toArray G.tT (0, 0)) :: NodeR G.toBtT d 1 b L' :: Γ) (tdel_s1 G Q ⟨t, 0, none⟩ ⟨v4, 0, none⟩ had) := by
  have hlen := hp.len
  unfold tdel_s1
  refine s_ite (fun hb => ?_) fun hb => ?_
  · rw [hb, if_pos rfl] at hlen
    repeat first | refine s_nx ?_ | refine s_ai ?_
    unfold tdel_s2
    rw [show ((L.length : Nat) : Int) - 1 = ((L'.length : Nat) : Int) by omega]
    refine s_ret3 (v := old) ?_
    refine s_own b ?_
    refine s_own t ?_
    exact s_mkTree (hp.srt hs) (s_end h)
  · rw [hb, if_neg (by simp)] at hlen
    unfold tdel_s2
    rw [show ((L.length : Nat) : Int) = ((L'.length : Nat) : Int) by omega]
    refine s_ret3 (v := old) ?_
    refine s_own b ?_
    refine s_own t ?_
    exact s_mkTree (hp.srt hs) (s_end h)
/-- Delete. -/
theorem tdel_spec (ok : BtDOk G c) {t : Nat} {L : List G.It} {k : κ} {Q : Array Value → Bool → K} (hL : L.length < 1000000000) (h : ∀ L' old had, DelR c (G.z0 ok.vz) L k L' old had → HG B (TreeR G.toBtT c t L' :: Γ) (Q old.1.toArray had)) :
    HG B (TreeR G.toBtT c t L :: Γ) (tdel G (some ⟨t, 0, none⟩) k Q) := by
  have okT := ok.toBtOk
  refine s_tree fun d b hs => ?_
  unfold tdel
  refine s_new fun v4 => ?_
  repeat refine s_nx ?_
  refine s_pick (NodeR G.toBtT d 1 b L) ?_
  refine ntake_spec ok d (m := 1) (Nat.le_refl _) hs fun M' old had hp => ?_
  have h := h M' old had hp
  refine s_stN (b := v4) ?_ okT.vz.1 old.2.1 old.2.2
  repeat refine s_nx ?_
  refine s_own b ?_
  refine s_raw fun s kd its ks hf hl _ hM => ?_
  refine s_cap s fun a1 a2 a3 a4 => ?_
  refine s_cap kd fun b1 b2 b3 b4 => ?_
  have hsn := its_n a1
  have hkn := kps_n b1
  rw [List.length_map] at hkn
  repeat refine s_nx ?_
  have back : ((d = 0 ∧ 1 = 1) ∨ its ≠ []) → HG B (rawL G.toBtT d b s kd its ks (valB G.toBtT v4 old :: blk t (.cells [.pointer (some ⟨b, 0, none⟩), .int .i64 L.length].toArray G.tT (0, 0)) :: Γ)) (tdel_s3 G Q ⟨t, 0, none⟩ ⟨v4, 0, none⟩ had false) := fun hb => by
    refine s_unraw (m := 1) hf hl (fun _ => hb) ?_
    rw [← hM]
    unfold tdel_s3
    repeat refine s_nx ?_
    refine s_own b ?_
    refine s_own t ?_
    refine s_pick (valB G.toBtT v4 old) ?_
    exact s_tdel1 ok hs hL hp h
  refine s_ite (fun hb => ?_) fun hb => ?_
  · have hn : its = [] := List.length_eq_zero_iff.1 (by simp only [decide_eq_true_eq] at hb; omega)
    subst hn
    repeat refine s_nx ?_
    cases d with
    | zero =>
      have hk : ks = [] := hf
      subst hk
      rw [show decide ((kd.n : Int) = 1) = false by simp only [List.length_nil] at hkn; simp; omega]
      exact s_end (back (.inl ⟨rfl, rfl⟩))
    | succ d =>
      obtain ⟨q, rfl⟩ : ∃ q, ks = [q] := List.length_eq_one_iff.1 hf
      simp only [List.length_cons, List.length_nil] at hkn
      rw [show decide ((kd.n : Int) = 1) = true by simp; omega]
      unfold tdel_s3
      repeat refine s_nx ?_
      refine s_idx (s := kd) (i := 0) ?_
      refine s_ldE0 (s := kd) (x := ptr q) (by simp) ?_
      refine s_st (b := t) (v := .pointer (some ⟨q.1, 0, none⟩)) ?_
      refine s_pick (kidsD G.toBtT (d + 1) [q]) ?_
      refine s_conv (A' := kidsR G.toBtT d [q]) (fun _ h => h) ?_
      refine s_kid (A := []) (C := []) (q := q) ?_
      refine s_conv (NodeR.weak (m' := 1) (by simp) (by simp)) ?_
      have e : q.2 = M' := hM.symm
      rw [e]
      refine s_pick (NodeR G.toBtT d 1 q.1 M') ?_
      refine s_own t ?_
      refine s_pick (valB G.toBtT v4 old) ?_
      refine s_tdel1 ok hs hL hp ?_
      exact s_end h
  · have hn : its ≠ [] := fun h0 => by
      rw [h0, List.length_nil] at hsn
      simp only [decide_eq_false_iff_not] at hb; omega
    exact s_end (back (.inr hn))
end
end Bt
end Go.Sep
/- The store: values that come and go. -/
namespace Go.Proofs.YtihncgfghpbhdaaGreat
open Go Go.Sep Go.Sep.Bt
set_option linter.unusedSimpArgs false
set_option linter.unusedVariables false
set_option maxRecDepth 100000

noncomputable def btSD : BtD ByteArray where
  toBtT := btS
  delIC := slices_Delete_s_btree_item_string_api_Record_btree_item_string_api_Record.call
  delKC := slices_Delete_s_btree_node_string_api_Record_btree_node_string_api_Record.call
  ntakeC := btree_node_string_api_Record_take.call
  nlastC := btree_node_string_api_Record_last.call
  nmendC := btree_node_string_api_Record_mend.call
theorem btSD_ok : BtDOk btSD cmpS where
  toBtOk := btS_ok
  delI := ⟨_, fun s i j Q w h => slices_Delete_s_btree_item_string_api_Record_btree_item_string_api_Record_ok _ _ _ _ _ h⟩
  delK := ⟨_, fun s i j Q w h => slices_Delete_s_btree_node_string_api_Record_btree_node_string_api_Record_ok _ _ _ _ _ h⟩
  take := fun n k Q w h => btree_node_string_api_Record_take_ok _ _ _ _ h
  last := fun n Q w h => btree_node_string_api_Record_last_ok _ _ _ h
  mend := fun n i Q w h => btree_node_string_api_Record_mend_ok _ _ _ _ h

def delM (M : Recs) (k : ByteArray) : Recs := M.filter fun x => !decide (x.1 = k)
def setM (M : Recs) (k : ByteArray) (r : Rec) : Recs := if r.has = false ∧ r.cnt = 0 then delM M k else putM M k r
theorem getM_del (M : Recs) (k k' : ByteArray) : getM (delM M k) k' = if k' = k then none else getM M k' := by
  unfold getM delM
  rw [List.find?_filter]
  split
  · rename_i h
    subst h
    rw [List.find?_eq_none.2 (fun x _ => by simp)]; rfl
  · rename_i h
    congr 2
    funext x
    by_cases h2 : x.1 = k
    · simp [h2, Ne.symm h]
    · by_cases h3 : x.1 = k' <;> simp [h2, h3, h]
theorem sGet_set (n : Nat) (M : Recs) (k k' : ByteArray) (r : Rec) : sGet n (setM M k r) k' = if k' = k then (if r.has = false ∧ r.cnt = 0 then ⟨false, [], homeOf k.toList n, 0⟩ else r) else sGet n M k' := by
  unfold setM
  split
  · unfold sGet
    rw [getM_del]
    split
    · rename_i h; rw [h]; rfl
    · rfl
  · rw [sGet_put]
theorem delM_none {M : Recs} {k : ByteArray} (h : ∀ x ∈ M, x.1 ≠ k) : delM M k = M := List.filter_eq_self.2 fun x hx => by simpa using h x hx
theorem delM_mid {A C : Recs} {k : ByteArray} {r : Rec} (hA : ∀ x ∈ A, x.1 ≠ k) (hC : ∀ x ∈ C, x.1 ≠ k) : delM (A ++ (k, r) :: C) k = A ++ C := by
  unfold delM
  rw [List.filter_append, List.filter_cons_of_neg (by simp)]
  exact congr (congrArg _ (delM_none hA)) (delM_none hC)
theorem setM_len (M : Recs) (k : ByteArray) (r : Rec) : (setM M k r).length ≤ M.length + 1 := by
  unfold setM
  split
  · have := List.length_filter_le (fun x => !decide (x.1 = k)) M
    unfold delM; omega
  · exact putM_len _ _ _
section
variable {B : World} {Γ Δ : List HProp}
theorem btDel_spec {t : Nat} {L : List btS.It} {k : ByteArray} {Q : Array Value → Bool → K} (hL : L.length < 1000000000) (h : ∀ L' old had, DelR cmpS (btS.z0 btS_ok.vz) L k L' old had → HG B (TreeR btS cmpS t L' :: Γ) (Q old.1.toArray had)) :
    HG B (TreeR btS cmpS t L :: Γ) (btree_Tree_string_api_Record_Delete.call (some ⟨t, 0, none⟩) k Q) := fun w hw =>
  btree_Tree_string_api_Record_Delete_ok _ _ _ _ (show tdel btSD (some ⟨t, 0, none⟩) k Q w from hg hw (tdel_spec btSD_ok hL h))
theorem gt_of_srt {X Y : List RecX} {k : ByteArray} {r : Rec × Sl} (h : Srt cmpS ((X ++ (k, r) :: Y).map recI)) : ∀ x ∈ Y, cmpS k x.1 < 0 := fun x hx => by
  rw [List.map_append, List.map_cons] at h
  exact (List.pairwise_cons.1 (List.pairwise_append.1 h).2.1).1 (recI x) (List.mem_map.2 ⟨x, hx, rfl⟩)
/-- A key goes. -/
theorem storeDel_hg {st t n : Nat} {X : List RecX} {k : ByteArray} {q : Array Value → Bool → K} (hok : ∀ x ∈ X.map recM, x.2.ok) (h1 : 1 ≤ n) (h3 : n ≤ 3) (hL : X.length < 1000000000)
    (h : ∀ a b, HG B (StoreR st n (delM (X.map recM) k) :: Γ) (q a b)) :
    HG B (blk st (.cells [.int .i64 n, .pointer (some ⟨t, 0, none⟩)].toArray ty_store_Store (0, 0)) :: TreeR btS cmpS t (X.map recI) :: Sep.stars (X.map recB) :: Γ) (btree_Tree_string_api_Record_Delete.call (some ⟨t, 0, none⟩) k q) := by
  refine s_own t ?_
  refine tree_srt fun hs => ?_
  refine btDel_spec (by simpa using hL) fun L' old had hp => ?_
  rcases hp with ⟨A, C, e, rfl, rfl⟩ | ⟨⟨A, C, e, hA, hC⟩, rfl, rfl, rfl⟩
  · obtain ⟨XA, r0, XC, rfl, rfl, rfl, rfl⟩ := split_rec e
    have e2 : delM ((XA ++ (k, r0) :: XC).map recM) k = (XA ++ XC).map recM := by
      rw [List.map_append, List.map_cons, List.map_append]
      refine delM_mid (fun x hx => ?_) fun x hx => ?_
      · obtain ⟨y, hy, rfl⟩ := List.mem_map.1 hx
        exact ne_of_lt (lt_of_srt hs y hy)
      · obtain ⟨y, hy, rfl⟩ := List.mem_map.1 hx
        exact Ne.symm (ne_of_lt (gt_of_srt hs y hy))
    rw [e2] at h
    refine s_pick (Sep.stars ((XA ++ (k, r0) :: XC).map recB)) ?_
    refine s_mid ?_
    rw [show XA.map recI ++ XC.map recI = (XA ++ XC).map recI by simp]
    refine s_pick (Sep.stars ((XA ++ XC).map recB)) ?_
    refine s_own t ?_
    refine s_own st ?_
    refine s_mkStore (fun x hx => hok x ?_) h1 h3 (s_end (h _ _))
    rw [List.map_append] at hx ⊢
    rcases List.mem_append.1 hx with hx | hx
    · exact List.mem_append_left _ hx
    · exact List.mem_append_right _ (List.mem_cons_of_mem _ hx)
  · have e2 : delM (X.map recM) k = X.map recM := delM_none fun x hx => by
      obtain ⟨y, hy, rfl⟩ := List.mem_map.1 hx
      have hy2 : recI y ∈ A ++ C := by rw [← e]; exact List.mem_map.2 ⟨y, hy, rfl⟩
      rcases List.mem_append.1 hy2 with h4 | h4
      · exact ne_of_lt (hA _ h4)
      · exact Ne.symm (ne_of_lt (hC _ h4))
    rw [e2] at h
    refine s_pick (Sep.stars (X.map recB)) ?_
    refine s_own t ?_
    refine s_own st ?_
    exact s_mkStore hok h1 h3 (s_end (h _ _))
theorem storeSetM_spec {st n : Nat} {M : Recs} {k : ByteArray} {r : Rec} {s : Sl} {q : K} (hr : r.ok) (hL : M.length < 1000000000) (h : HG B (StoreR st n (setM M k r) :: Γ) q) : HG B (StoreR st n M :: Bytes ty_uint8 s r.val :: Γ) (store_Store_set.call (some ⟨st, 0, none⟩) k (recA r s) q) := by
  unfold setM at h
  split at h
  · rename_i h0
    refine fun w hw => store_Store_set_ok _ _ _ _ _ ?_
    refine hg hw ?_
    clear hw w
    refine s_store fun t X hM hok h1 h3 => ?_
    subst hM
    unfold store_Store_set
    refine s_new fun r5 => ?_
    repeat refine s_nx ?_
    refine s_t ?_ (by simp [h0.1])
    repeat refine s_nx ?_
    rw [show decide (r.cnt = 0) = true by simpa using h0.2]
    unfold store_Store_set.s1
    repeat refine s_nx ?_
    refine s_pick (Sep.stars (X.map recB)) ?_
    refine s_own t ?_
    refine s_own st ?_
    exact storeDel_hg hok h1 h3 (by simpa using hL) fun _ _ => s_end h
  · rename_i h0
    refine storeSet_spec hr ?_ hL h
    by_cases h1 : r.has = true
    · exact .inl h1
    · exact .inr fun h2 => h0 ⟨by simpa using h1, h2⟩
end
end Go.Proofs.YtihncgfghpbhdaaGreat
/- Plain forms of functions, and that their code comes to them (package ref06). -/
namespace Go.Proofs.YtihncgfghpbhdaaGreat
open Go Go.Sep
set_option linter.unusedVariables false
set_option linter.unusedSimpArgs false
set_option maxRecDepth 100000
set_option maxHeartbeats 4000000
attribute [local irreducible] G Gp Cx Tx Ex Sx Dx Ox Ax Lx Rx Fx Bx Bj Al Do Ld LdN St StN New CallF Ar DoU Rd Rd2 Pu Cd Ite Fv CallV CallY Ans0 Ans1 Ans2 Ans3 Ans4 Ans5 Ext Dead Dr WithS Sv LdS LdNS RdS Rd2S Nn Idx IdxA IdxS Fld Bld Slc SlcS Cat All LoopK RangeF RangeJ TakeD
namespace F_IRRef06
instance at_126 : AT Tryz.prog 126 5 := ⟨by kernel_rfl⟩
instance at_65 : AT Tryz.prog 65 4 := ⟨by kernel_rfl⟩
instance cb_50 : CB Tryz.prog 50 := ⟨by kernel_rfl⟩
instance cb_51 : CB Tryz.prog 51 := ⟨by kernel_rfl⟩
instance cb_67 : CB Tryz.prog 67 := ⟨by kernel_rfl⟩
instance ct_3 : CT Tryz.prog 3 := ⟨by kernel_rfl⟩
instance ct_38 : CT Tryz.prog 38 := ⟨by kernel_rfl⟩
instance ct_4 : CT Tryz.prog 4 := ⟨by kernel_rfl⟩
instance ct_72 : CT Tryz.prog 72 := ⟨by kernel_rfl⟩
instance ct_9 : CT Tryz.prog 9 := ⟨by kernel_rfl⟩
instance ft_126_0 : FT Tryz.prog 126 0 0 1 := ⟨by kernel_rfl⟩
instance ft_126_1 : FT Tryz.prog 126 1 1 4 := ⟨by kernel_rfl⟩
instance ft_65_0 : FT Tryz.prog 65 0 0 1 := ⟨by kernel_rfl⟩
instance ft_65_2 : FT Tryz.prog 65 2 2 1 := ⟨by kernel_rfl⟩
instance ft_65_3 : FT Tryz.prog 65 3 3 1 := ⟨by kernel_rfl⟩
instance ft_74_0 : FT Tryz.prog 74 0 0 1 := ⟨by kernel_rfl⟩
instance ft_74_1 : FT Tryz.prog 74 1 1 1 := ⟨by kernel_rfl⟩
instance in_3 : INT Tryz.prog 3 .i64 := ⟨by kernel_rfl⟩
instance in_38 : INT Tryz.prog 38 .u64 := ⟨by kernel_rfl⟩
instance in_5 : INT Tryz.prog 5 .u8 := ⟨by kernel_rfl⟩
instance mx : MX Tryz.prog := ⟨mixed⟩
instance pl_126 : PLT Tryz.prog 126 [(0, 1), (1, 4)] := ⟨_, Tryz.underlying126, by kernel_rfl⟩
instance pl_65 : PLT Tryz.prog 65 [(0, 1), (1, 1), (2, 1), (3, 1)] := ⟨_, Tryz.underlying65, by kernel_rfl⟩
instance pl_74 : PLT Tryz.prog 74 [(0, 1), (1, 1)] := ⟨_, Tryz.underlying74, by kernel_rfl⟩
instance sl_72 : SLT Tryz.prog 72 126 5 := ⟨by kernel_rfl⟩
instance st_9 : STT Tryz.prog 9 := ⟨by kernel_rfl⟩
instance sz_3 : SZ Tryz.prog 3 1 := ⟨by kernel_rfl⟩
instance sz_38 : SZ Tryz.prog 38 1 := ⟨by kernel_rfl⟩
instance sz_65 : SZ Tryz.prog 65 4 := ⟨by kernel_rfl⟩
instance sz_72 : SZ Tryz.prog 72 1 := ⟨by kernel_rfl⟩
instance zt_126 : ZT Tryz.prog 126 (.agg #[(.string ⟨#[]⟩), (.bool false), (Sl.val ⟨none, 0, 0⟩), (.int .i64 0), (.int .u64 0)]) := ⟨Tryz.t126, by kernel_rfl, by kernel_rfl⟩
instance zt_65 : ZT Tryz.prog 65 (.agg #[(.bool false), (Sl.val ⟨none, 0, 0⟩), (.int .i64 0), (.int .u64 0)]) := ⟨Tryz.t65, by kernel_rfl, by kernel_rfl⟩
instance zt_74 : ZT Tryz.prog 74 (.agg #[(.int .i64 0), (Sl.val ⟨none, 0, 0⟩)]) := ⟨Tryz.t74, by kernel_rfl, by kernel_rfl⟩
end F_IRRef06
def ref06_New (regions0 : Int) (Q : (Option Addr) → K) : K :=
  New 74 #[(.int .i64 regions0), (Sl.val ⟨none, 0, 0⟩)] fun t5 =>
  Q (some t5)
theorem ref06_New_ok (regions0 : Int) (Q : (Option Addr) → K) (w : World) (h : ref06_New regions0 Q w) : ref06_New.call regions0 Q w := by
  exact g_walk 6 h Tryz.func8
def ref06_Store_Move.s1 (Q : Int → K)  (s0_1 : (Option Addr)) (key1_1 : ByteArray) (home2_1 : Int) (t17_1 : Bool) : K :=
  Ite t17_1
    (Q 1)
    (ref06_Store_Get.call s0_1 key1_1 fun t20 =>
    New 65 #[(.bool false), (Sl.val ⟨none, 0, 0⟩), (.int .i64 0), (.int .u64 0)] fun r7 =>
    StN r7 4 t20 <|
    Ld (r7.add 3) (Value.int .u64) fun t22 =>
    Ite (decide (t22 = 18446744073709551615))
      (Q 111)
      (St (r7.add 2) (.int .i64 home2_1) <|
      Ld (r7.add 3) (Value.int .u64) fun t27 =>
      Ar (IntKind.wrap .u64 (t27 + 1)) fun t28 =>
      St (r7.add 3) (.int .u64 t28) <|
      LdN r7 4 fun t32 =>
      ref06_Store_Set.call s0_1 key1_1 t32 <|
      Q 0))
def ref06_Store_Move (s0 : (Option Addr)) (key1 : ByteArray) (home2 : Int) (Q : Int → K) : K :=
  Ite (decide (home2 < 0))
    (ref06_Store_Move.s1 Q s0 key1 home2 true)
    (Nn s0 fun t13 =>
    Ld t13 (Value.int .i64) fun t15 =>
    ref06_Store_Move.s1 Q (some t13) key1 home2 (decide (t15 ≤ home2)))
theorem ref06_Store_Move_ok (s0 : (Option Addr)) (key1 : ByteArray) (home2 : Int) (Q : Int → K) (w : World) (h : ref06_Store_Move s0 key1 home2 Q w) : ref06_Store_Move.call s0 key1 home2 Q w := by
  have hJ2 : JH 2 fun D => ∃ (s0_1 : (Option Addr)) (key1_1 : ByteArray) (home2_1 : Int), D [(0, (.pointer s0_1)), (1, (.string key1_1)), (2, (.int .i64 home2_1))] (fun C => ∀ (t17_1 : Bool), C [(0, (.pointer s0_1)), (1, (.string key1_1)), (2, (.int .i64 home2_1)), (17, (.bool t17_1))] (ref06_Store_Move.s1 Q s0_1 key1_1 home2_1 t17_1)) := by intros; exact ⟨fun _ ⟨_, _, _, h⟩ => ⟨_, _, h⟩⟩
  exact g_walk 34 h Tryz.func29
def ref06_Store_Get.b1 (Q : (Array Value) → K)  (X1 : Int → K) (s0_1 : (Option Addr)) (key1_1 : ByteArray) (t4_1 : Addr) (i5_1 : Int) : K :=
  Nn s0_1 fun t8 =>
  Ld (t8.add 1) Sl.val fun t10 =>
  Ite (decide (i5_1 < (t10.n : Int)))
    (Ld (t8.add 1) Sl.val fun t18 =>
    Idx t18 i5_1 5 fun t20 =>
    Ld t20 Value.string fun t22 =>
    Ite (t22.toList == key1_1.toList)
      (Ld (t8.add 1) Sl.val fun t28 =>
      Idx t28 i5_1 5 fun t30 =>
      LdN (t30.add 1) 4 fun t32 =>
      StN t4_1 4 t32 <|
      LdN t4_1 4 fun r0 =>
      Q r0)
      (Ar (IntKind.wrap .i64 (i5_1 + 1)) fun t14 =>
      X1 t14))
    (Ld t8 (Value.int .i64) fun t37 =>
    ref06_Default.call key1_1 t37 fun t38 =>
    StN t4_1 4 #[(.bool false), (Sl.val ⟨none, 0, 0⟩), (.int .i64 t38), (.int .u64 0)] <|
    LdN t4_1 4 fun r0 =>
    Q r0)
def ref06_Store_Get (s0 : (Option Addr)) (key1 : ByteArray) (Q : (Array Value) → K) : K :=
  New 65 #[(.bool false), (Sl.val ⟨none, 0, 0⟩), (.int .i64 0), (.int .u64 0)] fun t4 =>
  LoopK (α := Int) (fun X x => ref06_Store_Get.b1 Q X s0 key1 t4 x) 0
theorem ref06_Store_Get_ok (s0 : (Option Addr)) (key1 : ByteArray) (Q : (Array Value) → K) (w : World) (h : ref06_Store_Get s0 key1 Q w) : ref06_Store_Get.call s0 key1 Q w := by
  have hL2 : ∀ (s0_1 : (Option Addr)) (key1_1 : ByteArray) (t4_1 : Addr), LH 2 (fun x : Int => [(0, (.pointer s0_1)), (1, (.string key1_1)), (4, (.pointer (some t4_1))), (5, (.int .i64 x))]) (fun X x => ref06_Store_Get.b1 Q X s0_1 key1_1 t4_1 x) := by intros; exact ⟨⟩
  exact g_walk 40 h Tryz.func50
def ref06_Store_Set.s3 (Q : K) (X2 : Sl → Bool → Int → K) (s0_3 : Addr) (key1_3 : ByteArray) (r5_3 : Addr) (out6_3 : Sl) (keep7_3 : Bool) (i8_3 : Int) : K :=
  Ar (IntKind.wrap .i64 (i8_3 + 1)) fun t25 =>
  X2 out6_3 keep7_3 t25
def ref06_Store_Set.s4 (Q : K) (X2 : Sl → Bool → Int → K) (s0_4 : Addr) (key1_4 : ByteArray) (r5_4 : Addr) (out6_4 : Sl) (keep7_4 : Bool) (i8_4 : Int) : K :=
  Ld (s0_4.add 1) Sl.val fun t48 =>
  Idx t48 i8_4 5 fun t50 =>
  Ld t50 Value.string fun t52 =>
  Ite (!(t52.toList == key1_4.toList))
    (Ld (s0_4.add 1) Sl.val fun t59 =>
    Idx t59 i8_4 5 fun t61 =>
    LdN t61 5 fun t62 =>
    Bld #[(.string ⟨#[]⟩), (.bool false), (Sl.val ⟨none, 0, 0⟩), (.int .i64 0), (.int .u64 0)] (fun i => some (i * 5, 5)) [(0, (.agg t62))] fun ct63 =>
    New 126 ct63 fun t63 =>
    Do Tryz.prog (Builtin.append_ #[72, 72] 72 #[(Sl.val out6_4), (Sl.val (Sl.mk (some t63) 1 1))]) Sl.val fun t64 =>
    ref06_Store_Set.s3 Q X2 s0_4 key1_4 r5_4 t64 keep7_4 i8_4)
    (ref06_Store_Set.s3 Q X2 s0_4 key1_4 r5_4 out6_4 keep7_4 i8_4)
def ref06_Store_Set.s5 (Q : K) (X2 : Sl → Bool → Int → K) (s0_5 : Addr) (key1_5 : ByteArray) (r5_5 : Addr) (out6_5 : Sl) (keep7_5 : Bool) (i8_5 : Int) (t38_5 : Bool) : K :=
  Ite t38_5
    (LdN r5_5 4 fun t41 =>
    Bld #[(.string ⟨#[]⟩), (.bool false), (Sl.val ⟨none, 0, 0⟩), (.int .i64 0), (.int .u64 0)] ([(0, 1), (1, 4)][·]?) [(0, (.string key1_5)), (1, (.agg t41))] fun t42 =>
    Bld #[(.string ⟨#[]⟩), (.bool false), (Sl.val ⟨none, 0, 0⟩), (.int .i64 0), (.int .u64 0)] (fun i => some (i * 5, 5)) [(0, (.agg t42))] fun ct43 =>
    New 126 ct43 fun t43 =>
    Do Tryz.prog (Builtin.append_ #[72, 72] 72 #[(Sl.val out6_5), (Sl.val (Sl.mk (some t43) 1 1))]) Sl.val fun t44 =>
    ref06_Store_Set.s4 Q X2 s0_5 key1_5 r5_5 t44 false i8_5)
    (ref06_Store_Set.s4 Q X2 s0_5 key1_5 r5_5 out6_5 keep7_5 i8_5)
def ref06_Store_Set.s6 (Q : K) (X2 : Sl → Bool → Int → K) (s0_6 : Addr) (out6_6 : Sl) : K :=
  St (s0_6.add 1) (Sl.val out6_6) <|
  Q
def ref06_Store_Set.b2 (Q : K)  (X2 : Sl → Bool → Int → K) (s0_2 : (Option Addr)) (key1_2 : ByteArray) (r5_2 : Addr) (out6_2 : Sl) (keep7_2 : Bool) (i8_2 : Int) : K :=
  Nn s0_2 fun t19 =>
  Ld (t19.add 1) Sl.val fun t21 =>
  Ite (decide (i8_2 < (t21.n : Int)))
    (Ite keep7_2
      (Ld (t19.add 1) Sl.val fun t31 =>
      Idx t31 i8_2 5 fun t33 =>
      Ld t33 Value.string fun t35 =>
      ref06_Store_Set.s5 Q X2 t19 key1_2 r5_2 out6_2 true i8_2 (!(Op.bytesLess t35.toList key1_2.toList || t35.toList == key1_2.toList)))
      (ref06_Store_Set.s5 Q X2 t19 key1_2 r5_2 out6_2 false i8_2 false))
    (Ite keep7_2
      (LdN r5_2 4 fun t68 =>
      Bld #[(.string ⟨#[]⟩), (.bool false), (Sl.val ⟨none, 0, 0⟩), (.int .i64 0), (.int .u64 0)] ([(0, 1), (1, 4)][·]?) [(0, (.string key1_2)), (1, (.agg t68))] fun t69 =>
      Bld #[(.string ⟨#[]⟩), (.bool false), (Sl.val ⟨none, 0, 0⟩), (.int .i64 0), (.int .u64 0)] (fun i => some (i * 5, 5)) [(0, (.agg t69))] fun ct70 =>
      New 126 ct70 fun t70 =>
      Do Tryz.prog (Builtin.append_ #[72, 72] 72 #[(Sl.val out6_2), (Sl.val (Sl.mk (some t70) 1 1))]) Sl.val fun t71 =>
      ref06_Store_Set.s6 Q X2 t19 t71)
      (ref06_Store_Set.s6 Q X2 t19 out6_2))
def ref06_Store_Set.s1 (Q : K)  (s0_1 : (Option Addr)) (key1_1 : ByteArray) (r5_1 : Addr) (out6_1 : Sl) (keep7_1 : Bool) : K :=
  LoopK (α := Sl × Bool × Int) (fun X x => ref06_Store_Set.b2 Q (fun out6_2 keep7_2 i8_2 => X (out6_2, keep7_2, i8_2)) s0_1 key1_1 r5_1 x.1 x.2.1 x.2.2) (out6_1, keep7_1, 0)
def ref06_Store_Set (s0 : (Option Addr)) (key1 : ByteArray) (r2 : (Array Value)) (Q : K) : K :=
  New 65 r2 fun r5 =>
  Dr <| WithS fun S =>
  LdS S r5 Value.bool fun t11 =>
  Ite t11
    (New 126 #[] fun t9 =>
    Sv S <|
    ref06_Store_Set.s1 Q s0 key1 r5 (Sl.mk (some t9) 0 0) true)
    (LdS S (r5.add 3) (Value.int .u64) fun t14 =>
    New 126 #[] fun t9 =>
    Sv S <|
    ref06_Store_Set.s1 Q s0 key1 r5 (Sl.mk (some t9) 0 0) (decide ((0 : Int) < t14)))
theorem ref06_Store_Set_ok (s0 : (Option Addr)) (key1 : ByteArray) (r2 : (Array Value)) (Q : K) (w : World) (h : ref06_Store_Set s0 key1 r2 Q w) : ref06_Store_Set.call s0 key1 r2 Q w := by
  have hJ4 : ∀ (X2 : (Sl × Bool × Int) → K), XH 3 X2 → JH 4 fun D => ∃ (s0_3 : Addr) (key1_3 : ByteArray) (r5_3 : Addr) (i8_3 : Int), D [(0, (.pointer (some s0_3))), (1, (.string key1_3)), (5, (.pointer (some r5_3))), (8, (.int .i64 i8_3))] (fun C => ∀ (out6_3 : Sl) (keep7_3 : Bool), C [(0, (.pointer (some s0_3))), (1, (.string key1_3)), (5, (.pointer (some r5_3))), (6, (Sl.val out6_3)), (7, (.bool keep7_3)), (8, (.int .i64 i8_3))] (ref06_Store_Set.s3 Q (fun out6_2 keep7_2 i8_2 => X2 (out6_2, keep7_2, i8_2)) s0_3 key1_3 r5_3 out6_3 keep7_3 i8_3)) := by intros; exact ⟨fun _ ⟨_, _, _, _, h⟩ => ⟨_, _, h⟩⟩
  have hJ8 : ∀ (X2 : (Sl × Bool × Int) → K), XH 3 X2 → JH 8 fun D => ∃ (s0_4 : Addr) (key1_4 : ByteArray) (r5_4 : Addr) (i8_4 : Int), D [(0, (.pointer (some s0_4))), (1, (.string key1_4)), (5, (.pointer (some r5_4))), (8, (.int .i64 i8_4))] (fun C => ∀ (out6_4 : Sl) (keep7_4 : Bool), C [(0, (.pointer (some s0_4))), (1, (.string key1_4)), (5, (.pointer (some r5_4))), (6, (Sl.val out6_4)), (7, (.bool keep7_4)), (8, (.int .i64 i8_4))] (ref06_Store_Set.s4 Q (fun out6_2 keep7_2 i8_2 => X2 (out6_2, keep7_2, i8_2)) s0_4 key1_4 r5_4 out6_4 keep7_4 i8_4)) := by intros; exact ⟨fun _ ⟨_, _, _, _, h⟩ => ⟨_, _, h⟩⟩
  have hJ6 : ∀ (X2 : (Sl × Bool × Int) → K), XH 3 X2 → JH 6 fun D => ∃ (s0_5 : Addr) (key1_5 : ByteArray) (r5_5 : Addr) (out6_5 : Sl) (i8_5 : Int), D [(0, (.pointer (some s0_5))), (1, (.string key1_5)), (5, (.pointer (some r5_5))), (6, (Sl.val out6_5)), (8, (.int .i64 i8_5))] (fun C => ∀ (keep7_5 : Bool) (t38_5 : Bool), C [(0, (.pointer (some s0_5))), (1, (.string key1_5)), (5, (.pointer (some r5_5))), (6, (Sl.val out6_5)), (7, (.bool keep7_5)), (8, (.int .i64 i8_5)), (38, (.bool t38_5))] (ref06_Store_Set.s5 Q (fun out6_2 keep7_2 i8_2 => X2 (out6_2, keep7_2, i8_2)) s0_5 key1_5 r5_5 out6_5 keep7_5 i8_5 t38_5)) := by intros; exact ⟨fun _ ⟨_, _, _, _, _, h⟩ => ⟨_, _, h⟩⟩
  have hJ12 : ∀ (X2 : (Sl × Bool × Int) → K), XH 3 X2 → JH 12 fun D => ∃ (s0_6 : Addr), D [(0, (.pointer (some s0_6)))] (fun C => ∀ (out6_6 : Sl), C [(0, (.pointer (some s0_6))), (6, (Sl.val out6_6))] (ref06_Store_Set.s6 Q (fun out6_2 keep7_2 i8_2 => X2 (out6_2, keep7_2, i8_2)) s0_6 out6_6)) := by intros; exact ⟨fun _ ⟨_, h⟩ => ⟨_, _, h⟩⟩
  have hL3 : ∀ (s0_2 : (Option Addr)) (key1_2 : ByteArray) (r5_2 : Addr), LH 3 (fun x : Sl × Bool × Int => [(0, (.pointer s0_2)), (1, (.string key1_2)), (5, (.pointer (some r5_2))), (6, (Sl.val x.1)), (7, (.bool x.2.1)), (8, (.int .i64 x.2.2))]) (fun X x => ref06_Store_Set.b2 Q (fun out6_2 keep7_2 i8_2 => X (out6_2, keep7_2, i8_2)) s0_2 key1_2 r5_2 x.1 x.2.1 x.2.2) := by intros; exact ⟨⟩
  have hJ2 : JH 2 fun D => ∃ (s0_1 : (Option Addr)) (key1_1 : ByteArray) (r5_1 : Addr), D [(0, (.pointer s0_1)), (1, (.string key1_1)), (5, (.pointer (some r5_1)))] (fun C => ∀ (out6_1 : Sl) (keep7_1 : Bool), C [(0, (.pointer s0_1)), (1, (.string key1_1)), (5, (.pointer (some r5_1))), (6, (Sl.val out6_1)), (7, (.bool keep7_1))] (ref06_Store_Set.s1 Q s0_1 key1_1 r5_1 out6_1 keep7_1)) := by intros; exact ⟨fun _ ⟨_, _, _, h⟩ => ⟨_, _, h⟩⟩
  have hD1 : DH 1 2 [] (.s [1, 2, 3] (.i (.s [4, 5, 6, 7] (.a [(0, 1, .s [8, 9] .e)])) (.s [4, 5, 6, 7] (.a [(0, 1, .s [8, 9] .e)])))) := by intros; exact ⟨⟩
  exact g_walk 76 h Tryz.func51
def ref06_Default.b1 (Q : Int → K)  (X1 : Int → Int → K) (key0_1 : ByteArray) (regions1_1 : Int) (sum5_1 : Int) (i6_1 : Int) : K :=
  Ite (decide (i6_1 < (key0_1.size : Int)))
    (IdxS key0_1 i6_1 fun t18 =>
    Ar (IntKind.wrap .u64 t18) fun t19 =>
    Ar (IntKind.wrap .u64 (sum5_1 + t19)) fun t20 =>
    Ar (IntKind.wrap .i64 (i6_1 + 1)) fun t14 =>
    X1 t20 t14)
    (Ar (IntKind.wrap .u64 regions1_1) fun t23 =>
    Cd (t23 ≠ 0) <|
    Ar (Int.tmod sum5_1 t23) fun t24 =>
    Ar (IntKind.wrap .i64 t24) fun t25 =>
    Q t25)
def ref06_Default (key0 : ByteArray) (regions1 : Int) (Q : Int → K) : K :=
  Ite (decide (regions1 < 1))
    (Q 0)
    (LoopK (α := Int × Int) (fun X x => ref06_Default.b1 Q (fun sum5_1 i6_1 => X (sum5_1, i6_1)) key0 regions1 x.1 x.2) (0, 0))
theorem ref06_Default_ok (key0 : ByteArray) (regions1 : Int) (Q : Int → K) (w : World) (h : ref06_Default key0 regions1 Q w) : ref06_Default.call key0 regions1 Q w := by
  have hL5 : ∀ (key0_1 : ByteArray) (regions1_1 : Int), LH 5 (fun x : Int × Int => [(0, (.string key0_1)), (1, (.int .i64 regions1_1)), (5, (.int .u64 x.1)), (6, (.int .i64 x.2))]) (fun X x => ref06_Default.b1 Q (fun sum5_1 i6_1 => X (sum5_1, i6_1)) key0_1 regions1_1 x.1 x.2) := by intros; exact ⟨⟩
  exact g_walk 26 h Tryz.func67
end Go.Proofs.YtihncgfghpbhdaaGreat
