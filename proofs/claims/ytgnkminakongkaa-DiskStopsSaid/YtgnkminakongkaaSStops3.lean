/- DiskStops. -/
import Derived.Test.YtgnkminakongkaaSOps3
namespace Go.Proofs.Ytgnkminakongkaa
open Go Go.Sep
set_option linter.unusedSimpArgs false
set_option linter.unusedVariables false
set_option maxRecDepth 100000

/-- What a call does to the power. -/
structure StopF (D D' : DiskD) (e : Int) : Prop where
  down : D.a.down = true → e = 3 ∧ D'.a.down = true
  ok : e = 0 → D'.a.left = D.a.left - 1 ∧ 0 ≤ D'.a.left ∧ D'.a.down = D.a.down
  no : e ≠ 0 → D'.a.left = D.a.left
  down' : D.a.down = false → (D'.a.down = true ↔ e = 3)
theorem chg_stop {a : DkA} (h0 : 0 ≤ a.left) (hd : a.down = false) : ((chg a).2 = 0 ∧ (chg a).1.left = a.left - 1 ∧ 0 ≤ (chg a).1.left ∧ (chg a).1.down = false) ∨ ((chg a).2 = 3 ∧ (chg a).1.left = a.left ∧ (chg a).1.down = true) := by
  unfold chg
  split
  · exact .inr ⟨rfl, rfl, rfl⟩
  · rw [if_pos (by omega)]
    exact .inl ⟨rfl, rfl, by simp only; omega, hd⟩
theorem StopF.same {D : DiskD} {e : Int} (h : D.a.down = false) (he : e ≠ 0) (he3 : e ≠ 3) : StopF D D e :=
  ⟨(fun hd => by rw [h] at hd; cases hd), fun h0 => absurd h0 he, fun _ => rfl, (fun _ => by rw [h]; simp [he3])⟩
theorem StopF.dead {D : DiskD} (h : D.a.down = true) : StopF D D 3 := ⟨fun _ => ⟨rfl, h⟩, (fun h0 => by cases h0), fun _ => rfl, (fun hd => by rw [h] at hd; cases hd)⟩
theorem StopF.chg {D : DiskD} {fs : Files} (h0 : 0 ≤ D.a.left) (hd : D.a.down = false) : StopF D ⟨(chg D.a).1, fs⟩ (chg D.a).2 := by
  rcases chg_stop h0 hd with ⟨h1, h2, h3, h4⟩ | ⟨h1, h2, h3⟩
  · exact ⟨fun h => (by rw [hd] at h; cases h), fun _ => ⟨h2, h3, h4.trans hd.symm⟩, fun h => absurd h1 h, fun _ => by rw [h1, show (⟨(Proofs.Ytgnkminakongkaa.chg D.a).1, fs⟩ : DiskD).a.down = false from h4]; simp⟩
  · exact ⟨fun h => (by rw [hd] at h; cases h), fun h => (by rw [h1] at h; cases h), fun _ => h2, fun _ => by rw [h1, show (⟨(Proofs.Ytgnkminakongkaa.chg D.a).1, fs⟩ : DiskD).a.down = true from h3]; simp⟩
theorem sync_stop {D : DiskD} (h0 : 0 ≤ D.a.left) (n : List UInt8) : StopF D (D.sync n).1 (D.sync n).2 := by
  unfold DiskD.sync
  split
  · rename_i h; exact .dead h
  · rename_i h
    have hd : D.a.down = false := by cases hx : D.a.down <;> simp_all
    split
    · exact StopF.same (e := 60) hd (by decide) (by decide)
    · exact .chg h0 hd
theorem remove_stop {D : DiskD} (h0 : 0 ≤ D.a.left) (n : List UInt8) : StopF D (D.remove n).1 (D.remove n).2 := by
  unfold DiskD.remove
  split
  · rename_i h; exact .dead h
  · rename_i h
    have hd : D.a.down = false := by cases hx : D.a.down <;> simp_all
    split
    · exact StopF.same (e := 60) hd (by decide) (by decide)
    · exact .chg h0 hd
theorem rename_stop {D : DiskD} (h0 : 0 ≤ D.a.left) (n m : List UInt8) : StopF D (D.rename n m).1 (D.rename n m).2 := by
  unfold DiskD.rename
  split
  · rename_i h; exact .dead h
  · rename_i h
    have hd : D.a.down = false := by cases hx : D.a.down <;> simp_all
    split
    · exact StopF.same (e := 60) hd (by decide) (by decide)
    · split
      · exact StopF.same (e := 1) hd (by decide) (by decide)
      · exact .chg h0 hd
theorem append_stop {D : DiskD} (h0 : 0 ≤ D.a.left) (n x : List UInt8) : StopF D (D.append n x).1 (D.append n x).2 := by
  unfold DiskD.append
  split
  · rename_i h; exact .dead h
  · rename_i h
    have hd : D.a.down = false := by cases hx : D.a.down <;> simp_all
    split
    · exact StopF.same (e := 1) hd (by decide) (by decide)
    · split
      · exact StopF.same (e := 2) hd (by decide) (by decide)
      · exact .chg h0 hd
theorem read_stop (D : DiskD) (n : List UInt8) : decide ((D.read n).2 = 3) = D.a.down := by
  unfold DiskD.read
  split
  · rename_i h; rw [h]; rfl
  · rename_i h
    have hd : D.a.down = false := by cases hx : D.a.down <;> simp_all
    rw [hd]
    split <;> rfl

theorem bits_and (n m : Int) (b : Nat) (hm : (BitVec.ofInt 64 m).toNat ≤ b) (hb : b ≤ 9223372036854775807) : 0 ≤ bitsOf .and .i64 n m ∧ bitsOf .and .i64 n m ≤ b := by
  unfold bitsOf
  simp only
  have h1 : ((BitVec.ofInt IntKind.i64.bits n &&& BitVec.ofInt IntKind.i64.bits m).toNat) ≤ b := by
    rw [BitVec.toNat_and]
    exact Nat.le_trans Nat.and_le_right hm
  rw [wrap64 (by omega) (by omega)]
  omega
section
variable {B w : World} {Γ : List HProp}
theorem law03_DiskStops_spec {k : Bool → K} {n : Int} {s : Sl} {L : List OpX} (hs : RdC B s 6 (L.flatMap opF)) (hL : ∀ x ∈ L, OpOk B x) (h : Holds B Γ w) (hk : ∀ w, Holds B Γ w → k true w) : law03_DiskStops.call s n k w := by
  have hsn : L.length = s.n := by have := hs.len; rw [flatMap_len opF 6 opF_len] at this; omega
  refine law03_DiskStops_ok _ _ _ _ ?_
  unfold law03_DiskStops
  refine law03_speaks_spec h fun w h => ?_
  refine r_ite_f rfl ?_
  refine law03_great_spec hs hL h fun r w hr h => ?_
  refine r_ite (fun _ => hk _ h) (fun hr0 => ?_)
  obtain ⟨hL2, hfit⟩ := hr hr0
  refine new_spec h (fun hb => by omega) fun d w _ _ h => ?_
  refine r_ite_f rfl ?_
  obtain ⟨hm0, hm1⟩ := bits_and n 31 31 (by decide) (by decide)
  refine r_ar rfl ?_
  refine limit_spec h fun w h => ?_
  rw [if_neg (by omega)] at h
  generalize bitsOf .and .i64 n 31 = c at hm0 hm1 h
  have hD0 : OkD ⟨{ (DiskD.new 100000).a with left := c }, (DiskD.new 100000).files⟩ := by
    have := new_ok (room := 100000) (by decide) (by decide)
    exact ⟨this.room1, this.roomN, this.used, this.few, ⟨by simp only; omega, by simp only; omega⟩, this.last, this.nodup⟩
  refine LoopK.of (fun t w => ∃ (j : Nat) (D : DiskD), t = (D.a.left, D.a.down, (j : Int)) ∧ j ≤ L.length ∧ 0 ≤ D.a.left ∧ OkD D ∧ Holds B (DiskR d D :: Γ) w) (fun t _ => ((s.n : Int) - t.2.2).toNat) ⟨0, _, rfl, by omega, hm0, hD0, h⟩ ?_
  clear h hD0
  rintro t w ⟨j, D, rfl, hj, h0, hD, h⟩
  dsimp only
  unfold law03_DiskStops.b1
  refine r_ite (fun hb => ?_) (fun _ => hk _ h.tail)
  simp only [decide_eq_true_eq] at hb
  have hjl : j < L.length := by omega
  have hx : L[j]? = some L[j] := List.getElem?_eq_getElem hjl
  generalize L[j] = x at hx
  have hxo := hL x (List.mem_of_getElem? hx)
  have hxf := hfit x (List.mem_of_getElem? hx)
  have hxd := hxf.data
  refine r_idxN opF opF_len (by decide) (hs.old h) hx (cs := opA x) rfl fun t40 => ?_
  refine r_new h ?_
  clear h
  intro o10 w h
  try simp only [add_mk, Nat.zero_add, Nat.reduceAdd]
  first | refine r_stN 0 h rfl (by with_reducible exact at0) ?_ ?_ (fun _ _ => nofz _) ?_ ?_ | refine r_stN 1 h rfl (by with_reducible exact at1) ?_ ?_ (fun _ _ => nofz _) ?_ ?_ | refine r_stN 2 h rfl (by with_reducible exact at2) ?_ ?_ (fun _ _ => nofz _) ?_ ?_ | refine r_stN 3 h rfl (by with_reducible exact at3) ?_ ?_ (fun _ _ => nofz _) ?_ ?_ | refine r_stN 4 h rfl (by with_reducible exact at4) ?_ ?_ (fun _ _ => nofz _) ?_ ?_ | refine r_stN 5 h rfl (by with_reducible exact at5) ?_ ?_ (fun _ _ => nofz _) ?_ ?_ | refine r_stN 6 h rfl (by with_reducible exact at6) ?_ ?_ (fun _ _ => nofz _) ?_ ?_ | refine r_stN 7 h rfl (by with_reducible exact at7) ?_ ?_ (fun _ _ => nofz _) ?_ ?_
  · rfl
  · rfl
  · simp [flatV]
  clear h
  intro w h
  try simp only [List.set_cons_zero, List.set_cons_succ, List.eraseIdx_zero, List.eraseIdx_cons_zero, List.eraseIdx_cons_succ, List.setIfInBounds_toArray, List.tail_cons] at h
  try simp only [add_mk, Nat.zero_add, Nat.reduceAdd]
  have hla := hD.left
  have behind : ∀ (D' : DiskD) (e : Int) w, OkD D' → StopF D D' e → Holds B (DiskR d D' :: blk o10 (.cells (opA x) 57 (0, 0)) :: Γ) w →
      law03_DiskStops.s2 k (fun left7_1 down8_1 t31_1 w' => (∃ (j : Nat) (D : DiskD), (left7_1, down8_1, t31_1) = (D.a.left, D.a.down, (j : Int)) ∧ j ≤ L.length ∧ 0 ≤ D.a.left ∧ OkD D ∧ Holds B (DiskR d D :: Γ) w') ∧ ((s.n : Int) - t31_1).toNat < ((s.n : Int) - (j : Int)).toNat) (some ⟨d, 0, none⟩) D.a.left D.a.down ⟨o10, 0, none⟩ e s (s.n : Int) (j : Int) w := by
    intro D' e w hD' hS h
    have hla' := hD'.left
    have h0' : 0 ≤ D'.a.left := by
      by_cases he : e = 0
      · exact (hS.ok he).2.1
      · rw [hS.no he]; exact h0
    have last : law03_DiskStops.s5 k (fun left7_1 down8_1 t31_1 w' => (∃ (j : Nat) (D : DiskD), (left7_1, down8_1, t31_1) = (D.a.left, D.a.down, (j : Int)) ∧ j ≤ L.length ∧ 0 ≤ D.a.left ∧ OkD D ∧ Holds B (DiskR d D :: Γ) w') ∧ ((s.n : Int) - t31_1).toNat < ((s.n : Int) - (j : Int)).toNat) (some ⟨d, 0, none⟩) D'.a.left D'.a.down ⟨o10, 0, none⟩ s (s.n : Int) (j : Int) w := by
      unfold law03_DiskStops.s5
      try simp only [add_mk, Nat.zero_add, Nat.reduceAdd]
      refine r_ld (x := (bs x.1.name)) h rfl (by first | (with_reducible exact List.mem_cons_self) | (with_reducible exact List.mem_cons_of_mem _ (List.mem_cons_self)) | (with_reducible exact List.mem_cons_of_mem _ (List.mem_cons_of_mem _ (List.mem_cons_self))) | (with_reducible exact List.mem_cons_of_mem _ (List.mem_cons_of_mem _ (List.mem_cons_of_mem _ (List.mem_cons_self)))) | (with_reducible exact List.mem_cons_of_mem _ (List.mem_cons_of_mem _ (List.mem_cons_of_mem _ (List.mem_cons_of_mem _ (List.mem_cons_self))))) | (with_reducible exact List.mem_cons_of_mem _ (List.mem_cons_of_mem _ (List.mem_cons_of_mem _ (List.mem_cons_of_mem _ (List.mem_cons_of_mem _ (List.mem_cons_self)))))) | (with_reducible exact List.mem_cons_of_mem _ (List.mem_cons_of_mem _ (List.mem_cons_of_mem _ (List.mem_cons_of_mem _ (List.mem_cons_of_mem _ (List.mem_cons_of_mem _ (List.mem_cons_self))))))) | (with_reducible exact List.mem_cons_of_mem _ (List.mem_cons_of_mem _ (List.mem_cons_of_mem _ (List.mem_cons_of_mem _ (List.mem_cons_of_mem _ (List.mem_cons_of_mem _ (List.mem_cons_of_mem _ (List.mem_cons_self)))))))) | (with_reducible exact List.mem_cons_of_mem _ (List.mem_cons_of_mem _ (List.mem_cons_of_mem _ (List.mem_cons_of_mem _ (List.mem_cons_of_mem _ (List.mem_cons_of_mem _ (List.mem_cons_of_mem _ (List.mem_cons_of_mem _ (List.mem_cons_self))))))))) | (with_reducible exact List.mem_cons_of_mem _ (List.mem_cons_of_mem _ (List.mem_cons_of_mem _ (List.mem_cons_of_mem _ (List.mem_cons_of_mem _ (List.mem_cons_of_mem _ (List.mem_cons_of_mem _ (List.mem_cons_of_mem _ (List.mem_cons_of_mem _ (List.mem_cons_self)))))))))) | (with_reducible exact List.mem_cons_of_mem _ (List.mem_cons_of_mem _ (List.mem_cons_of_mem _ (List.mem_cons_of_mem _ (List.mem_cons_of_mem _ (List.mem_cons_of_mem _ (List.mem_cons_of_mem _ (List.mem_cons_of_mem _ (List.mem_cons_of_mem _ (List.mem_cons_of_mem _ (List.mem_cons_self))))))))))) | (with_reducible exact List.mem_cons_of_mem _ (List.mem_cons_of_mem _ (List.mem_cons_of_mem _ (List.mem_cons_of_mem _ (List.mem_cons_of_mem _ (List.mem_cons_of_mem _ (List.mem_cons_of_mem _ (List.mem_cons_of_mem _ (List.mem_cons_of_mem _ (List.mem_cons_of_mem _ (List.mem_cons_of_mem _ (List.mem_cons_self)))))))))))) | (with_reducible exact List.mem_cons_of_mem _ (List.mem_cons_of_mem _ (List.mem_cons_of_mem _ (List.mem_cons_of_mem _ (List.mem_cons_of_mem _ (List.mem_cons_of_mem _ (List.mem_cons_of_mem _ (List.mem_cons_of_mem _ (List.mem_cons_of_mem _ (List.mem_cons_of_mem _ (List.mem_cons_of_mem _ (List.mem_cons_of_mem _ (List.mem_cons_self)))))))))))))) ?_ ?_
      · exact rfl
      refine read_spec (n := x.1.name) hD' h fun s2 w h => ?_
      rw [read_stop]
      refine r_ite_f (by simp) ?_
      refine r_add64 (by omega) (by omega) ?_
      exact ⟨⟨j + 1, D', rfl, by omega, h0', hD', (h.tail.del 1 at1)⟩, by omega⟩
    have s4 : law03_DiskStops.s3 k (fun left7_1 down8_1 t31_1 w' => (∃ (j : Nat) (D : DiskD), (left7_1, down8_1, t31_1) = (D.a.left, D.a.down, (j : Int)) ∧ j ≤ L.length ∧ 0 ≤ D.a.left ∧ OkD D ∧ Holds B (DiskR d D :: Γ) w') ∧ ((s.n : Int) - t31_1).toNat < ((s.n : Int) - (j : Int)).toNat) (some ⟨d, 0, none⟩) D'.a.left D.a.down ⟨o10, 0, none⟩ e s (s.n : Int) (j : Int) w := by
      unfold law03_DiskStops.s3
      refine r_ite_f (by simp only [decide_eq_false_iff_not]; omega) ?_
      cases hd : D.a.down with
      | true =>
        obtain ⟨he3, hd'⟩ := hS.down hd
        rw [hd'] at last
        refine r_ite_t rfl ?_
        unfold law03_DiskStops.s4
        refine r_ite_f (by rw [he3]; rfl) ?_
        exact r_ite_t rfl last
      | false =>
        have hd' := hS.down' hd
        have e1 : decide (e = 3) = D'.a.down := by
          cases hx : D'.a.down with
          | true => rw [hd'.1 hx]; rfl
          | false =>
            rw [decide_eq_false]
            intro he
            rw [hd'.2 he] at hx; cases hx
        refine r_ite_f rfl ?_
        unfold law03_DiskStops.s4
        refine r_ite_f rfl (r_ite_f rfl ?_)
        rw [e1]
        exact last
    unfold law03_DiskStops.s2
    refine r_ite (fun he => ?_) (fun he => ?_)
    · simp only [decide_eq_true_eq] at he
      obtain ⟨g1, g2, g3⟩ := hS.ok he
      refine r_ar (e' := D'.a.left) (by rw [g1]; exact wrap64 (by omega) (by have := hla.2; omega)) ?_
      exact s4
    · simp only [decide_eq_false_iff_not] at he
      rw [hS.no he] at s4
      exact s4
  refine r_ld (x := x.1.kind) h rfl (by first | (with_reducible exact List.mem_cons_self) | (with_reducible exact List.mem_cons_of_mem _ (List.mem_cons_self)) | (with_reducible exact List.mem_cons_of_mem _ (List.mem_cons_of_mem _ (List.mem_cons_self))) | (with_reducible exact List.mem_cons_of_mem _ (List.mem_cons_of_mem _ (List.mem_cons_of_mem _ (List.mem_cons_self)))) | (with_reducible exact List.mem_cons_of_mem _ (List.mem_cons_of_mem _ (List.mem_cons_of_mem _ (List.mem_cons_of_mem _ (List.mem_cons_self))))) | (with_reducible exact List.mem_cons_of_mem _ (List.mem_cons_of_mem _ (List.mem_cons_of_mem _ (List.mem_cons_of_mem _ (List.mem_cons_of_mem _ (List.mem_cons_self)))))) | (with_reducible exact List.mem_cons_of_mem _ (List.mem_cons_of_mem _ (List.mem_cons_of_mem _ (List.mem_cons_of_mem _ (List.mem_cons_of_mem _ (List.mem_cons_of_mem _ (List.mem_cons_self))))))) | (with_reducible exact List.mem_cons_of_mem _ (List.mem_cons_of_mem _ (List.mem_cons_of_mem _ (List.mem_cons_of_mem _ (List.mem_cons_of_mem _ (List.mem_cons_of_mem _ (List.mem_cons_of_mem _ (List.mem_cons_self)))))))) | (with_reducible exact List.mem_cons_of_mem _ (List.mem_cons_of_mem _ (List.mem_cons_of_mem _ (List.mem_cons_of_mem _ (List.mem_cons_of_mem _ (List.mem_cons_of_mem _ (List.mem_cons_of_mem _ (List.mem_cons_of_mem _ (List.mem_cons_self))))))))) | (with_reducible exact List.mem_cons_of_mem _ (List.mem_cons_of_mem _ (List.mem_cons_of_mem _ (List.mem_cons_of_mem _ (List.mem_cons_of_mem _ (List.mem_cons_of_mem _ (List.mem_cons_of_mem _ (List.mem_cons_of_mem _ (List.mem_cons_of_mem _ (List.mem_cons_self)))))))))) | (with_reducible exact List.mem_cons_of_mem _ (List.mem_cons_of_mem _ (List.mem_cons_of_mem _ (List.mem_cons_of_mem _ (List.mem_cons_of_mem _ (List.mem_cons_of_mem _ (List.mem_cons_of_mem _ (List.mem_cons_of_mem _ (List.mem_cons_of_mem _ (List.mem_cons_of_mem _ (List.mem_cons_self))))))))))) | (with_reducible exact List.mem_cons_of_mem _ (List.mem_cons_of_mem _ (List.mem_cons_of_mem _ (List.mem_cons_of_mem _ (List.mem_cons_of_mem _ (List.mem_cons_of_mem _ (List.mem_cons_of_mem _ (List.mem_cons_of_mem _ (List.mem_cons_of_mem _ (List.mem_cons_of_mem _ (List.mem_cons_of_mem _ (List.mem_cons_self)))))))))))) | (with_reducible exact List.mem_cons_of_mem _ (List.mem_cons_of_mem _ (List.mem_cons_of_mem _ (List.mem_cons_of_mem _ (List.mem_cons_of_mem _ (List.mem_cons_of_mem _ (List.mem_cons_of_mem _ (List.mem_cons_of_mem _ (List.mem_cons_of_mem _ (List.mem_cons_of_mem _ (List.mem_cons_of_mem _ (List.mem_cons_of_mem _ (List.mem_cons_self)))))))))))))) ?_ ?_
  · exact rfl
  refine r_ar rfl ?_
  refine r_ite (fun _ => ?_) (fun _ => ?_)
  · refine r_ld (x := (bs x.1.name)) h rfl (by first | (with_reducible exact List.mem_cons_self) | (with_reducible exact List.mem_cons_of_mem _ (List.mem_cons_self)) | (with_reducible exact List.mem_cons_of_mem _ (List.mem_cons_of_mem _ (List.mem_cons_self))) | (with_reducible exact List.mem_cons_of_mem _ (List.mem_cons_of_mem _ (List.mem_cons_of_mem _ (List.mem_cons_self)))) | (with_reducible exact List.mem_cons_of_mem _ (List.mem_cons_of_mem _ (List.mem_cons_of_mem _ (List.mem_cons_of_mem _ (List.mem_cons_self))))) | (with_reducible exact List.mem_cons_of_mem _ (List.mem_cons_of_mem _ (List.mem_cons_of_mem _ (List.mem_cons_of_mem _ (List.mem_cons_of_mem _ (List.mem_cons_self)))))) | (with_reducible exact List.mem_cons_of_mem _ (List.mem_cons_of_mem _ (List.mem_cons_of_mem _ (List.mem_cons_of_mem _ (List.mem_cons_of_mem _ (List.mem_cons_of_mem _ (List.mem_cons_self))))))) | (with_reducible exact List.mem_cons_of_mem _ (List.mem_cons_of_mem _ (List.mem_cons_of_mem _ (List.mem_cons_of_mem _ (List.mem_cons_of_mem _ (List.mem_cons_of_mem _ (List.mem_cons_of_mem _ (List.mem_cons_self)))))))) | (with_reducible exact List.mem_cons_of_mem _ (List.mem_cons_of_mem _ (List.mem_cons_of_mem _ (List.mem_cons_of_mem _ (List.mem_cons_of_mem _ (List.mem_cons_of_mem _ (List.mem_cons_of_mem _ (List.mem_cons_of_mem _ (List.mem_cons_self))))))))) | (with_reducible exact List.mem_cons_of_mem _ (List.mem_cons_of_mem _ (List.mem_cons_of_mem _ (List.mem_cons_of_mem _ (List.mem_cons_of_mem _ (List.mem_cons_of_mem _ (List.mem_cons_of_mem _ (List.mem_cons_of_mem _ (List.mem_cons_of_mem _ (List.mem_cons_self)))))))))) | (with_reducible exact List.mem_cons_of_mem _ (List.mem_cons_of_mem _ (List.mem_cons_of_mem _ (List.mem_cons_of_mem _ (List.mem_cons_of_mem _ (List.mem_cons_of_mem _ (List.mem_cons_of_mem _ (List.mem_cons_of_mem _ (List.mem_cons_of_mem _ (List.mem_cons_of_mem _ (List.mem_cons_self))))))))))) | (with_reducible exact List.mem_cons_of_mem _ (List.mem_cons_of_mem _ (List.mem_cons_of_mem _ (List.mem_cons_of_mem _ (List.mem_cons_of_mem _ (List.mem_cons_of_mem _ (List.mem_cons_of_mem _ (List.mem_cons_of_mem _ (List.mem_cons_of_mem _ (List.mem_cons_of_mem _ (List.mem_cons_of_mem _ (List.mem_cons_self)))))))))))) | (with_reducible exact List.mem_cons_of_mem _ (List.mem_cons_of_mem _ (List.mem_cons_of_mem _ (List.mem_cons_of_mem _ (List.mem_cons_of_mem _ (List.mem_cons_of_mem _ (List.mem_cons_of_mem _ (List.mem_cons_of_mem _ (List.mem_cons_of_mem _ (List.mem_cons_of_mem _ (List.mem_cons_of_mem _ (List.mem_cons_of_mem _ (List.mem_cons_self)))))))))))))) ?_ ?_
    · exact rfl
    refine r_ld (x := x.2.1) h rfl (by first | (with_reducible exact List.mem_cons_self) | (with_reducible exact List.mem_cons_of_mem _ (List.mem_cons_self)) | (with_reducible exact List.mem_cons_of_mem _ (List.mem_cons_of_mem _ (List.mem_cons_self))) | (with_reducible exact List.mem_cons_of_mem _ (List.mem_cons_of_mem _ (List.mem_cons_of_mem _ (List.mem_cons_self)))) | (with_reducible exact List.mem_cons_of_mem _ (List.mem_cons_of_mem _ (List.mem_cons_of_mem _ (List.mem_cons_of_mem _ (List.mem_cons_self))))) | (with_reducible exact List.mem_cons_of_mem _ (List.mem_cons_of_mem _ (List.mem_cons_of_mem _ (List.mem_cons_of_mem _ (List.mem_cons_of_mem _ (List.mem_cons_self)))))) | (with_reducible exact List.mem_cons_of_mem _ (List.mem_cons_of_mem _ (List.mem_cons_of_mem _ (List.mem_cons_of_mem _ (List.mem_cons_of_mem _ (List.mem_cons_of_mem _ (List.mem_cons_self))))))) | (with_reducible exact List.mem_cons_of_mem _ (List.mem_cons_of_mem _ (List.mem_cons_of_mem _ (List.mem_cons_of_mem _ (List.mem_cons_of_mem _ (List.mem_cons_of_mem _ (List.mem_cons_of_mem _ (List.mem_cons_self)))))))) | (with_reducible exact List.mem_cons_of_mem _ (List.mem_cons_of_mem _ (List.mem_cons_of_mem _ (List.mem_cons_of_mem _ (List.mem_cons_of_mem _ (List.mem_cons_of_mem _ (List.mem_cons_of_mem _ (List.mem_cons_of_mem _ (List.mem_cons_self))))))))) | (with_reducible exact List.mem_cons_of_mem _ (List.mem_cons_of_mem _ (List.mem_cons_of_mem _ (List.mem_cons_of_mem _ (List.mem_cons_of_mem _ (List.mem_cons_of_mem _ (List.mem_cons_of_mem _ (List.mem_cons_of_mem _ (List.mem_cons_of_mem _ (List.mem_cons_self)))))))))) | (with_reducible exact List.mem_cons_of_mem _ (List.mem_cons_of_mem _ (List.mem_cons_of_mem _ (List.mem_cons_of_mem _ (List.mem_cons_of_mem _ (List.mem_cons_of_mem _ (List.mem_cons_of_mem _ (List.mem_cons_of_mem _ (List.mem_cons_of_mem _ (List.mem_cons_of_mem _ (List.mem_cons_self))))))))))) | (with_reducible exact List.mem_cons_of_mem _ (List.mem_cons_of_mem _ (List.mem_cons_of_mem _ (List.mem_cons_of_mem _ (List.mem_cons_of_mem _ (List.mem_cons_of_mem _ (List.mem_cons_of_mem _ (List.mem_cons_of_mem _ (List.mem_cons_of_mem _ (List.mem_cons_of_mem _ (List.mem_cons_of_mem _ (List.mem_cons_self)))))))))))) | (with_reducible exact List.mem_cons_of_mem _ (List.mem_cons_of_mem _ (List.mem_cons_of_mem _ (List.mem_cons_of_mem _ (List.mem_cons_of_mem _ (List.mem_cons_of_mem _ (List.mem_cons_of_mem _ (List.mem_cons_of_mem _ (List.mem_cons_of_mem _ (List.mem_cons_of_mem _ (List.mem_cons_of_mem _ (List.mem_cons_of_mem _ (List.mem_cons_self)))))))))))))) ?_ ?_
    · exact rfl
    refine append_spec (n := x.1.name) (x := x.1.data) hD (by omega) h.swap (fun w h => hxo.data.old h) fun w hD' h => ?_
    exact behind _ _ _ hD' (append_stop h0 _ _) h
  refine r_ite (fun _ => ?_) (fun _ => ?_)
  · refine r_ld (x := (bs x.1.name)) h rfl (by first | (with_reducible exact List.mem_cons_self) | (with_reducible exact List.mem_cons_of_mem _ (List.mem_cons_self)) | (with_reducible exact List.mem_cons_of_mem _ (List.mem_cons_of_mem _ (List.mem_cons_self))) | (with_reducible exact List.mem_cons_of_mem _ (List.mem_cons_of_mem _ (List.mem_cons_of_mem _ (List.mem_cons_self)))) | (with_reducible exact List.mem_cons_of_mem _ (List.mem_cons_of_mem _ (List.mem_cons_of_mem _ (List.mem_cons_of_mem _ (List.mem_cons_self))))) | (with_reducible exact List.mem_cons_of_mem _ (List.mem_cons_of_mem _ (List.mem_cons_of_mem _ (List.mem_cons_of_mem _ (List.mem_cons_of_mem _ (List.mem_cons_self)))))) | (with_reducible exact List.mem_cons_of_mem _ (List.mem_cons_of_mem _ (List.mem_cons_of_mem _ (List.mem_cons_of_mem _ (List.mem_cons_of_mem _ (List.mem_cons_of_mem _ (List.mem_cons_self))))))) | (with_reducible exact List.mem_cons_of_mem _ (List.mem_cons_of_mem _ (List.mem_cons_of_mem _ (List.mem_cons_of_mem _ (List.mem_cons_of_mem _ (List.mem_cons_of_mem _ (List.mem_cons_of_mem _ (List.mem_cons_self)))))))) | (with_reducible exact List.mem_cons_of_mem _ (List.mem_cons_of_mem _ (List.mem_cons_of_mem _ (List.mem_cons_of_mem _ (List.mem_cons_of_mem _ (List.mem_cons_of_mem _ (List.mem_cons_of_mem _ (List.mem_cons_of_mem _ (List.mem_cons_self))))))))) | (with_reducible exact List.mem_cons_of_mem _ (List.mem_cons_of_mem _ (List.mem_cons_of_mem _ (List.mem_cons_of_mem _ (List.mem_cons_of_mem _ (List.mem_cons_of_mem _ (List.mem_cons_of_mem _ (List.mem_cons_of_mem _ (List.mem_cons_of_mem _ (List.mem_cons_self)))))))))) | (with_reducible exact List.mem_cons_of_mem _ (List.mem_cons_of_mem _ (List.mem_cons_of_mem _ (List.mem_cons_of_mem _ (List.mem_cons_of_mem _ (List.mem_cons_of_mem _ (List.mem_cons_of_mem _ (List.mem_cons_of_mem _ (List.mem_cons_of_mem _ (List.mem_cons_of_mem _ (List.mem_cons_self))))))))))) | (with_reducible exact List.mem_cons_of_mem _ (List.mem_cons_of_mem _ (List.mem_cons_of_mem _ (List.mem_cons_of_mem _ (List.mem_cons_of_mem _ (List.mem_cons_of_mem _ (List.mem_cons_of_mem _ (List.mem_cons_of_mem _ (List.mem_cons_of_mem _ (List.mem_cons_of_mem _ (List.mem_cons_of_mem _ (List.mem_cons_self)))))))))))) | (with_reducible exact List.mem_cons_of_mem _ (List.mem_cons_of_mem _ (List.mem_cons_of_mem _ (List.mem_cons_of_mem _ (List.mem_cons_of_mem _ (List.mem_cons_of_mem _ (List.mem_cons_of_mem _ (List.mem_cons_of_mem _ (List.mem_cons_of_mem _ (List.mem_cons_of_mem _ (List.mem_cons_of_mem _ (List.mem_cons_of_mem _ (List.mem_cons_self)))))))))))))) ?_ ?_
    · exact rfl
    refine sync_spec (n := x.1.name) hD h.swap fun w hD' h => ?_
    exact behind _ _ _ hD' (sync_stop h0 _) h
  refine r_ite (fun _ => ?_) (fun _ => ?_)
  · refine r_ld (x := (bs x.1.name)) h rfl (by first | (with_reducible exact List.mem_cons_self) | (with_reducible exact List.mem_cons_of_mem _ (List.mem_cons_self)) | (with_reducible exact List.mem_cons_of_mem _ (List.mem_cons_of_mem _ (List.mem_cons_self))) | (with_reducible exact List.mem_cons_of_mem _ (List.mem_cons_of_mem _ (List.mem_cons_of_mem _ (List.mem_cons_self)))) | (with_reducible exact List.mem_cons_of_mem _ (List.mem_cons_of_mem _ (List.mem_cons_of_mem _ (List.mem_cons_of_mem _ (List.mem_cons_self))))) | (with_reducible exact List.mem_cons_of_mem _ (List.mem_cons_of_mem _ (List.mem_cons_of_mem _ (List.mem_cons_of_mem _ (List.mem_cons_of_mem _ (List.mem_cons_self)))))) | (with_reducible exact List.mem_cons_of_mem _ (List.mem_cons_of_mem _ (List.mem_cons_of_mem _ (List.mem_cons_of_mem _ (List.mem_cons_of_mem _ (List.mem_cons_of_mem _ (List.mem_cons_self))))))) | (with_reducible exact List.mem_cons_of_mem _ (List.mem_cons_of_mem _ (List.mem_cons_of_mem _ (List.mem_cons_of_mem _ (List.mem_cons_of_mem _ (List.mem_cons_of_mem _ (List.mem_cons_of_mem _ (List.mem_cons_self)))))))) | (with_reducible exact List.mem_cons_of_mem _ (List.mem_cons_of_mem _ (List.mem_cons_of_mem _ (List.mem_cons_of_mem _ (List.mem_cons_of_mem _ (List.mem_cons_of_mem _ (List.mem_cons_of_mem _ (List.mem_cons_of_mem _ (List.mem_cons_self))))))))) | (with_reducible exact List.mem_cons_of_mem _ (List.mem_cons_of_mem _ (List.mem_cons_of_mem _ (List.mem_cons_of_mem _ (List.mem_cons_of_mem _ (List.mem_cons_of_mem _ (List.mem_cons_of_mem _ (List.mem_cons_of_mem _ (List.mem_cons_of_mem _ (List.mem_cons_self)))))))))) | (with_reducible exact List.mem_cons_of_mem _ (List.mem_cons_of_mem _ (List.mem_cons_of_mem _ (List.mem_cons_of_mem _ (List.mem_cons_of_mem _ (List.mem_cons_of_mem _ (List.mem_cons_of_mem _ (List.mem_cons_of_mem _ (List.mem_cons_of_mem _ (List.mem_cons_of_mem _ (List.mem_cons_self))))))))))) | (with_reducible exact List.mem_cons_of_mem _ (List.mem_cons_of_mem _ (List.mem_cons_of_mem _ (List.mem_cons_of_mem _ (List.mem_cons_of_mem _ (List.mem_cons_of_mem _ (List.mem_cons_of_mem _ (List.mem_cons_of_mem _ (List.mem_cons_of_mem _ (List.mem_cons_of_mem _ (List.mem_cons_of_mem _ (List.mem_cons_self)))))))))))) | (with_reducible exact List.mem_cons_of_mem _ (List.mem_cons_of_mem _ (List.mem_cons_of_mem _ (List.mem_cons_of_mem _ (List.mem_cons_of_mem _ (List.mem_cons_of_mem _ (List.mem_cons_of_mem _ (List.mem_cons_of_mem _ (List.mem_cons_of_mem _ (List.mem_cons_of_mem _ (List.mem_cons_of_mem _ (List.mem_cons_of_mem _ (List.mem_cons_self)))))))))))))) ?_ ?_
    · exact rfl
    refine r_ld (x := (bs x.1.to)) h rfl (by first | (with_reducible exact List.mem_cons_self) | (with_reducible exact List.mem_cons_of_mem _ (List.mem_cons_self)) | (with_reducible exact List.mem_cons_of_mem _ (List.mem_cons_of_mem _ (List.mem_cons_self))) | (with_reducible exact List.mem_cons_of_mem _ (List.mem_cons_of_mem _ (List.mem_cons_of_mem _ (List.mem_cons_self)))) | (with_reducible exact List.mem_cons_of_mem _ (List.mem_cons_of_mem _ (List.mem_cons_of_mem _ (List.mem_cons_of_mem _ (List.mem_cons_self))))) | (with_reducible exact List.mem_cons_of_mem _ (List.mem_cons_of_mem _ (List.mem_cons_of_mem _ (List.mem_cons_of_mem _ (List.mem_cons_of_mem _ (List.mem_cons_self)))))) | (with_reducible exact List.mem_cons_of_mem _ (List.mem_cons_of_mem _ (List.mem_cons_of_mem _ (List.mem_cons_of_mem _ (List.mem_cons_of_mem _ (List.mem_cons_of_mem _ (List.mem_cons_self))))))) | (with_reducible exact List.mem_cons_of_mem _ (List.mem_cons_of_mem _ (List.mem_cons_of_mem _ (List.mem_cons_of_mem _ (List.mem_cons_of_mem _ (List.mem_cons_of_mem _ (List.mem_cons_of_mem _ (List.mem_cons_self)))))))) | (with_reducible exact List.mem_cons_of_mem _ (List.mem_cons_of_mem _ (List.mem_cons_of_mem _ (List.mem_cons_of_mem _ (List.mem_cons_of_mem _ (List.mem_cons_of_mem _ (List.mem_cons_of_mem _ (List.mem_cons_of_mem _ (List.mem_cons_self))))))))) | (with_reducible exact List.mem_cons_of_mem _ (List.mem_cons_of_mem _ (List.mem_cons_of_mem _ (List.mem_cons_of_mem _ (List.mem_cons_of_mem _ (List.mem_cons_of_mem _ (List.mem_cons_of_mem _ (List.mem_cons_of_mem _ (List.mem_cons_of_mem _ (List.mem_cons_self)))))))))) | (with_reducible exact List.mem_cons_of_mem _ (List.mem_cons_of_mem _ (List.mem_cons_of_mem _ (List.mem_cons_of_mem _ (List.mem_cons_of_mem _ (List.mem_cons_of_mem _ (List.mem_cons_of_mem _ (List.mem_cons_of_mem _ (List.mem_cons_of_mem _ (List.mem_cons_of_mem _ (List.mem_cons_self))))))))))) | (with_reducible exact List.mem_cons_of_mem _ (List.mem_cons_of_mem _ (List.mem_cons_of_mem _ (List.mem_cons_of_mem _ (List.mem_cons_of_mem _ (List.mem_cons_of_mem _ (List.mem_cons_of_mem _ (List.mem_cons_of_mem _ (List.mem_cons_of_mem _ (List.mem_cons_of_mem _ (List.mem_cons_of_mem _ (List.mem_cons_self)))))))))))) | (with_reducible exact List.mem_cons_of_mem _ (List.mem_cons_of_mem _ (List.mem_cons_of_mem _ (List.mem_cons_of_mem _ (List.mem_cons_of_mem _ (List.mem_cons_of_mem _ (List.mem_cons_of_mem _ (List.mem_cons_of_mem _ (List.mem_cons_of_mem _ (List.mem_cons_of_mem _ (List.mem_cons_of_mem _ (List.mem_cons_of_mem _ (List.mem_cons_self)))))))))))))) ?_ ?_
    · exact rfl
    refine rename_spec (n := x.1.name) (m := x.1.to) hD h.swap fun w hD' h => ?_
    exact behind _ _ _ hD' (rename_stop h0 _ _) h
  · refine r_ld (x := (bs x.1.name)) h rfl (by first | (with_reducible exact List.mem_cons_self) | (with_reducible exact List.mem_cons_of_mem _ (List.mem_cons_self)) | (with_reducible exact List.mem_cons_of_mem _ (List.mem_cons_of_mem _ (List.mem_cons_self))) | (with_reducible exact List.mem_cons_of_mem _ (List.mem_cons_of_mem _ (List.mem_cons_of_mem _ (List.mem_cons_self)))) | (with_reducible exact List.mem_cons_of_mem _ (List.mem_cons_of_mem _ (List.mem_cons_of_mem _ (List.mem_cons_of_mem _ (List.mem_cons_self))))) | (with_reducible exact List.mem_cons_of_mem _ (List.mem_cons_of_mem _ (List.mem_cons_of_mem _ (List.mem_cons_of_mem _ (List.mem_cons_of_mem _ (List.mem_cons_self)))))) | (with_reducible exact List.mem_cons_of_mem _ (List.mem_cons_of_mem _ (List.mem_cons_of_mem _ (List.mem_cons_of_mem _ (List.mem_cons_of_mem _ (List.mem_cons_of_mem _ (List.mem_cons_self))))))) | (with_reducible exact List.mem_cons_of_mem _ (List.mem_cons_of_mem _ (List.mem_cons_of_mem _ (List.mem_cons_of_mem _ (List.mem_cons_of_mem _ (List.mem_cons_of_mem _ (List.mem_cons_of_mem _ (List.mem_cons_self)))))))) | (with_reducible exact List.mem_cons_of_mem _ (List.mem_cons_of_mem _ (List.mem_cons_of_mem _ (List.mem_cons_of_mem _ (List.mem_cons_of_mem _ (List.mem_cons_of_mem _ (List.mem_cons_of_mem _ (List.mem_cons_of_mem _ (List.mem_cons_self))))))))) | (with_reducible exact List.mem_cons_of_mem _ (List.mem_cons_of_mem _ (List.mem_cons_of_mem _ (List.mem_cons_of_mem _ (List.mem_cons_of_mem _ (List.mem_cons_of_mem _ (List.mem_cons_of_mem _ (List.mem_cons_of_mem _ (List.mem_cons_of_mem _ (List.mem_cons_self)))))))))) | (with_reducible exact List.mem_cons_of_mem _ (List.mem_cons_of_mem _ (List.mem_cons_of_mem _ (List.mem_cons_of_mem _ (List.mem_cons_of_mem _ (List.mem_cons_of_mem _ (List.mem_cons_of_mem _ (List.mem_cons_of_mem _ (List.mem_cons_of_mem _ (List.mem_cons_of_mem _ (List.mem_cons_self))))))))))) | (with_reducible exact List.mem_cons_of_mem _ (List.mem_cons_of_mem _ (List.mem_cons_of_mem _ (List.mem_cons_of_mem _ (List.mem_cons_of_mem _ (List.mem_cons_of_mem _ (List.mem_cons_of_mem _ (List.mem_cons_of_mem _ (List.mem_cons_of_mem _ (List.mem_cons_of_mem _ (List.mem_cons_of_mem _ (List.mem_cons_self)))))))))))) | (with_reducible exact List.mem_cons_of_mem _ (List.mem_cons_of_mem _ (List.mem_cons_of_mem _ (List.mem_cons_of_mem _ (List.mem_cons_of_mem _ (List.mem_cons_of_mem _ (List.mem_cons_of_mem _ (List.mem_cons_of_mem _ (List.mem_cons_of_mem _ (List.mem_cons_of_mem _ (List.mem_cons_of_mem _ (List.mem_cons_of_mem _ (List.mem_cons_self)))))))))))))) ?_ ?_
    · exact rfl
    refine remove_spec (n := x.1.name) hD h.swap fun w hD' h => ?_
    exact behind _ _ _ hD' (remove_stop h0 _) h
end
end Go.Proofs.Ytgnkminakongkaa

namespace Go.Proofs.Ytgnkminakongkaa
open Go Go.Sep Go.RowKit
theorem DiskStops_walk (W : World) (s : Sl) (y0 : Rdy W Sh_ty_s_argosylaw03_Op (Sl.val s).cells.toList) (x : Int) (_ : (Lit.int .i64 x).wf = true) :
    Calls Try.prog 9 #[s.val, .int .i64 x] W (Ret fun v w' => v = .bool true ∧ Below W.heap.size W w') := by
  obtain ⟨h1, h2⟩ := rdy_sl y0
  obtain ⟨L, _, hL, hd⟩ := rd_list opF (fun x => OpOk W x) opF_len h1 h2 fun cs hc hr => rdy_op hc hr
  exact law_call (law03_DiskStops_spec hL hd (Holds.start W) fun w h => ⟨rfl, h⟩)
end Go.Proofs.Ytgnkminakongkaa
