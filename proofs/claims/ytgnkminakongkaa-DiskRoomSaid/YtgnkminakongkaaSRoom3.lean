/- DiskRoom. -/
import Derived.Test.YtgnkminakongkaaSOps3
import Derived.Test.YtgnkminakongkaaIRLaw03
namespace Go.Proofs.Ytgnkminakongkaa
open Go Go.Sep
set_option linter.unusedSimpArgs false
set_option linter.unusedVariables false
set_option maxRecDepth 100000

theorem bits_and (n m : Int) (b : Nat) (hm : (BitVec.ofInt 64 m).toNat ≤ b) (hb : b ≤ 9223372036854775807) : 0 ≤ bitsOf .and .i64 n m ∧ bitsOf .and .i64 n m ≤ b := by
  unfold bitsOf
  simp only
  have h1 : ((BitVec.ofInt IntKind.i64.bits n &&& BitVec.ofInt IntKind.i64.bits m).toNat) ≤ b := by
    rw [BitVec.toNat_and]
    exact Nat.le_trans Nat.and_le_right hm
  rw [wrap64 (by omega) (by omega)]
  omega
theorem chg_alive {a : DkA} (h : a.left = -1) : chg a = (a, 0) := by
  unfold chg
  rw [if_neg (by omega), if_neg (by omega)]
theorem usedL_set {fs : Files} {n : List UInt8} {f f' : FileD} (hm : mget n fs = some f) : usedL (mset n f' fs) + f.data.length = usedL fs + f'.data.length := by
  obtain ⟨l1, l2, h1, h2, _⟩ := mget_split hm
  rw [h2]
  conv => rhs; rw [h1]
  rw [usedL_app, usedL_app]
  simp only [usedL]; omega
theorem append_alive {D : DiskD} (h : D.a.left = -1) (n x : List UInt8) : (D.append n x).1.a = D.a ∧ ((D.append n x).2 = 0 → usedL (D.append n x).1.files = usedL D.files + x.length) ∧ ((D.append n x).2 ≠ 0 → (D.append n x).1 = D) := by
  unfold DiskD.append
  split
  · exact ⟨rfl, fun h => by simp at h, fun _ => rfl⟩
  split
  · exact ⟨rfl, fun h => by simp at h, fun _ => rfl⟩
  split
  · exact ⟨rfl, fun h => by simp at h, fun _ => rfl⟩
  rw [chg_alive h]
  refine ⟨rfl, fun _ => ?_, fun h => by simp at h⟩
  simp only
  cases hm : mget n D.files with
  | none =>
    rw [mset_none hm, usedL_app]
    simp [usedL]
  | some f =>
    have := usedL_set (f' := ⟨f.data ++ x, f.last⟩) hm
    simp only [Option.getD_some, List.length_append] at this ⊢
    omega

section
variable {B w : World} {Γ : List HProp}
theorem used_specR {d : Nat} {D : DiskD} {k : Int → K} (hD : OkD D) (h : Holds B (DiskR d D :: Γ) w) (hk : ∀ w, Holds B (DiskR d D :: Γ) w → k (usedL D.files : Int) w) : disk_Disk_Used.call (some ⟨d, 0, none⟩) k w := by
  obtain ⟨mb, fs, hp, h⟩ := DiskR.opens h
  have hux : usedX fs = usedL D.files := by rw [usedX_plain, hp]
  have hus := hD.used
  have hro := hD.roomN
  refine used_spec (by omega) h fun w h => ?_
  rw [hux]
  exact hk _ (DiskR.shuts rfl hp h)

theorem law03_DiskRoom_spec {k : Bool → K} {room : Int} {s : Sl} {L : List OpX} (hs : RdC B s 6 (L.flatMap opF)) (hL : ∀ x ∈ L, OpOk B x) (h : Holds B Γ w) (hk : ∀ w, Holds B Γ w → k true w) : law03_DiskRoom.call room s k w := by
  have hsn : L.length = s.n := by have := hs.len; rw [flatMap_len opF 6 opF_len] at this; omega
  refine law03_DiskRoom_ok _ _ _ _ ?_
  unfold law03_DiskRoom
  refine law03_speaks_spec h fun w h => ?_
  refine r_ite_f rfl ?_
  refine law03_great_spec hs hL h fun r w hr h => ?_
  refine r_ite (fun _ => hk _ h) (fun hr0 => ?_)
  obtain ⟨hL2, hfit⟩ := hr hr0
  obtain ⟨hm0, hm1⟩ := bits_and room 255 255 (by decide) (by decide)
  obtain ⟨R, hR⟩ : ∃ R, R = 1 + bitsOf .and .i64 room 255 := ⟨_, rfl⟩
  refine r_ar rfl ?_
  refine r_ar (e' := R) (by rw [hR]; exact wrap64 (by omega) (by omega)) ?_
  refine new_spec h (fun hb => by omega) fun d w _ _ h => ?_
  refine r_ite_f rfl ?_
  refine LoopK.of (fun t w => ∃ (j : Nat) (D : DiskD), t = (j : Int) ∧ j ≤ L.length ∧ OkD D ∧ D.a = ⟨R, -1, false⟩ ∧ Holds B (DiskR d D :: Γ) w) (fun t _ => ((s.n : Int) - t).toNat) ⟨0, .new R, rfl, by omega, new_ok (by omega) (by omega), rfl, h⟩ ?_
  clear h
  rintro t w ⟨j, D, rfl, hj, hD, ha, h⟩
  unfold law03_DiskRoom.b1
  refine r_ite (fun hb => ?_) (fun _ => hk _ h.tail)
  simp only [decide_eq_true_eq] at hb
  have hjl : j < L.length := by omega
  have hx : L[j]? = some L[j] := List.getElem?_eq_getElem hjl
  generalize L[j] = x at hx
  have hxo := hL x (List.mem_of_getElem? hx)
  have hxf := hfit x (List.mem_of_getElem? hx)
  have hxd := hxf.data
  have hdn : x.1.data.length = x.2.1.n := by have := hxo.data.len; simpa using this
  refine r_idxN opF opF_len (by decide) (hs.old h) hx (cs := opA x) rfl fun t40 => ?_
  refine r_new h ?_
  clear h
  intro o8 w h
  try simp only [add_mk, Nat.zero_add, Nat.reduceAdd]
  first | refine r_stN 0 h rfl (by with_reducible exact at0) ?_ ?_ (fun _ _ => nofz _) ?_ ?_ | refine r_stN 1 h rfl (by with_reducible exact at1) ?_ ?_ (fun _ _ => nofz _) ?_ ?_ | refine r_stN 2 h rfl (by with_reducible exact at2) ?_ ?_ (fun _ _ => nofz _) ?_ ?_ | refine r_stN 3 h rfl (by with_reducible exact at3) ?_ ?_ (fun _ _ => nofz _) ?_ ?_ | refine r_stN 4 h rfl (by with_reducible exact at4) ?_ ?_ (fun _ _ => nofz _) ?_ ?_ | refine r_stN 5 h rfl (by with_reducible exact at5) ?_ ?_ (fun _ _ => nofz _) ?_ ?_ | refine r_stN 6 h rfl (by with_reducible exact at6) ?_ ?_ (fun _ _ => nofz _) ?_ ?_ | refine r_stN 7 h rfl (by with_reducible exact at7) ?_ ?_ (fun _ _ => nofz _) ?_ ?_
  · rfl
  · rfl
  · simp [flatV]
  clear h
  intro w h
  try simp only [List.set_cons_zero, List.set_cons_succ, List.eraseIdx_zero, List.eraseIdx_cons_zero, List.eraseIdx_cons_succ, List.setIfInBounds_toArray, List.tail_cons] at h
  refine used_specR hD h.swap fun w h => ?_
  refine names_spec hD h fun t34 w h => ?_
  have h34 : D.names.length = t34.n := by have := h.slCap.1; simpa using this
  replace h := h.tail
  try simp only [add_mk, Nat.zero_add, Nat.reduceAdd]
  refine r_ld (x := (bs x.1.name)) h rfl (by first | (with_reducible exact List.mem_cons_self) | (with_reducible exact List.mem_cons_of_mem _ (List.mem_cons_self)) | (with_reducible exact List.mem_cons_of_mem _ (List.mem_cons_of_mem _ (List.mem_cons_self))) | (with_reducible exact List.mem_cons_of_mem _ (List.mem_cons_of_mem _ (List.mem_cons_of_mem _ (List.mem_cons_self)))) | (with_reducible exact List.mem_cons_of_mem _ (List.mem_cons_of_mem _ (List.mem_cons_of_mem _ (List.mem_cons_of_mem _ (List.mem_cons_self))))) | (with_reducible exact List.mem_cons_of_mem _ (List.mem_cons_of_mem _ (List.mem_cons_of_mem _ (List.mem_cons_of_mem _ (List.mem_cons_of_mem _ (List.mem_cons_self)))))) | (with_reducible exact List.mem_cons_of_mem _ (List.mem_cons_of_mem _ (List.mem_cons_of_mem _ (List.mem_cons_of_mem _ (List.mem_cons_of_mem _ (List.mem_cons_of_mem _ (List.mem_cons_self))))))) | (with_reducible exact List.mem_cons_of_mem _ (List.mem_cons_of_mem _ (List.mem_cons_of_mem _ (List.mem_cons_of_mem _ (List.mem_cons_of_mem _ (List.mem_cons_of_mem _ (List.mem_cons_of_mem _ (List.mem_cons_self)))))))) | (with_reducible exact List.mem_cons_of_mem _ (List.mem_cons_of_mem _ (List.mem_cons_of_mem _ (List.mem_cons_of_mem _ (List.mem_cons_of_mem _ (List.mem_cons_of_mem _ (List.mem_cons_of_mem _ (List.mem_cons_of_mem _ (List.mem_cons_self))))))))) | (with_reducible exact List.mem_cons_of_mem _ (List.mem_cons_of_mem _ (List.mem_cons_of_mem _ (List.mem_cons_of_mem _ (List.mem_cons_of_mem _ (List.mem_cons_of_mem _ (List.mem_cons_of_mem _ (List.mem_cons_of_mem _ (List.mem_cons_of_mem _ (List.mem_cons_self)))))))))) | (with_reducible exact List.mem_cons_of_mem _ (List.mem_cons_of_mem _ (List.mem_cons_of_mem _ (List.mem_cons_of_mem _ (List.mem_cons_of_mem _ (List.mem_cons_of_mem _ (List.mem_cons_of_mem _ (List.mem_cons_of_mem _ (List.mem_cons_of_mem _ (List.mem_cons_of_mem _ (List.mem_cons_self))))))))))) | (with_reducible exact List.mem_cons_of_mem _ (List.mem_cons_of_mem _ (List.mem_cons_of_mem _ (List.mem_cons_of_mem _ (List.mem_cons_of_mem _ (List.mem_cons_of_mem _ (List.mem_cons_of_mem _ (List.mem_cons_of_mem _ (List.mem_cons_of_mem _ (List.mem_cons_of_mem _ (List.mem_cons_of_mem _ (List.mem_cons_self)))))))))))) | (with_reducible exact List.mem_cons_of_mem _ (List.mem_cons_of_mem _ (List.mem_cons_of_mem _ (List.mem_cons_of_mem _ (List.mem_cons_of_mem _ (List.mem_cons_of_mem _ (List.mem_cons_of_mem _ (List.mem_cons_of_mem _ (List.mem_cons_of_mem _ (List.mem_cons_of_mem _ (List.mem_cons_of_mem _ (List.mem_cons_of_mem _ (List.mem_cons_self)))))))))))))) ?_ ?_
  · exact rfl
  refine r_ld (x := x.2.1) h rfl (by first | (with_reducible exact List.mem_cons_self) | (with_reducible exact List.mem_cons_of_mem _ (List.mem_cons_self)) | (with_reducible exact List.mem_cons_of_mem _ (List.mem_cons_of_mem _ (List.mem_cons_self))) | (with_reducible exact List.mem_cons_of_mem _ (List.mem_cons_of_mem _ (List.mem_cons_of_mem _ (List.mem_cons_self)))) | (with_reducible exact List.mem_cons_of_mem _ (List.mem_cons_of_mem _ (List.mem_cons_of_mem _ (List.mem_cons_of_mem _ (List.mem_cons_self))))) | (with_reducible exact List.mem_cons_of_mem _ (List.mem_cons_of_mem _ (List.mem_cons_of_mem _ (List.mem_cons_of_mem _ (List.mem_cons_of_mem _ (List.mem_cons_self)))))) | (with_reducible exact List.mem_cons_of_mem _ (List.mem_cons_of_mem _ (List.mem_cons_of_mem _ (List.mem_cons_of_mem _ (List.mem_cons_of_mem _ (List.mem_cons_of_mem _ (List.mem_cons_self))))))) | (with_reducible exact List.mem_cons_of_mem _ (List.mem_cons_of_mem _ (List.mem_cons_of_mem _ (List.mem_cons_of_mem _ (List.mem_cons_of_mem _ (List.mem_cons_of_mem _ (List.mem_cons_of_mem _ (List.mem_cons_self)))))))) | (with_reducible exact List.mem_cons_of_mem _ (List.mem_cons_of_mem _ (List.mem_cons_of_mem _ (List.mem_cons_of_mem _ (List.mem_cons_of_mem _ (List.mem_cons_of_mem _ (List.mem_cons_of_mem _ (List.mem_cons_of_mem _ (List.mem_cons_self))))))))) | (with_reducible exact List.mem_cons_of_mem _ (List.mem_cons_of_mem _ (List.mem_cons_of_mem _ (List.mem_cons_of_mem _ (List.mem_cons_of_mem _ (List.mem_cons_of_mem _ (List.mem_cons_of_mem _ (List.mem_cons_of_mem _ (List.mem_cons_of_mem _ (List.mem_cons_self)))))))))) | (with_reducible exact List.mem_cons_of_mem _ (List.mem_cons_of_mem _ (List.mem_cons_of_mem _ (List.mem_cons_of_mem _ (List.mem_cons_of_mem _ (List.mem_cons_of_mem _ (List.mem_cons_of_mem _ (List.mem_cons_of_mem _ (List.mem_cons_of_mem _ (List.mem_cons_of_mem _ (List.mem_cons_self))))))))))) | (with_reducible exact List.mem_cons_of_mem _ (List.mem_cons_of_mem _ (List.mem_cons_of_mem _ (List.mem_cons_of_mem _ (List.mem_cons_of_mem _ (List.mem_cons_of_mem _ (List.mem_cons_of_mem _ (List.mem_cons_of_mem _ (List.mem_cons_of_mem _ (List.mem_cons_of_mem _ (List.mem_cons_of_mem _ (List.mem_cons_self)))))))))))) | (with_reducible exact List.mem_cons_of_mem _ (List.mem_cons_of_mem _ (List.mem_cons_of_mem _ (List.mem_cons_of_mem _ (List.mem_cons_of_mem _ (List.mem_cons_of_mem _ (List.mem_cons_of_mem _ (List.mem_cons_of_mem _ (List.mem_cons_of_mem _ (List.mem_cons_of_mem _ (List.mem_cons_of_mem _ (List.mem_cons_of_mem _ (List.mem_cons_self)))))))))))))) ?_ ?_
  · exact rfl
  refine append_spec (n := x.1.name) (x := x.1.data) hD (by omega) h (fun w h => hxo.data.old h) fun w hD' h => ?_
  obtain ⟨g1, g2, g3⟩ := append_alive (D := D) (by rw [ha]) x.1.name x.1.data
  generalize D.append x.1.name x.1.data = DE at hD' h g1 g2 g3
  obtain ⟨D', e⟩ := DE
  simp only at hD' h g1 g2 g3
  have ha' : D'.a = ⟨R, -1, false⟩ := by rw [g1, ha]
  have hus' := hD'.used
  have hfew' := hD'.few
  rw [ha'] at hus'
  have hus := hD.used
  rw [ha] at hus
  simp only at hus hus'
  refine r_dr h ?_
  clear h
  intro w h
  refine r_withS h ?_
  -- behind the tests: the room, the names
  have tail : ∀ w, Holds B (DiskR d D' :: blk o8 (.cells (opA x) 57 (0, 0)) :: Γ) w →
      law03_DiskRoom.s2 k (fun t w' => (∃ (j : Nat) (D : DiskD), t = (j : Int) ∧ j ≤ L.length ∧ OkD D ∧ D.a = ⟨R, -1, false⟩ ∧ Holds B (DiskR d D :: Γ) w') ∧ ((s.n : Int) - t).toNat < ((s.n : Int) - (j : Int)).toNat) room (some ⟨d, 0, none⟩) s (s.n : Int) (j : Int) false w := by
    intro w h
    unfold law03_DiskRoom.s2
    refine r_ite_f rfl ?_
    refine used_specR hD' h fun w h => ?_
    refine r_ar rfl ?_
    refine r_ar (e' := R) (by rw [hR]; exact wrap64 (by omega) (by omega)) ?_
    refine r_ite_f (by simp only [decide_eq_false_iff_not]; omega) ?_
    refine names_spec hD' h fun t79 w h => ?_
    have h79 : D'.names.length = t79.n := by have := h.slCap.1; simpa using this
    have hnl := names_len D'
    unfold law03_DiskRoom.s3
    refine r_ite_f (by simp only [decide_eq_false_iff_not]; omega) ?_
    refine r_add64 (by omega) (by omega) ?_
    exact ⟨⟨j + 1, D', by omega, by omega, hD', ha', h.tail.del 1 at1⟩, by omega⟩
  refine r_ite (fun hb2 => ?_) (fun hb2 => ?_)
  · simp only [decide_eq_true_eq] at hb2
    have hDD := g3 hb2
    refine used_specR hD' h fun w h => ?_
    refine r_sv h ?_
    refine r_ite_f (by rw [hDD]; simp) ?_
    refine names_spec hD' h fun t51 w h => ?_
    have h51 : D'.names.length = t51.n := by have := h.slCap.1; simpa using this
    rw [hDD] at h51
    refine r_sv h.tail ?_
    refine r_ite_f (by simp only [decide_eq_false_iff_not]; omega) ?_
    refine r_ite_f (by simpa using hb2) ?_
    exact tail _ h.tail
  · simp only [decide_eq_false_iff_not, Decidable.not_not] at hb2
    refine r_ite_t (by simpa using hb2) ?_
    try simp only [add_mk, Nat.zero_add, Nat.reduceAdd]
    refine r_ldS (x := x.2.1) rfl (by first | (with_reducible exact List.mem_cons_self) | (with_reducible exact List.mem_cons_of_mem _ (List.mem_cons_self)) | (with_reducible exact List.mem_cons_of_mem _ (List.mem_cons_of_mem _ (List.mem_cons_self))) | (with_reducible exact List.mem_cons_of_mem _ (List.mem_cons_of_mem _ (List.mem_cons_of_mem _ (List.mem_cons_self)))) | (with_reducible exact List.mem_cons_of_mem _ (List.mem_cons_of_mem _ (List.mem_cons_of_mem _ (List.mem_cons_of_mem _ (List.mem_cons_self))))) | (with_reducible exact List.mem_cons_of_mem _ (List.mem_cons_of_mem _ (List.mem_cons_of_mem _ (List.mem_cons_of_mem _ (List.mem_cons_of_mem _ (List.mem_cons_self)))))) | (with_reducible exact List.mem_cons_of_mem _ (List.mem_cons_of_mem _ (List.mem_cons_of_mem _ (List.mem_cons_of_mem _ (List.mem_cons_of_mem _ (List.mem_cons_of_mem _ (List.mem_cons_self))))))) | (with_reducible exact List.mem_cons_of_mem _ (List.mem_cons_of_mem _ (List.mem_cons_of_mem _ (List.mem_cons_of_mem _ (List.mem_cons_of_mem _ (List.mem_cons_of_mem _ (List.mem_cons_of_mem _ (List.mem_cons_self)))))))) | (with_reducible exact List.mem_cons_of_mem _ (List.mem_cons_of_mem _ (List.mem_cons_of_mem _ (List.mem_cons_of_mem _ (List.mem_cons_of_mem _ (List.mem_cons_of_mem _ (List.mem_cons_of_mem _ (List.mem_cons_of_mem _ (List.mem_cons_self))))))))) | (with_reducible exact List.mem_cons_of_mem _ (List.mem_cons_of_mem _ (List.mem_cons_of_mem _ (List.mem_cons_of_mem _ (List.mem_cons_of_mem _ (List.mem_cons_of_mem _ (List.mem_cons_of_mem _ (List.mem_cons_of_mem _ (List.mem_cons_of_mem _ (List.mem_cons_self)))))))))) | (with_reducible exact List.mem_cons_of_mem _ (List.mem_cons_of_mem _ (List.mem_cons_of_mem _ (List.mem_cons_of_mem _ (List.mem_cons_of_mem _ (List.mem_cons_of_mem _ (List.mem_cons_of_mem _ (List.mem_cons_of_mem _ (List.mem_cons_of_mem _ (List.mem_cons_of_mem _ (List.mem_cons_self))))))))))) | (with_reducible exact List.mem_cons_of_mem _ (List.mem_cons_of_mem _ (List.mem_cons_of_mem _ (List.mem_cons_of_mem _ (List.mem_cons_of_mem _ (List.mem_cons_of_mem _ (List.mem_cons_of_mem _ (List.mem_cons_of_mem _ (List.mem_cons_of_mem _ (List.mem_cons_of_mem _ (List.mem_cons_of_mem _ (List.mem_cons_self)))))))))))) | (with_reducible exact List.mem_cons_of_mem _ (List.mem_cons_of_mem _ (List.mem_cons_of_mem _ (List.mem_cons_of_mem _ (List.mem_cons_of_mem _ (List.mem_cons_of_mem _ (List.mem_cons_of_mem _ (List.mem_cons_of_mem _ (List.mem_cons_of_mem _ (List.mem_cons_of_mem _ (List.mem_cons_of_mem _ (List.mem_cons_of_mem _ (List.mem_cons_self)))))))))))))) ?_ ?_
    · exact rfl
    refine r_ar (e' := ((usedL D.files + x.1.data.length : Nat) : Int)) (by rw [wrap64 (by omega) (by omega)]; omega) ?_
    refine used_specR hD' h fun w h => ?_
    refine r_sv h ?_
    have := g2 hb2
    rw [decide_eq_false (by omega)]
    exact tail _ h
end
end Go.Proofs.Ytgnkminakongkaa

namespace Go.Proofs.Ytgnkminakongkaa
open Go Go.Sep Go.RowKit
theorem DiskRoom_walk (W : World) (x : Int) (_ : (Lit.int .i64 x).wf = true) (s : Sl) (y0 : Rdy W Sh_ty_s_argosylaw03_Op (Sl.val s).cells.toList) :
    Calls Try.prog 5 #[.int .i64 x, s.val] W (Ret fun v w' => v = .bool true ∧ Below W.heap.size W w') := by
  obtain ⟨h1, h2⟩ := rdy_sl y0
  obtain ⟨L, _, hL, hd⟩ := rd_list opF (fun x => OpOk W x) opF_len h1 h2 fun cs hc hr => rdy_op hc hr
  exact law_call (law03_DiskRoom_spec hL hd (Holds.start W) fun w h => ⟨rfl, h⟩)
end Go.Proofs.Ytgnkminakongkaa
