/- DiskTwice. -/
import Derived.Test.YtgnkminakongkaaSOps3
import Derived.Test.YtgnkminakongkaaIRLaw031
namespace Go.Proofs.Ytgnkminakongkaa
open Go Go.Sep
set_option linter.unusedSimpArgs false
set_option linter.unusedVariables false
set_option maxRecDepth 100000

theorem crash_at {ks : List Int} {g : List UInt8 → FileD} {ns : List (List UInt8)} {n : List UInt8} (hnd : ns.Nodup) (hn : n ∈ ns) : ∃ i, mget n (crashL ks g ns) = some (crashF ks i (g n)) := by
  obtain ⟨i, hi⟩ := List.getElem?_of_mem hn
  refine ⟨i, ?_⟩
  have hm : (n, crashF ks i (g n)) ∈ crashL ks g ns := by
    unfold crashL
    refine List.mem_map.2 ⟨(n, i), ?_, rfl⟩
    exact List.mem_of_getElem? (i := i) (by rw [List.getElem?_zipIdx, hi]; simp)
  have := mget_of_mem (m := crashL ks g ns) (by rw [crashL_fst]; exact hnd) hm
  exact this
/-- What is there of a file behind a crash. -/
theorem mget_crash {D : DiskD} (hD : OkD D) (ks : List Int) {n : List UInt8} {f : FileD} (hm : mget n D.files = some f) : ∃ i, mget n (D.crash ks).files = some (crashF ks i f) := by
  have hn : n ∈ D.names := names_mem.2 (by
    have := List.mem_map_of_mem (f := Prod.fst) (mget_mem hm)
    exact this)
  obtain ⟨i, hi⟩ := crash_at (ks := ks) (g := D.file) (names_nodup hD) hn
  refine ⟨i, ?_⟩
  have hf : D.file n = f := by unfold DiskD.file; rw [hm]; rfl
  rw [hf] at hi
  exact hi
theorem mget_crash0 {D : DiskD} (ks : List Int) {n : List UInt8} (hm : mget n D.files = none) : mget n (D.crash ks).files = none := by
  cases hx : mget n (D.crash ks).files with
  | none => rfl
  | some y =>
    exfalso
    have h1 := List.mem_map_of_mem (f := Prod.fst) (mget_mem hx)
    have h2 : n ∈ D.names := by
      have : (D.crash ks).files.map Prod.fst = D.names := crashL_fst _ _ _
      rw [this] at h1
      exact h1
    obtain ⟨p, hp, he⟩ := List.mem_map.1 (names_mem.1 h2)
    exact mget_none_mem hm p hp he
theorem crashF_last (ks : List Int) (i : Nat) {f : FileD} (hl : f.last ≤ f.data.length) : (crashF ks i f).last = (crashF ks i f).data.length := by
  have := keepOf_le ks i f
  simp only [crashF, List.length_take]
  omega
theorem crashF_same (ks : List Int) (i : Nat) {f : FileD} (hl : f.last = f.data.length) : crashF ks i f = f := by
  have := keepOf_le ks i f
  have hk : keepOf ks i f = 0 := by omega
  unfold crashF
  rw [hk, Nat.add_zero, hl, List.take_length]
  cases f
  simp only at hl
  rw [hl]
/-- All that is there lasts. -/
def AllLast (D : DiskD) : Prop := ∀ n f, mget n D.files = some f → f.last = f.data.length
theorem crash_all {D : DiskD} (hD : OkD D) (ks : List Int) : AllLast (D.crash ks) := by
  intro n f hf
  cases hm : mget n D.files with
  | none => rw [mget_crash0 ks hm] at hf; cases hf
  | some g =>
    obtain ⟨i, hi⟩ := mget_crash hD ks hm
    rw [hi] at hf
    cases hf
    exact crashF_last ks i (data_le hD hm).2
theorem crash_read {D : DiskD} (hD : OkD D) (hA : AllLast D) (ks : List Int) (n : List UInt8) {f : FileD} (hm : mget n D.files = some f) : (D.crash ks).read n = (f.data, 0) := by
  obtain ⟨i, hi⟩ := mget_crash hD ks hm
  rw [crashF_same ks i (hA n f hm)] at hi
  unfold DiskD.read
  rw [if_neg (by simp [DiskD.crash]), hi]
theorem crash_used {D : DiskD} (hD : OkD D) (hA : AllLast D) (ks : List Int) : usedL (D.crash ks).files = usedL D.files := by
  have h2 : sumL D.file D.names = usedL D.files := (sumL_perm (List.mergeSort_perm _ _)).trans (sumL_files hD)
  have key : ∀ (ns : List (List UInt8)) (i : Nat), (∀ n ∈ ns, (D.file n).last = (D.file n).data.length) → usedL ((ns.zipIdx i).map fun p => (p.1, crashF ks p.2 (D.file p.1))) = sumL D.file ns := by
    intro ns
    induction ns with
    | nil => intro i _; rfl
    | cons n ns ih =>
      intro i h
      simp only [List.zipIdx_cons, List.map_cons, usedL, sumL, crashF_same ks i (h n List.mem_cons_self), ih (i + 1) (fun m hm => h m (List.mem_cons_of_mem _ hm))]
  rw [← h2]
  refine key D.names 0 fun n hn => ?_
  obtain ⟨f, hf⟩ := mget_some_of_key (names_mem.1 hn)
  have : D.file n = f := by unfold DiskD.file; rw [hf]; rfl
  rw [this]
  exact hA n f hf

section
variable {B w : World} {Γ : List HProp}
theorem used_specR {d : Nat} {D : DiskD} {k : Int → K} (hD : OkD D) (h : Holds B (DiskR d D :: Γ) w) (hk : ∀ w, Holds B (DiskR d D :: Γ) w → k (usedL D.files : Int) w) : disk_Disk_Used.call (some ⟨d, 0, none⟩) k w := by
  obtain ⟨mb, fs, hp, h⟩ := DiskR.opens h
  have hux : usedX fs = usedL D.files := by rw [usedX_plain, hp]
  have hus := hD.used
  have hro := hD.roomN
  refine used_spec (by omega) h fun w h => ?_
  rw [hux]
  exact hk _ (DiskR.shuts rfl hp h)
/-- A name of a slice of names. -/
theorem r_name {s : Sl} {ns : List (List UInt8)} {j : Nat} {n : List UInt8} {k : ByteArray → K} (hr : RdC w s 1 (ns.map strV)) (hx : ns[j]? = some n) (hk : k (bs n) w) : Idx s (j : Int) 1 (fun t => Ld t Value.string k) w := by
  have hr2 : RdC w s 1 ((ns.map bs).map Value.string) := by rw [List.map_map]; exact hr
  exact r_idx1 hr2 (by rw [List.getElem?_map, hx]; rfl) hk

theorem law03_DiskTwice_spec {k : Bool → K} {s f1 f2 : Sl} {L : List OpX} {k1 k2 : List Int} (hs : RdC B s 6 (L.flatMap opF)) (hL : ∀ x ∈ L, OpOk B x) (hk1 : RdC B f1 1 (k1.map (Value.int .i64))) (hk2 : RdC B f2 1 (k2.map (Value.int .i64))) (h : Holds B Γ w) (hk : ∀ w, Holds B Γ w → k true w) : law03_DiskTwice.call s f1 f2 k w := by
  have hsn : L.length = s.n := by have := hs.len; rw [flatMap_len opF 6 opF_len] at this; omega
  refine law03_DiskTwice_ok _ _ _ _ _ ?_
  unfold law03_DiskTwice
  refine law03_speaks_spec h fun w h => ?_
  refine r_ite_f rfl ?_
  refine law03_great_spec hs hL h fun r w hr h => ?_
  unfold law03_DiskTwice.s1
  refine r_ite (fun _ => r_ite_t rfl (hk _ h)) (fun hr0 => ?_)
  obtain ⟨hL2, hfit⟩ := hr hr0
  refine r_ite (fun _ => r_ite_t rfl (hk _ h)) (fun _ => ?_)
  refine r_ite (fun _ => hk _ h) (fun _ => ?_)
  refine new_spec h (fun hb => by omega) fun d w _ _ h => ?_
  refine r_ite_f rfl ?_
  refine LoopK.of (fun t w => ∃ (j : Nat) (D : DiskD), t = (j : Int) ∧ j ≤ L.length ∧ OkD D ∧ Holds B (DiskR d D :: Γ) w) (fun t _ => ((s.n : Int) - t).toNat) ⟨0, .new 10000, rfl, by omega, new_ok (by decide) (by decide), h⟩ ?_
  clear h
  rintro t w ⟨j, D, rfl, hj, hD, h⟩
  unfold law03_DiskTwice.b2
  refine r_ite (fun hb => ?_) (fun hb => ?_)
  · simp only [decide_eq_true_eq] at hb
    have hjl : j < L.length := by omega
    have hx : L[j]? = some L[j] := List.getElem?_eq_getElem hjl
    generalize L[j] = x at hx
    have hxo := hL x (List.mem_of_getElem? hx)
    have hxd := (hfit x (List.mem_of_getElem? hx)).data
    refine r_idxN opF opF_len (by decide) (hs.old h) hx (cs := opA x) rfl fun t40 => ?_
    refine r_new h ?_
    clear h
    intro o10 w h
    try simp only [add_mk, Nat.zero_add, Nat.reduceAdd]
    first | refine r_stN 0 h rfl (by with_reducible exact at0) ?_ ?_ (fun _ _ => nofz _) ?_ ?_ | refine r_stN 1 h rfl (by with_reducible exact at1) ?_ ?_ (fun _ _ => nofz _) ?_ ?_ | refine r_stN 2 h rfl (by with_reducible exact at2) ?_ ?_ (fun _ _ => nofz _) ?_ ?_ | refine r_stN 3 h rfl (by with_reducible exact at3) ?_ ?_ (fun _ _ => nofz _) ?_ ?_ | refine r_stN 4 h rfl (by with_reducible exact at4) ?_ ?_ (fun _ _ => nofz _) ?_ ?_ | refine r_stN 5 h rfl (by with_reducible exact at5) ?_ ?_ (fun _ _ => nofz _) ?_ ?_ | refine r_stN 6 h rfl (by with_reducible exact at6) ?_ ?_ (fun _ _ => nofz _) ?_ ?_ | refine r_stN 7 h rfl (by with_reducible exact at7) ?_ ?_ (fun _ _ => nofz _) ?_ ?_
    · rfl
    · rfl
    · simp [flatV]
    clear h
    intro w h
    try simp only [List.set_cons_zero, List.set_cons_succ, List.eraseIdx_zero, List.eraseIdx_cons_zero, List.eraseIdx_cons_succ, List.setIfInBounds_toArray, List.tail_cons] at h
    try simp only [add_mk, Nat.zero_add, Nat.reduceAdd]
    refine r_ld (x := x.1.kind) h rfl (by first | (with_reducible exact List.mem_cons_self) | (with_reducible exact List.mem_cons_of_mem _ (List.mem_cons_self)) | (with_reducible exact List.mem_cons_of_mem _ (List.mem_cons_of_mem _ (List.mem_cons_self))) | (with_reducible exact List.mem_cons_of_mem _ (List.mem_cons_of_mem _ (List.mem_cons_of_mem _ (List.mem_cons_self)))) | (with_reducible exact List.mem_cons_of_mem _ (List.mem_cons_of_mem _ (List.mem_cons_of_mem _ (List.mem_cons_of_mem _ (List.mem_cons_self))))) | (with_reducible exact List.mem_cons_of_mem _ (List.mem_cons_of_mem _ (List.mem_cons_of_mem _ (List.mem_cons_of_mem _ (List.mem_cons_of_mem _ (List.mem_cons_self)))))) | (with_reducible exact List.mem_cons_of_mem _ (List.mem_cons_of_mem _ (List.mem_cons_of_mem _ (List.mem_cons_of_mem _ (List.mem_cons_of_mem _ (List.mem_cons_of_mem _ (List.mem_cons_self))))))) | (with_reducible exact List.mem_cons_of_mem _ (List.mem_cons_of_mem _ (List.mem_cons_of_mem _ (List.mem_cons_of_mem _ (List.mem_cons_of_mem _ (List.mem_cons_of_mem _ (List.mem_cons_of_mem _ (List.mem_cons_self)))))))) | (with_reducible exact List.mem_cons_of_mem _ (List.mem_cons_of_mem _ (List.mem_cons_of_mem _ (List.mem_cons_of_mem _ (List.mem_cons_of_mem _ (List.mem_cons_of_mem _ (List.mem_cons_of_mem _ (List.mem_cons_of_mem _ (List.mem_cons_self))))))))) | (with_reducible exact List.mem_cons_of_mem _ (List.mem_cons_of_mem _ (List.mem_cons_of_mem _ (List.mem_cons_of_mem _ (List.mem_cons_of_mem _ (List.mem_cons_of_mem _ (List.mem_cons_of_mem _ (List.mem_cons_of_mem _ (List.mem_cons_of_mem _ (List.mem_cons_self)))))))))) | (with_reducible exact List.mem_cons_of_mem _ (List.mem_cons_of_mem _ (List.mem_cons_of_mem _ (List.mem_cons_of_mem _ (List.mem_cons_of_mem _ (List.mem_cons_of_mem _ (List.mem_cons_of_mem _ (List.mem_cons_of_mem _ (List.mem_cons_of_mem _ (List.mem_cons_of_mem _ (List.mem_cons_self))))))))))) | (with_reducible exact List.mem_cons_of_mem _ (List.mem_cons_of_mem _ (List.mem_cons_of_mem _ (List.mem_cons_of_mem _ (List.mem_cons_of_mem _ (List.mem_cons_of_mem _ (List.mem_cons_of_mem _ (List.mem_cons_of_mem _ (List.mem_cons_of_mem _ (List.mem_cons_of_mem _ (List.mem_cons_of_mem _ (List.mem_cons_self)))))))))))) | (with_reducible exact List.mem_cons_of_mem _ (List.mem_cons_of_mem _ (List.mem_cons_of_mem _ (List.mem_cons_of_mem _ (List.mem_cons_of_mem _ (List.mem_cons_of_mem _ (List.mem_cons_of_mem _ (List.mem_cons_of_mem _ (List.mem_cons_of_mem _ (List.mem_cons_of_mem _ (List.mem_cons_of_mem _ (List.mem_cons_of_mem _ (List.mem_cons_self)))))))))))))) ?_ ?_
    · exact rfl
    refine r_ar rfl ?_
    unfold law03_DiskTwice.s3
    refine r_ite (fun _ => ?_) (fun _ => ?_)
    · refine r_ld (x := (bs x.1.name)) h rfl (by first | (with_reducible exact List.mem_cons_self) | (with_reducible exact List.mem_cons_of_mem _ (List.mem_cons_self)) | (with_reducible exact List.mem_cons_of_mem _ (List.mem_cons_of_mem _ (List.mem_cons_self))) | (with_reducible exact List.mem_cons_of_mem _ (List.mem_cons_of_mem _ (List.mem_cons_of_mem _ (List.mem_cons_self)))) | (with_reducible exact List.mem_cons_of_mem _ (List.mem_cons_of_mem _ (List.mem_cons_of_mem _ (List.mem_cons_of_mem _ (List.mem_cons_self))))) | (with_reducible exact List.mem_cons_of_mem _ (List.mem_cons_of_mem _ (List.mem_cons_of_mem _ (List.mem_cons_of_mem _ (List.mem_cons_of_mem _ (List.mem_cons_self)))))) | (with_reducible exact List.mem_cons_of_mem _ (List.mem_cons_of_mem _ (List.mem_cons_of_mem _ (List.mem_cons_of_mem _ (List.mem_cons_of_mem _ (List.mem_cons_of_mem _ (List.mem_cons_self))))))) | (with_reducible exact List.mem_cons_of_mem _ (List.mem_cons_of_mem _ (List.mem_cons_of_mem _ (List.mem_cons_of_mem _ (List.mem_cons_of_mem _ (List.mem_cons_of_mem _ (List.mem_cons_of_mem _ (List.mem_cons_self)))))))) | (with_reducible exact List.mem_cons_of_mem _ (List.mem_cons_of_mem _ (List.mem_cons_of_mem _ (List.mem_cons_of_mem _ (List.mem_cons_of_mem _ (List.mem_cons_of_mem _ (List.mem_cons_of_mem _ (List.mem_cons_of_mem _ (List.mem_cons_self))))))))) | (with_reducible exact List.mem_cons_of_mem _ (List.mem_cons_of_mem _ (List.mem_cons_of_mem _ (List.mem_cons_of_mem _ (List.mem_cons_of_mem _ (List.mem_cons_of_mem _ (List.mem_cons_of_mem _ (List.mem_cons_of_mem _ (List.mem_cons_of_mem _ (List.mem_cons_self)))))))))) | (with_reducible exact List.mem_cons_of_mem _ (List.mem_cons_of_mem _ (List.mem_cons_of_mem _ (List.mem_cons_of_mem _ (List.mem_cons_of_mem _ (List.mem_cons_of_mem _ (List.mem_cons_of_mem _ (List.mem_cons_of_mem _ (List.mem_cons_of_mem _ (List.mem_cons_of_mem _ (List.mem_cons_self))))))))))) | (with_reducible exact List.mem_cons_of_mem _ (List.mem_cons_of_mem _ (List.mem_cons_of_mem _ (List.mem_cons_of_mem _ (List.mem_cons_of_mem _ (List.mem_cons_of_mem _ (List.mem_cons_of_mem _ (List.mem_cons_of_mem _ (List.mem_cons_of_mem _ (List.mem_cons_of_mem _ (List.mem_cons_of_mem _ (List.mem_cons_self)))))))))))) | (with_reducible exact List.mem_cons_of_mem _ (List.mem_cons_of_mem _ (List.mem_cons_of_mem _ (List.mem_cons_of_mem _ (List.mem_cons_of_mem _ (List.mem_cons_of_mem _ (List.mem_cons_of_mem _ (List.mem_cons_of_mem _ (List.mem_cons_of_mem _ (List.mem_cons_of_mem _ (List.mem_cons_of_mem _ (List.mem_cons_of_mem _ (List.mem_cons_self)))))))))))))) ?_ ?_
      · exact rfl
      refine r_ld (x := x.2.1) h rfl (by first | (with_reducible exact List.mem_cons_self) | (with_reducible exact List.mem_cons_of_mem _ (List.mem_cons_self)) | (with_reducible exact List.mem_cons_of_mem _ (List.mem_cons_of_mem _ (List.mem_cons_self))) | (with_reducible exact List.mem_cons_of_mem _ (List.mem_cons_of_mem _ (List.mem_cons_of_mem _ (List.mem_cons_self)))) | (with_reducible exact List.mem_cons_of_mem _ (List.mem_cons_of_mem _ (List.mem_cons_of_mem _ (List.mem_cons_of_mem _ (List.mem_cons_self))))) | (with_reducible exact List.mem_cons_of_mem _ (List.mem_cons_of_mem _ (List.mem_cons_of_mem _ (List.mem_cons_of_mem _ (List.mem_cons_of_mem _ (List.mem_cons_self)))))) | (with_reducible exact List.mem_cons_of_mem _ (List.mem_cons_of_mem _ (List.mem_cons_of_mem _ (List.mem_cons_of_mem _ (List.mem_cons_of_mem _ (List.mem_cons_of_mem _ (List.mem_cons_self))))))) | (with_reducible exact List.mem_cons_of_mem _ (List.mem_cons_of_mem _ (List.mem_cons_of_mem _ (List.mem_cons_of_mem _ (List.mem_cons_of_mem _ (List.mem_cons_of_mem _ (List.mem_cons_of_mem _ (List.mem_cons_self)))))))) | (with_reducible exact List.mem_cons_of_mem _ (List.mem_cons_of_mem _ (List.mem_cons_of_mem _ (List.mem_cons_of_mem _ (List.mem_cons_of_mem _ (List.mem_cons_of_mem _ (List.mem_cons_of_mem _ (List.mem_cons_of_mem _ (List.mem_cons_self))))))))) | (with_reducible exact List.mem_cons_of_mem _ (List.mem_cons_of_mem _ (List.mem_cons_of_mem _ (List.mem_cons_of_mem _ (List.mem_cons_of_mem _ (List.mem_cons_of_mem _ (List.mem_cons_of_mem _ (List.mem_cons_of_mem _ (List.mem_cons_of_mem _ (List.mem_cons_self)))))))))) | (with_reducible exact List.mem_cons_of_mem _ (List.mem_cons_of_mem _ (List.mem_cons_of_mem _ (List.mem_cons_of_mem _ (List.mem_cons_of_mem _ (List.mem_cons_of_mem _ (List.mem_cons_of_mem _ (List.mem_cons_of_mem _ (List.mem_cons_of_mem _ (List.mem_cons_of_mem _ (List.mem_cons_self))))))))))) | (with_reducible exact List.mem_cons_of_mem _ (List.mem_cons_of_mem _ (List.mem_cons_of_mem _ (List.mem_cons_of_mem _ (List.mem_cons_of_mem _ (List.mem_cons_of_mem _ (List.mem_cons_of_mem _ (List.mem_cons_of_mem _ (List.mem_cons_of_mem _ (List.mem_cons_of_mem _ (List.mem_cons_of_mem _ (List.mem_cons_self)))))))))))) | (with_reducible exact List.mem_cons_of_mem _ (List.mem_cons_of_mem _ (List.mem_cons_of_mem _ (List.mem_cons_of_mem _ (List.mem_cons_of_mem _ (List.mem_cons_of_mem _ (List.mem_cons_of_mem _ (List.mem_cons_of_mem _ (List.mem_cons_of_mem _ (List.mem_cons_of_mem _ (List.mem_cons_of_mem _ (List.mem_cons_of_mem _ (List.mem_cons_self)))))))))))))) ?_ ?_
      · exact rfl
      refine append_spec (n := x.1.name) (x := x.1.data) hD (by omega) h.swap (fun w h => hxo.data.old h) fun w hD' h => ?_
      refine r_add64 (by omega) (by omega) ?_
      exact ⟨⟨j + 1, _, by omega, by omega, hD', h.del 1 at1⟩, by omega⟩
    · refine r_ld (x := (bs x.1.name)) h rfl (by first | (with_reducible exact List.mem_cons_self) | (with_reducible exact List.mem_cons_of_mem _ (List.mem_cons_self)) | (with_reducible exact List.mem_cons_of_mem _ (List.mem_cons_of_mem _ (List.mem_cons_self))) | (with_reducible exact List.mem_cons_of_mem _ (List.mem_cons_of_mem _ (List.mem_cons_of_mem _ (List.mem_cons_self)))) | (with_reducible exact List.mem_cons_of_mem _ (List.mem_cons_of_mem _ (List.mem_cons_of_mem _ (List.mem_cons_of_mem _ (List.mem_cons_self))))) | (with_reducible exact List.mem_cons_of_mem _ (List.mem_cons_of_mem _ (List.mem_cons_of_mem _ (List.mem_cons_of_mem _ (List.mem_cons_of_mem _ (List.mem_cons_self)))))) | (with_reducible exact List.mem_cons_of_mem _ (List.mem_cons_of_mem _ (List.mem_cons_of_mem _ (List.mem_cons_of_mem _ (List.mem_cons_of_mem _ (List.mem_cons_of_mem _ (List.mem_cons_self))))))) | (with_reducible exact List.mem_cons_of_mem _ (List.mem_cons_of_mem _ (List.mem_cons_of_mem _ (List.mem_cons_of_mem _ (List.mem_cons_of_mem _ (List.mem_cons_of_mem _ (List.mem_cons_of_mem _ (List.mem_cons_self)))))))) | (with_reducible exact List.mem_cons_of_mem _ (List.mem_cons_of_mem _ (List.mem_cons_of_mem _ (List.mem_cons_of_mem _ (List.mem_cons_of_mem _ (List.mem_cons_of_mem _ (List.mem_cons_of_mem _ (List.mem_cons_of_mem _ (List.mem_cons_self))))))))) | (with_reducible exact List.mem_cons_of_mem _ (List.mem_cons_of_mem _ (List.mem_cons_of_mem _ (List.mem_cons_of_mem _ (List.mem_cons_of_mem _ (List.mem_cons_of_mem _ (List.mem_cons_of_mem _ (List.mem_cons_of_mem _ (List.mem_cons_of_mem _ (List.mem_cons_self)))))))))) | (with_reducible exact List.mem_cons_of_mem _ (List.mem_cons_of_mem _ (List.mem_cons_of_mem _ (List.mem_cons_of_mem _ (List.mem_cons_of_mem _ (List.mem_cons_of_mem _ (List.mem_cons_of_mem _ (List.mem_cons_of_mem _ (List.mem_cons_of_mem _ (List.mem_cons_of_mem _ (List.mem_cons_self))))))))))) | (with_reducible exact List.mem_cons_of_mem _ (List.mem_cons_of_mem _ (List.mem_cons_of_mem _ (List.mem_cons_of_mem _ (List.mem_cons_of_mem _ (List.mem_cons_of_mem _ (List.mem_cons_of_mem _ (List.mem_cons_of_mem _ (List.mem_cons_of_mem _ (List.mem_cons_of_mem _ (List.mem_cons_of_mem _ (List.mem_cons_self)))))))))))) | (with_reducible exact List.mem_cons_of_mem _ (List.mem_cons_of_mem _ (List.mem_cons_of_mem _ (List.mem_cons_of_mem _ (List.mem_cons_of_mem _ (List.mem_cons_of_mem _ (List.mem_cons_of_mem _ (List.mem_cons_of_mem _ (List.mem_cons_of_mem _ (List.mem_cons_of_mem _ (List.mem_cons_of_mem _ (List.mem_cons_of_mem _ (List.mem_cons_self)))))))))))))) ?_ ?_
      · exact rfl
      refine sync_spec (n := x.1.name) hD h.swap fun w hD' h => ?_
      refine r_add64 (by omega) (by omega) ?_
      exact ⟨⟨j + 1, _, by omega, by omega, hD', h.del 1 at1⟩, by omega⟩
  · refine crash_spec (ks := k1) hD h (fun w h => hk1.old h) fun x w h => ?_
    refine r_ite_f rfl ?_
    have hX := hD.crash k1
    have hA := crash_all hD k1
    refine crash_spec (ks := k2) hX h (fun w h => hk2.old h) fun y w h => ?_
    refine r_ite_f rfl ?_
    have hY := hX.crash k2
    refine used_specR hX h.swap fun w h => ?_
    refine used_specR hY h.swap fun w h => ?_
    rw [crash_used hX hA, decide_eq_false (by simp)]
    unfold law03_DiskTwice.s4
    refine r_ite_f rfl ?_
    refine names_spec hX h.swap fun t78 w h => ?_
    have hnn : (D.crash k1).names.length = t78.n := by have := h.slCap.1; simpa using this
    have hxl := names_len (D.crash k1)
    have hxf := hX.few
    refine LoopK.of (fun t w => ∃ j : Nat, t = (j : Int) ∧ j ≤ (D.crash k1).names.length ∧ Holds B (SlS t78 (D.crash k1).names :: DiskR x (D.crash k1) :: DiskR y ((D.crash k1).crash k2) :: DiskR d D :: Γ) w) (fun t _ => ((t78.n : Int) - t).toNat) ⟨0, rfl, by omega, h⟩ ?_
    clear h
    rintro t w ⟨i, rfl, hi, h⟩
    unfold law03_DiskTwice.b5
    refine r_ite (fun hb2 => ?_) (fun _ => hk _ h.tail.tail.tail.tail)
    simp only [decide_eq_true_eq] at hb2
    have hnx : (D.crash k1).names[i]? = some (D.crash k1).names[i] := List.getElem?_eq_getElem (by omega)
    generalize (D.crash k1).names[i] = n at hnx
    obtain ⟨f, hf⟩ := mget_some_of_key (names_mem.1 (List.mem_of_getElem? hnx))
    refine r_name (h.rdC List.mem_cons_self) hnx ?_
    have hrx : (D.crash k1).read n = (f.data, 0) := by
      unfold DiskD.read
      rw [if_neg (by simp [DiskD.crash]), hf]
    have hry := crash_read hX hA k2 n hf
    refine read_spec (n := n) hX h.swap fun s1 w h => ?_
    rw [hrx] at h ⊢
    replace h := h.pick 4 at4
    try simp only [List.set_cons_zero, List.set_cons_succ, List.eraseIdx_zero, List.eraseIdx_cons_zero, List.eraseIdx_cons_succ, List.setIfInBounds_toArray, List.tail_cons] at h
    replace h := h.pick 3 at3
    try simp only [List.set_cons_zero, List.set_cons_succ, List.eraseIdx_zero, List.eraseIdx_cons_zero, List.eraseIdx_cons_succ, List.setIfInBounds_toArray, List.tail_cons] at h
    replace h := h.pick 3 at3
    try simp only [List.set_cons_zero, List.set_cons_succ, List.eraseIdx_zero, List.eraseIdx_cons_zero, List.eraseIdx_cons_succ, List.setIfInBounds_toArray, List.tail_cons] at h
    replace h := h.pick 3 at3
    try simp only [List.set_cons_zero, List.set_cons_succ, List.eraseIdx_zero, List.eraseIdx_cons_zero, List.eraseIdx_cons_succ, List.setIfInBounds_toArray, List.tail_cons] at h
    replace h := h.pick 4 at4
    try simp only [List.set_cons_zero, List.set_cons_succ, List.eraseIdx_zero, List.eraseIdx_cons_zero, List.eraseIdx_cons_succ, List.setIfInBounds_toArray, List.tail_cons] at h
    refine read_spec (n := n) hY h fun s2 w h => ?_
    rw [hry] at h ⊢
    refine r_ite_f rfl (r_ite_f rfl ?_)
    refine r_str (by kernel_rfl) (Bytes.rd (s := s1) (xs := f.data) h (by first | (with_reducible exact List.mem_cons_self) | (with_reducible exact List.mem_cons_of_mem _ (List.mem_cons_self)) | (with_reducible exact List.mem_cons_of_mem _ (List.mem_cons_of_mem _ (List.mem_cons_self))) | (with_reducible exact List.mem_cons_of_mem _ (List.mem_cons_of_mem _ (List.mem_cons_of_mem _ (List.mem_cons_self)))) | (with_reducible exact List.mem_cons_of_mem _ (List.mem_cons_of_mem _ (List.mem_cons_of_mem _ (List.mem_cons_of_mem _ (List.mem_cons_self))))) | (with_reducible exact List.mem_cons_of_mem _ (List.mem_cons_of_mem _ (List.mem_cons_of_mem _ (List.mem_cons_of_mem _ (List.mem_cons_of_mem _ (List.mem_cons_self)))))) | (with_reducible exact List.mem_cons_of_mem _ (List.mem_cons_of_mem _ (List.mem_cons_of_mem _ (List.mem_cons_of_mem _ (List.mem_cons_of_mem _ (List.mem_cons_of_mem _ (List.mem_cons_self))))))) | (with_reducible exact List.mem_cons_of_mem _ (List.mem_cons_of_mem _ (List.mem_cons_of_mem _ (List.mem_cons_of_mem _ (List.mem_cons_of_mem _ (List.mem_cons_of_mem _ (List.mem_cons_of_mem _ (List.mem_cons_self)))))))) | (with_reducible exact List.mem_cons_of_mem _ (List.mem_cons_of_mem _ (List.mem_cons_of_mem _ (List.mem_cons_of_mem _ (List.mem_cons_of_mem _ (List.mem_cons_of_mem _ (List.mem_cons_of_mem _ (List.mem_cons_of_mem _ (List.mem_cons_self))))))))) | (with_reducible exact List.mem_cons_of_mem _ (List.mem_cons_of_mem _ (List.mem_cons_of_mem _ (List.mem_cons_of_mem _ (List.mem_cons_of_mem _ (List.mem_cons_of_mem _ (List.mem_cons_of_mem _ (List.mem_cons_of_mem _ (List.mem_cons_of_mem _ (List.mem_cons_self)))))))))) | (with_reducible exact List.mem_cons_of_mem _ (List.mem_cons_of_mem _ (List.mem_cons_of_mem _ (List.mem_cons_of_mem _ (List.mem_cons_of_mem _ (List.mem_cons_of_mem _ (List.mem_cons_of_mem _ (List.mem_cons_of_mem _ (List.mem_cons_of_mem _ (List.mem_cons_of_mem _ (List.mem_cons_self))))))))))) | (with_reducible exact List.mem_cons_of_mem _ (List.mem_cons_of_mem _ (List.mem_cons_of_mem _ (List.mem_cons_of_mem _ (List.mem_cons_of_mem _ (List.mem_cons_of_mem _ (List.mem_cons_of_mem _ (List.mem_cons_of_mem _ (List.mem_cons_of_mem _ (List.mem_cons_of_mem _ (List.mem_cons_of_mem _ (List.mem_cons_self)))))))))))) | (with_reducible exact List.mem_cons_of_mem _ (List.mem_cons_of_mem _ (List.mem_cons_of_mem _ (List.mem_cons_of_mem _ (List.mem_cons_of_mem _ (List.mem_cons_of_mem _ (List.mem_cons_of_mem _ (List.mem_cons_of_mem _ (List.mem_cons_of_mem _ (List.mem_cons_of_mem _ (List.mem_cons_of_mem _ (List.mem_cons_of_mem _ (List.mem_cons_self))))))))))))))) ?_
    refine r_str (by kernel_rfl) (Bytes.rd (s := s2) (xs := f.data) h (by first | (with_reducible exact List.mem_cons_self) | (with_reducible exact List.mem_cons_of_mem _ (List.mem_cons_self)) | (with_reducible exact List.mem_cons_of_mem _ (List.mem_cons_of_mem _ (List.mem_cons_self))) | (with_reducible exact List.mem_cons_of_mem _ (List.mem_cons_of_mem _ (List.mem_cons_of_mem _ (List.mem_cons_self)))) | (with_reducible exact List.mem_cons_of_mem _ (List.mem_cons_of_mem _ (List.mem_cons_of_mem _ (List.mem_cons_of_mem _ (List.mem_cons_self))))) | (with_reducible exact List.mem_cons_of_mem _ (List.mem_cons_of_mem _ (List.mem_cons_of_mem _ (List.mem_cons_of_mem _ (List.mem_cons_of_mem _ (List.mem_cons_self)))))) | (with_reducible exact List.mem_cons_of_mem _ (List.mem_cons_of_mem _ (List.mem_cons_of_mem _ (List.mem_cons_of_mem _ (List.mem_cons_of_mem _ (List.mem_cons_of_mem _ (List.mem_cons_self))))))) | (with_reducible exact List.mem_cons_of_mem _ (List.mem_cons_of_mem _ (List.mem_cons_of_mem _ (List.mem_cons_of_mem _ (List.mem_cons_of_mem _ (List.mem_cons_of_mem _ (List.mem_cons_of_mem _ (List.mem_cons_self)))))))) | (with_reducible exact List.mem_cons_of_mem _ (List.mem_cons_of_mem _ (List.mem_cons_of_mem _ (List.mem_cons_of_mem _ (List.mem_cons_of_mem _ (List.mem_cons_of_mem _ (List.mem_cons_of_mem _ (List.mem_cons_of_mem _ (List.mem_cons_self))))))))) | (with_reducible exact List.mem_cons_of_mem _ (List.mem_cons_of_mem _ (List.mem_cons_of_mem _ (List.mem_cons_of_mem _ (List.mem_cons_of_mem _ (List.mem_cons_of_mem _ (List.mem_cons_of_mem _ (List.mem_cons_of_mem _ (List.mem_cons_of_mem _ (List.mem_cons_self)))))))))) | (with_reducible exact List.mem_cons_of_mem _ (List.mem_cons_of_mem _ (List.mem_cons_of_mem _ (List.mem_cons_of_mem _ (List.mem_cons_of_mem _ (List.mem_cons_of_mem _ (List.mem_cons_of_mem _ (List.mem_cons_of_mem _ (List.mem_cons_of_mem _ (List.mem_cons_of_mem _ (List.mem_cons_self))))))))))) | (with_reducible exact List.mem_cons_of_mem _ (List.mem_cons_of_mem _ (List.mem_cons_of_mem _ (List.mem_cons_of_mem _ (List.mem_cons_of_mem _ (List.mem_cons_of_mem _ (List.mem_cons_of_mem _ (List.mem_cons_of_mem _ (List.mem_cons_of_mem _ (List.mem_cons_of_mem _ (List.mem_cons_of_mem _ (List.mem_cons_self)))))))))))) | (with_reducible exact List.mem_cons_of_mem _ (List.mem_cons_of_mem _ (List.mem_cons_of_mem _ (List.mem_cons_of_mem _ (List.mem_cons_of_mem _ (List.mem_cons_of_mem _ (List.mem_cons_of_mem _ (List.mem_cons_of_mem _ (List.mem_cons_of_mem _ (List.mem_cons_of_mem _ (List.mem_cons_of_mem _ (List.mem_cons_of_mem _ (List.mem_cons_self))))))))))))))) ?_
    unfold law03_DiskTwice.s6
    refine r_ite_f (by simp) ?_
    refine r_add64 (by omega) (by omega) ?_
    refine ⟨⟨i + 1, by omega, by omega, ?_⟩, by omega⟩
    replace h := h.pick 5 at5
    try simp only [List.set_cons_zero, List.set_cons_succ, List.eraseIdx_zero, List.eraseIdx_cons_zero, List.eraseIdx_cons_succ, List.setIfInBounds_toArray, List.tail_cons] at h
    replace h := h.pick 2 at2
    try simp only [List.set_cons_zero, List.set_cons_succ, List.eraseIdx_zero, List.eraseIdx_cons_zero, List.eraseIdx_cons_succ, List.setIfInBounds_toArray, List.tail_cons] at h
    replace h := h.pick 4 at4
    try simp only [List.set_cons_zero, List.set_cons_succ, List.eraseIdx_zero, List.eraseIdx_cons_zero, List.eraseIdx_cons_succ, List.setIfInBounds_toArray, List.tail_cons] at h
    replace h := h.pick 5 at5
    try simp only [List.set_cons_zero, List.set_cons_succ, List.eraseIdx_zero, List.eraseIdx_cons_zero, List.eraseIdx_cons_succ, List.setIfInBounds_toArray, List.tail_cons] at h
    replace h := h.del 4 at4
    try simp only [List.set_cons_zero, List.set_cons_succ, List.eraseIdx_zero, List.eraseIdx_cons_zero, List.eraseIdx_cons_succ, List.setIfInBounds_toArray, List.tail_cons] at h
    replace h := h.del 4 at4
    try simp only [List.set_cons_zero, List.set_cons_succ, List.eraseIdx_zero, List.eraseIdx_cons_zero, List.eraseIdx_cons_succ, List.setIfInBounds_toArray, List.tail_cons] at h
    exact h
end
end Go.Proofs.Ytgnkminakongkaa

namespace Go.Proofs.Ytgnkminakongkaa
open Go Go.Sep Go.RowKit
theorem DiskTwice_walk (W : World) (s : Sl) (y0 : Rdy W Sh_ty_s_argosylaw03_Op (Sl.val s).cells.toList) (d : Sl) (y1 : Rdy W Sh_ty_s_int (Sl.val d).cells.toList) (e : Sl) (y2 : Rdy W Sh_ty_s_int (Sl.val e).cells.toList) :
    Calls Try.prog 7 #[s.val, d.val, e.val] W (Ret fun v w' => v = .bool true ∧ Below W.heap.size W w') := by
  obtain ⟨h1, h2⟩ := rdy_sl y0
  obtain ⟨L, _, hL, hd⟩ := rd_list opF (fun x => OpOk W x) opF_len h1 h2 fun cs hc hr => rdy_op hc hr
  obtain ⟨D, hD, _⟩ := rdy_ints y1
  obtain ⟨E, hE, _⟩ := rdy_ints y2
  exact law_call (law03_DiskTwice_spec hL hd hD hE (Holds.start W) fun w h => ⟨rfl, h⟩)
end Go.Proofs.Ytgnkminakongkaa
