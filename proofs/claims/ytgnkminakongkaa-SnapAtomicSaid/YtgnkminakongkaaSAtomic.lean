/- SnapAtomic. -/
import Derived.Test.YtgnkminakongkaaSBeside
import Derived.Test.YtgnkminakongkaaSCrash3
namespace Go.Proofs.Ytgnkminakongkaa
open Go Go.Sep
set_option linter.unusedSimpArgs false
set_option linter.unusedVariables false
set_option maxRecDepth 100000
def qA (q : Int) (dn : Bool) : DkA := ⟨65536, q, dn⟩
def c1 (q : Int) (x : List UInt8) : DiskD := ⟨qA q false, [([99], sF x)]⟩
theorem chg0' : chg (qA 0 false) = (qA 0 true, 3) := rfl
theorem chgS' {c : Int} (h : 0 < c) : chg (qA c false) = (qA (c - 1) false, 0) := by
  unfold chg qA
  rw [if_neg (by simp only; omega), if_pos (by simp only; omega)]
structure Half (x y : List UInt8) (D : DiskD) (e : Int) : Prop where
  here : (e ≠ 0 ∧ mget [99] D.files = some (sF x)) ∨ (e = 0 ∧ mget [99] D.files = some (sF y))
  used : usedL D.files ≤ 20000
  few : D.files.length ≤ 2
  room : D.a.room = 65536
theorem rmv (q : Int) (x : List UInt8) : (c1 q x).remove (nextL [99]) = (c1 q x, 60) := rfl
theorem apd {x y : List UInt8} (q : Int) (hx : x.length ≤ 5000) (hy : y.length ≤ 5000) : (c1 q x).append (nextL [99]) (packL y) = (⟨(chg (qA q false)).1, [([99], sF x), ([99, 126], ⟨packL y, 0⟩)]⟩, (chg (qA q false)).2) := by
  have h1 := pk hx
  have h2 := pk hy
  unfold DiskD.append
  rw [if_neg (show ¬ (c1 q x).a.down = true from Bool.false_ne_true), if_neg (show ¬ (named (nextL [99]) = false) by decide), if_neg]
  · rfl
  · rintro (h | h)
    · exact absurd h.2 (show ¬ 32 ≤ 1 by decide)
    · have : (65536 : Int) - (((packL x).length + 0 : Nat) : Int) < (packL y).length := h
      omega
theorem syn {x y : List UInt8} (q : Int) : (⟨qA q false, [([99], sF x), ([99, 126], ⟨packL y, 0⟩)]⟩ : DiskD).sync (nextL [99]) = (⟨(chg (qA q false)).1, if (chg (qA q false)).2 = 0 then [([99], sF x), ([99, 126], sF y)] else [([99], sF x), ([99, 126], ⟨packL y, 0⟩)]⟩, (chg (qA q false)).2) := by
  unfold DiskD.sync
  rw [if_neg (show ¬ (qA q false).down = true from Bool.false_ne_true)]
  have hm : mget (nextL [99]) [(([99] : List UInt8), sF x), ([99, 126], ⟨packL y, 0⟩)] = some ⟨packL y, 0⟩ := rfl
  rw [hm]
  simp only
  split
  · rfl
  · rfl
theorem rnm {x y : List UInt8} (q : Int) : (⟨qA q false, [([99], sF x), ([99, 126], sF y)]⟩ : DiskD).rename (nextL [99]) [99] = (⟨(chg (qA q false)).1, if (chg (qA q false)).2 = 0 then [([99], sF y)] else [([99], sF x), ([99, 126], sF y)]⟩, (chg (qA q false)).2) := by
  unfold DiskD.rename
  rw [if_neg (show ¬ (qA q false).down = true from Bool.false_ne_true)]
  have hm : mget (nextL [99]) [(([99] : List UInt8), sF x), ([99, 126], sF y)] = some (sF y) := rfl
  rw [hm]
  simp only
  rw [if_neg (show ¬ (named [99] = false) by decide)]
  split
  · rfl
  · rfl
theorem saved {x y : List UInt8} {q : Int} (h0 : 0 ≤ q) (hx : x.length ≤ 5000) (hy : y.length ≤ 5000) : Half x y ((c1 q x).save [99] y).1 ((c1 q x).save [99] y).2 := by
  have h1 := pk hx
  have h2 := pk hy
  have hu2 : ∀ l, usedL [([99], sF x), ([99, 126], ⟨packL y, l⟩)] ≤ 20000 := fun l => by
    show (packL x).length + ((packL y).length + 0) ≤ 20000
    omega
  unfold DiskD.save
  rw [if_neg (by decide), rmv]
  simp only
  rw [if_neg (by decide)]
  unfold save2
  rw [apd q hx hy]
  by_cases hq : q = 0
  · subst hq
    rw [chg0']
    rw [if_pos (show (3 : Int) ≠ 0 by decide)]
    exact ⟨.inl ⟨show (3 : Int) ≠ 0 by decide, rfl⟩, hu2 _, Nat.le_refl _, rfl⟩
  rw [chgS' (by omega)]
  rw [if_neg (show ¬ ((0 : Int) ≠ 0) by decide)]
  unfold save3
  simp only
  rw [syn]
  by_cases hq1 : q = 1
  · subst hq1
    rw [show (1 : Int) - 1 = 0 from rfl, chg0']
    rw [if_pos (show (3 : Int) ≠ 0 by decide)]
    exact ⟨.inl ⟨show (3 : Int) ≠ 0 by decide, rfl⟩, hu2 _, Nat.le_refl _, rfl⟩
  rw [chgS' (by omega)]
  rw [if_neg (show ¬ ((0 : Int) ≠ 0) by decide)]
  unfold save4
  simp only [if_true]
  rw [rnm]
  by_cases hq2 : q = 2
  · subst hq2
    rw [show (2 : Int) - 1 - 1 = 0 from rfl, chg0']
    exact ⟨.inl ⟨show (3 : Int) ≠ 0 by decide, rfl⟩, hu2 _, Nat.le_refl _, rfl⟩
  rw [chgS' (by omega)]
  exact ⟨.inr ⟨rfl, rfl⟩, (by show (packL y).length + 0 ≤ 20000; omega), show 1 ≤ 2 by decide, rfl⟩
theorem mget_mset {k : List UInt8} {v : FileD} : ∀ m : Files, mget k (mset k v m) = some v
  | [] => if_pos rfl
  | p :: m => by
    unfold mset
    split
    · exact if_pos rfl
    · rename_i hne
      show (if k = p.1 then _ else _) = _
      rw [if_neg hne]
      exact mget_mset m
theorem usedL_sub {a b : Files} (h : a.Sublist b) : usedL a ≤ usedL b := by
  induction h with
  | slnil => exact Nat.le_refl _
  | cons x _ ih => simp only [usedL]; omega
  | cons_cons x _ ih => simp only [usedL]; omega
theorem mdel_sub' (n : List UInt8) : ∀ fs : Files, (mdel n fs).Sublist fs
  | [] => List.Sublist.refl _
  | p :: fs => by
    unfold mdel
    split
    · exact List.sublist_cons_self _ _
    · exact (mdel_sub' n fs).cons_cons _
theorem crash_used_le {D : DiskD} (hD : OkD D) (ks : List Int) : usedL (D.crash ks).files ≤ usedL D.files := by
  have h1 := crashL_used ks D.file D.names 0
  have h2 : sumL D.file D.names = usedL D.files := (sumL_perm (List.mergeSort_perm _ _)).trans (sumL_files hD)
  have h3 : usedL (D.crash ks).files ≤ sumL D.file D.names := h1
  omega
theorem crash_has {D : DiskD} (hD : OkD D) (ks : List Int) {z : List UInt8} (hm : mget [99] D.files = some (sF z)) : (D.crash ks).read [99] = (packL z, 0) := by
  obtain ⟨i, hi⟩ := mget_crash hD ks hm
  rw [crashF_same ks i rfl] at hi
  unfold DiskD.read
  rw [if_neg (by simp [DiskD.crash]), hi]
  rfl
theorem again {D : DiskD} (hD : OkD D) (ks : List Int) {x y : List UInt8} {e : Int} (h : Half x y D e) (hx : x.length ≤ 5000) :
    (D.crash ks).save [99] x = (⟨(D.crash ks).a, mset [99] (sF x) (mdel (nextL [99]) (D.crash ks).files)⟩, 0) := by
  have h1 := pk hx
  have h2 := h.used
  have h3 := h.few
  have h4 : (D.crash ks).files.length = D.files.length := by
    show (crashL ks D.file D.names).length = _
    rw [crashL_len, names_len]
  have h5 := (mdel_sub' (nextL [99]) (D.crash ks).files).length_le
  have h6 := usedL_sub (mdel_sub' (nextL [99]) (D.crash ks).files)
  have h7 := crash_used_le hD ks
  have h8 : (D.crash ks).a.room = 65536 := h.room
  exact save_free (hD.crash ks) rfl rfl (by decide) (by decide) (by omega) (by rw [h8]; omega)
section
variable {B w : World} {Γ : List HProp}
theorem bits_le (n m : Int) (b : Nat) (hm : (BitVec.ofInt 64 m).toNat ≤ b) (hb : b ≤ 9223372036854775807) : 0 ≤ bitsOf .and .i64 n m ∧ bitsOf .and .i64 n m ≤ b := by
  unfold bitsOf
  simp only
  have h1 : ((BitVec.ofInt IntKind.i64.bits n &&& BitVec.ofInt IntKind.i64.bits m).toNat) ≤ b := by
    rw [BitVec.toNat_and]
    exact Nat.le_trans Nat.and_le_right hm
  rw [wrap64 (by omega) (by omega)]
  omega
theorem law08_SnapAtomic_spec {k : Bool → K} {a b f1 : Sl} {xs ys : List UInt8} {ks : List Int} {q : Int} (ha : RdB B a xs) (hb : RdB B b ys) (hac : a.n ≤ a.c) (hbc : b.n ≤ b.c) (hk1 : RdC B f1 1 (ks.map (Value.int .i64)))
    (h : Holds B Γ w) (hk : ∀ w, Holds B Γ w → k true w) : law08_SnapAtomic.call #[a.val, b.val] q f1 k w := by
  have han : xs.length = a.n := by have := ha.len; simpa using this
  have hbn : ys.length = b.n := by have := hb.len; simpa using this
  refine law08_SnapAtomic_ok _ _ _ _ _ ?_
  unfold law08_SnapAtomic
  refine r_new h ?_
  clear h
  intro bodies w h
  try simp only [add_mk, Nat.zero_add, Nat.reduceAdd]
  refine law08_speaks_spec h fun w h => ?_
  refine r_ite_f rfl ?_
  have at0 : ∀ {k : Addr → K} {w : World}, k ⟨bodies, 0, none⟩ w → IdxA ⟨bodies, 0, none⟩ 2 0 1 k w := fun hk => ⟨_, by omega, by omega, rfl, hk⟩
  have at1' : ∀ {k : Addr → K} {w : World}, k ⟨bodies, 1, none⟩ w → IdxA ⟨bodies, 0, none⟩ 2 1 1 k w := fun hk => ⟨_, by omega, by omega, rfl, hk⟩
  refine at0 ?_
  refine r_ld (x := a) h rfl (by first | (with_reducible exact List.mem_cons_self) | (with_reducible exact List.mem_cons_of_mem _ (List.mem_cons_self)) | (with_reducible exact List.mem_cons_of_mem _ (List.mem_cons_of_mem _ (List.mem_cons_self))) | (with_reducible exact List.mem_cons_of_mem _ (List.mem_cons_of_mem _ (List.mem_cons_of_mem _ (List.mem_cons_self)))) | (with_reducible exact List.mem_cons_of_mem _ (List.mem_cons_of_mem _ (List.mem_cons_of_mem _ (List.mem_cons_of_mem _ (List.mem_cons_self))))) | (with_reducible exact List.mem_cons_of_mem _ (List.mem_cons_of_mem _ (List.mem_cons_of_mem _ (List.mem_cons_of_mem _ (List.mem_cons_of_mem _ (List.mem_cons_self)))))) | (with_reducible exact List.mem_cons_of_mem _ (List.mem_cons_of_mem _ (List.mem_cons_of_mem _ (List.mem_cons_of_mem _ (List.mem_cons_of_mem _ (List.mem_cons_of_mem _ (List.mem_cons_self))))))) | (with_reducible exact List.mem_cons_of_mem _ (List.mem_cons_of_mem _ (List.mem_cons_of_mem _ (List.mem_cons_of_mem _ (List.mem_cons_of_mem _ (List.mem_cons_of_mem _ (List.mem_cons_of_mem _ (List.mem_cons_self)))))))) | (with_reducible exact List.mem_cons_of_mem _ (List.mem_cons_of_mem _ (List.mem_cons_of_mem _ (List.mem_cons_of_mem _ (List.mem_cons_of_mem _ (List.mem_cons_of_mem _ (List.mem_cons_of_mem _ (List.mem_cons_of_mem _ (List.mem_cons_self))))))))) | (with_reducible exact List.mem_cons_of_mem _ (List.mem_cons_of_mem _ (List.mem_cons_of_mem _ (List.mem_cons_of_mem _ (List.mem_cons_of_mem _ (List.mem_cons_of_mem _ (List.mem_cons_of_mem _ (List.mem_cons_of_mem _ (List.mem_cons_of_mem _ (List.mem_cons_self)))))))))) | (with_reducible exact List.mem_cons_of_mem _ (List.mem_cons_of_mem _ (List.mem_cons_of_mem _ (List.mem_cons_of_mem _ (List.mem_cons_of_mem _ (List.mem_cons_of_mem _ (List.mem_cons_of_mem _ (List.mem_cons_of_mem _ (List.mem_cons_of_mem _ (List.mem_cons_of_mem _ (List.mem_cons_self))))))))))) | (with_reducible exact List.mem_cons_of_mem _ (List.mem_cons_of_mem _ (List.mem_cons_of_mem _ (List.mem_cons_of_mem _ (List.mem_cons_of_mem _ (List.mem_cons_of_mem _ (List.mem_cons_of_mem _ (List.mem_cons_of_mem _ (List.mem_cons_of_mem _ (List.mem_cons_of_mem _ (List.mem_cons_of_mem _ (List.mem_cons_self)))))))))))) | (with_reducible exact List.mem_cons_of_mem _ (List.mem_cons_of_mem _ (List.mem_cons_of_mem _ (List.mem_cons_of_mem _ (List.mem_cons_of_mem _ (List.mem_cons_of_mem _ (List.mem_cons_of_mem _ (List.mem_cons_of_mem _ (List.mem_cons_of_mem _ (List.mem_cons_of_mem _ (List.mem_cons_of_mem _ (List.mem_cons_of_mem _ (List.mem_cons_self)))))))))))))) ?_ ?_
  · exact rfl
  have big : ∀ (w : World), Holds B (blk bodies (.cells #[a.val, b.val] 64 (0, 0)) :: Γ) w → law08_SnapAtomic.s1 k q f1 ⟨bodies, 0, none⟩ true w := fun w h => by
    unfold law08_SnapAtomic.s1
    exact r_ite_t rfl (hk _ h.tail)
  refine r_ite (fun _ => big _ h) (fun hn1 => ?_)
  simp only [decide_eq_false_iff_not] at hn1
  refine at1' ?_
  refine r_ld (x := b) h rfl (by first | (with_reducible exact List.mem_cons_self) | (with_reducible exact List.mem_cons_of_mem _ (List.mem_cons_self)) | (with_reducible exact List.mem_cons_of_mem _ (List.mem_cons_of_mem _ (List.mem_cons_self))) | (with_reducible exact List.mem_cons_of_mem _ (List.mem_cons_of_mem _ (List.mem_cons_of_mem _ (List.mem_cons_self)))) | (with_reducible exact List.mem_cons_of_mem _ (List.mem_cons_of_mem _ (List.mem_cons_of_mem _ (List.mem_cons_of_mem _ (List.mem_cons_self))))) | (with_reducible exact List.mem_cons_of_mem _ (List.mem_cons_of_mem _ (List.mem_cons_of_mem _ (List.mem_cons_of_mem _ (List.mem_cons_of_mem _ (List.mem_cons_self)))))) | (with_reducible exact List.mem_cons_of_mem _ (List.mem_cons_of_mem _ (List.mem_cons_of_mem _ (List.mem_cons_of_mem _ (List.mem_cons_of_mem _ (List.mem_cons_of_mem _ (List.mem_cons_self))))))) | (with_reducible exact List.mem_cons_of_mem _ (List.mem_cons_of_mem _ (List.mem_cons_of_mem _ (List.mem_cons_of_mem _ (List.mem_cons_of_mem _ (List.mem_cons_of_mem _ (List.mem_cons_of_mem _ (List.mem_cons_self)))))))) | (with_reducible exact List.mem_cons_of_mem _ (List.mem_cons_of_mem _ (List.mem_cons_of_mem _ (List.mem_cons_of_mem _ (List.mem_cons_of_mem _ (List.mem_cons_of_mem _ (List.mem_cons_of_mem _ (List.mem_cons_of_mem _ (List.mem_cons_self))))))))) | (with_reducible exact List.mem_cons_of_mem _ (List.mem_cons_of_mem _ (List.mem_cons_of_mem _ (List.mem_cons_of_mem _ (List.mem_cons_of_mem _ (List.mem_cons_of_mem _ (List.mem_cons_of_mem _ (List.mem_cons_of_mem _ (List.mem_cons_of_mem _ (List.mem_cons_self)))))))))) | (with_reducible exact List.mem_cons_of_mem _ (List.mem_cons_of_mem _ (List.mem_cons_of_mem _ (List.mem_cons_of_mem _ (List.mem_cons_of_mem _ (List.mem_cons_of_mem _ (List.mem_cons_of_mem _ (List.mem_cons_of_mem _ (List.mem_cons_of_mem _ (List.mem_cons_of_mem _ (List.mem_cons_self))))))))))) | (with_reducible exact List.mem_cons_of_mem _ (List.mem_cons_of_mem _ (List.mem_cons_of_mem _ (List.mem_cons_of_mem _ (List.mem_cons_of_mem _ (List.mem_cons_of_mem _ (List.mem_cons_of_mem _ (List.mem_cons_of_mem _ (List.mem_cons_of_mem _ (List.mem_cons_of_mem _ (List.mem_cons_of_mem _ (List.mem_cons_self)))))))))))) | (with_reducible exact List.mem_cons_of_mem _ (List.mem_cons_of_mem _ (List.mem_cons_of_mem _ (List.mem_cons_of_mem _ (List.mem_cons_of_mem _ (List.mem_cons_of_mem _ (List.mem_cons_of_mem _ (List.mem_cons_of_mem _ (List.mem_cons_of_mem _ (List.mem_cons_of_mem _ (List.mem_cons_of_mem _ (List.mem_cons_of_mem _ (List.mem_cons_self)))))))))))))) ?_ ?_
  · exact rfl
  refine r_ite (fun _ => big _ h) (fun hn2 => ?_)
  simp only [decide_eq_false_iff_not] at hn2
  have hx : xs.length ≤ 5000 := by omega
  have hy : ys.length ≤ 5000 := by omega
  have hpx := pk hx
  have hpy := pk hy
  unfold law08_SnapAtomic.s1
  refine r_ite (fun _ => hk _ h.tail) (fun hn3 => ?_)
  refine new_spec h (fun hb => by omega) fun d w _ _ h => ?_
  refine r_ite_f rfl ?_
  refine at0 ?_
  refine r_ld (x := a) h rfl (by first | (with_reducible exact List.mem_cons_self) | (with_reducible exact List.mem_cons_of_mem _ (List.mem_cons_self)) | (with_reducible exact List.mem_cons_of_mem _ (List.mem_cons_of_mem _ (List.mem_cons_self))) | (with_reducible exact List.mem_cons_of_mem _ (List.mem_cons_of_mem _ (List.mem_cons_of_mem _ (List.mem_cons_self)))) | (with_reducible exact List.mem_cons_of_mem _ (List.mem_cons_of_mem _ (List.mem_cons_of_mem _ (List.mem_cons_of_mem _ (List.mem_cons_self))))) | (with_reducible exact List.mem_cons_of_mem _ (List.mem_cons_of_mem _ (List.mem_cons_of_mem _ (List.mem_cons_of_mem _ (List.mem_cons_of_mem _ (List.mem_cons_self)))))) | (with_reducible exact List.mem_cons_of_mem _ (List.mem_cons_of_mem _ (List.mem_cons_of_mem _ (List.mem_cons_of_mem _ (List.mem_cons_of_mem _ (List.mem_cons_of_mem _ (List.mem_cons_self))))))) | (with_reducible exact List.mem_cons_of_mem _ (List.mem_cons_of_mem _ (List.mem_cons_of_mem _ (List.mem_cons_of_mem _ (List.mem_cons_of_mem _ (List.mem_cons_of_mem _ (List.mem_cons_of_mem _ (List.mem_cons_self)))))))) | (with_reducible exact List.mem_cons_of_mem _ (List.mem_cons_of_mem _ (List.mem_cons_of_mem _ (List.mem_cons_of_mem _ (List.mem_cons_of_mem _ (List.mem_cons_of_mem _ (List.mem_cons_of_mem _ (List.mem_cons_of_mem _ (List.mem_cons_self))))))))) | (with_reducible exact List.mem_cons_of_mem _ (List.mem_cons_of_mem _ (List.mem_cons_of_mem _ (List.mem_cons_of_mem _ (List.mem_cons_of_mem _ (List.mem_cons_of_mem _ (List.mem_cons_of_mem _ (List.mem_cons_of_mem _ (List.mem_cons_of_mem _ (List.mem_cons_self)))))))))) | (with_reducible exact List.mem_cons_of_mem _ (List.mem_cons_of_mem _ (List.mem_cons_of_mem _ (List.mem_cons_of_mem _ (List.mem_cons_of_mem _ (List.mem_cons_of_mem _ (List.mem_cons_of_mem _ (List.mem_cons_of_mem _ (List.mem_cons_of_mem _ (List.mem_cons_of_mem _ (List.mem_cons_self))))))))))) | (with_reducible exact List.mem_cons_of_mem _ (List.mem_cons_of_mem _ (List.mem_cons_of_mem _ (List.mem_cons_of_mem _ (List.mem_cons_of_mem _ (List.mem_cons_of_mem _ (List.mem_cons_of_mem _ (List.mem_cons_of_mem _ (List.mem_cons_of_mem _ (List.mem_cons_of_mem _ (List.mem_cons_of_mem _ (List.mem_cons_self)))))))))))) | (with_reducible exact List.mem_cons_of_mem _ (List.mem_cons_of_mem _ (List.mem_cons_of_mem _ (List.mem_cons_of_mem _ (List.mem_cons_of_mem _ (List.mem_cons_of_mem _ (List.mem_cons_of_mem _ (List.mem_cons_of_mem _ (List.mem_cons_of_mem _ (List.mem_cons_of_mem _ (List.mem_cons_of_mem _ (List.mem_cons_of_mem _ (List.mem_cons_self)))))))))))))) ?_ ?_
  · exact rfl
  refine snap_Save_spec (n := [99]) (x := xs) (okN (by decide) (by decide)) (by omega) hac h (fun w h => ha.old h) fun w hD h => ?_
  have e0 : (DiskD.new 65536).save [99] xs = (c1 (-1) xs, 0) := (save_free (n := [99]) (x := xs) (okN (by decide) (by decide)) rfl rfl (by decide) (by decide) (by decide) (by show ((0 : Nat) : Int) + _ ≤ 65536; omega)).trans rfl
  rw [e0] at hD h ⊢
  refine r_ite_f rfl ?_
  obtain ⟨hm0, hm1⟩ := bits_le q 7 7 (by decide) (by decide)
  refine r_ar rfl ?_
  generalize bitsOf .and .i64 q 7 = c at hm0 hm1
  refine limit_spec h fun w h => ?_
  rw [if_neg (by omega)] at h
  have hD2 : OkD (c1 c xs) := ⟨hD.room1, hD.roomN, hD.used, hD.few, ⟨by show (-9223372036854775808 : Int) < c; omega, by show c ≤ (9223372036854775807 : Int); omega⟩, hD.last, hD.nodup⟩
  refine at1' ?_
  refine r_ld (x := b) h rfl (by first | (with_reducible exact List.mem_cons_self) | (with_reducible exact List.mem_cons_of_mem _ (List.mem_cons_self)) | (with_reducible exact List.mem_cons_of_mem _ (List.mem_cons_of_mem _ (List.mem_cons_self))) | (with_reducible exact List.mem_cons_of_mem _ (List.mem_cons_of_mem _ (List.mem_cons_of_mem _ (List.mem_cons_self)))) | (with_reducible exact List.mem_cons_of_mem _ (List.mem_cons_of_mem _ (List.mem_cons_of_mem _ (List.mem_cons_of_mem _ (List.mem_cons_self))))) | (with_reducible exact List.mem_cons_of_mem _ (List.mem_cons_of_mem _ (List.mem_cons_of_mem _ (List.mem_cons_of_mem _ (List.mem_cons_of_mem _ (List.mem_cons_self)))))) | (with_reducible exact List.mem_cons_of_mem _ (List.mem_cons_of_mem _ (List.mem_cons_of_mem _ (List.mem_cons_of_mem _ (List.mem_cons_of_mem _ (List.mem_cons_of_mem _ (List.mem_cons_self))))))) | (with_reducible exact List.mem_cons_of_mem _ (List.mem_cons_of_mem _ (List.mem_cons_of_mem _ (List.mem_cons_of_mem _ (List.mem_cons_of_mem _ (List.mem_cons_of_mem _ (List.mem_cons_of_mem _ (List.mem_cons_self)))))))) | (with_reducible exact List.mem_cons_of_mem _ (List.mem_cons_of_mem _ (List.mem_cons_of_mem _ (List.mem_cons_of_mem _ (List.mem_cons_of_mem _ (List.mem_cons_of_mem _ (List.mem_cons_of_mem _ (List.mem_cons_of_mem _ (List.mem_cons_self))))))))) | (with_reducible exact List.mem_cons_of_mem _ (List.mem_cons_of_mem _ (List.mem_cons_of_mem _ (List.mem_cons_of_mem _ (List.mem_cons_of_mem _ (List.mem_cons_of_mem _ (List.mem_cons_of_mem _ (List.mem_cons_of_mem _ (List.mem_cons_of_mem _ (List.mem_cons_self)))))))))) | (with_reducible exact List.mem_cons_of_mem _ (List.mem_cons_of_mem _ (List.mem_cons_of_mem _ (List.mem_cons_of_mem _ (List.mem_cons_of_mem _ (List.mem_cons_of_mem _ (List.mem_cons_of_mem _ (List.mem_cons_of_mem _ (List.mem_cons_of_mem _ (List.mem_cons_of_mem _ (List.mem_cons_self))))))))))) | (with_reducible exact List.mem_cons_of_mem _ (List.mem_cons_of_mem _ (List.mem_cons_of_mem _ (List.mem_cons_of_mem _ (List.mem_cons_of_mem _ (List.mem_cons_of_mem _ (List.mem_cons_of_mem _ (List.mem_cons_of_mem _ (List.mem_cons_of_mem _ (List.mem_cons_of_mem _ (List.mem_cons_of_mem _ (List.mem_cons_self)))))))))))) | (with_reducible exact List.mem_cons_of_mem _ (List.mem_cons_of_mem _ (List.mem_cons_of_mem _ (List.mem_cons_of_mem _ (List.mem_cons_of_mem _ (List.mem_cons_of_mem _ (List.mem_cons_of_mem _ (List.mem_cons_of_mem _ (List.mem_cons_of_mem _ (List.mem_cons_of_mem _ (List.mem_cons_of_mem _ (List.mem_cons_of_mem _ (List.mem_cons_self)))))))))))))) ?_ ?_
  · exact rfl
  refine snap_Save_spec (D := c1 c xs) (n := [99]) (x := ys) hD2 (by omega) hbc h (fun w h => hb.old h) fun w hD3 h => ?_
  have hS := saved (x := xs) (y := ys) hm0 hx hy
  generalize (c1 c xs).save [99] ys = r at hS hD3 h
  obtain ⟨D, e⟩ := r
  simp only at hS hD3 h ⊢
  refine crash_spec (ks := ks) hD3 h (fun w h => hk1.old h) fun o w h => ?_
  refine r_ite_f rfl ?_
  have hE := hD3.crash ks
  have main : ∀ z, (z = xs ∨ z = ys) → (e = 0 → z = ys) → z.length ≤ 5000 → mget [99] D.files = some (sF z) → snap_Load.call (some ⟨o, 0, none⟩) ⟨#[99]⟩ (fun t59x0 t59x1 =>
          Ite (decide (t59x1 ≠ 0))
            (law08_SnapAtomic.s2 k ⟨bodies, 0, none⟩ (some ⟨o, 0, none⟩) t59x0 true)
            (Ite (decide (e = 0))
              (Rd Try.prog (convert ty_s_uint8 ty_string (Sl.val t59x0)) Value.string fun t69 =>
              IdxA ⟨bodies, 0, none⟩ 2 1 1 fun t70 =>
              Ld t70 Sl.val fun t71 =>
              Rd Try.prog (convert ty_s_uint8 ty_string (Sl.val t71)) Value.string fun t72 =>
              law08_SnapAtomic.s2 k ⟨bodies, 0, none⟩ (some ⟨o, 0, none⟩) t59x0 (!(t69.toList == t72.toList)))
              (law08_SnapAtomic.s2 k ⟨bodies, 0, none⟩ (some ⟨o, 0, none⟩) t59x0 false))) w := by
    intro z hz he hzl hm
    have hpz := pk hzl
    have hr := crash_has hD3 ks hm
    refine snap_Load_spec (n := [99]) hE (by rw [hr]; show (packL z).length ≤ _; omega) h (fun hne => absurd (by rw [hr]) hne) (fun z' g w _ hzz h => ?_) (fun _ hno => absurd (by rw [hr]) (hno z))
    rw [hr] at hzz
    have hzz' : z' = z := (pack_inj (by omega) hzz.symm).symm
    subst hzz'
    refine r_ite_f rfl ?_
    have last : ∀ w, Holds B (Bytes ty_uint8 g z' :: DiskR o (D.crash ks) :: DiskR d D :: blk bodies (.cells #[a.val, b.val] 64 (0, 0)) :: Γ) w → law08_SnapAtomic.s2 k ⟨bodies, 0, none⟩ (some ⟨o, 0, none⟩) g false w := by
      intro w h
      unfold law08_SnapAtomic.s2
      refine r_ite_f rfl ?_
      refine at0 ?_
      refine r_ld (x := a) h rfl (by first | (with_reducible exact List.mem_cons_self) | (with_reducible exact List.mem_cons_of_mem _ (List.mem_cons_self)) | (with_reducible exact List.mem_cons_of_mem _ (List.mem_cons_of_mem _ (List.mem_cons_self))) | (with_reducible exact List.mem_cons_of_mem _ (List.mem_cons_of_mem _ (List.mem_cons_of_mem _ (List.mem_cons_self)))) | (with_reducible exact List.mem_cons_of_mem _ (List.mem_cons_of_mem _ (List.mem_cons_of_mem _ (List.mem_cons_of_mem _ (List.mem_cons_self))))) | (with_reducible exact List.mem_cons_of_mem _ (List.mem_cons_of_mem _ (List.mem_cons_of_mem _ (List.mem_cons_of_mem _ (List.mem_cons_of_mem _ (List.mem_cons_self)))))) | (with_reducible exact List.mem_cons_of_mem _ (List.mem_cons_of_mem _ (List.mem_cons_of_mem _ (List.mem_cons_of_mem _ (List.mem_cons_of_mem _ (List.mem_cons_of_mem _ (List.mem_cons_self))))))) | (with_reducible exact List.mem_cons_of_mem _ (List.mem_cons_of_mem _ (List.mem_cons_of_mem _ (List.mem_cons_of_mem _ (List.mem_cons_of_mem _ (List.mem_cons_of_mem _ (List.mem_cons_of_mem _ (List.mem_cons_self)))))))) | (with_reducible exact List.mem_cons_of_mem _ (List.mem_cons_of_mem _ (List.mem_cons_of_mem _ (List.mem_cons_of_mem _ (List.mem_cons_of_mem _ (List.mem_cons_of_mem _ (List.mem_cons_of_mem _ (List.mem_cons_of_mem _ (List.mem_cons_self))))))))) | (with_reducible exact List.mem_cons_of_mem _ (List.mem_cons_of_mem _ (List.mem_cons_of_mem _ (List.mem_cons_of_mem _ (List.mem_cons_of_mem _ (List.mem_cons_of_mem _ (List.mem_cons_of_mem _ (List.mem_cons_of_mem _ (List.mem_cons_of_mem _ (List.mem_cons_self)))))))))) | (with_reducible exact List.mem_cons_of_mem _ (List.mem_cons_of_mem _ (List.mem_cons_of_mem _ (List.mem_cons_of_mem _ (List.mem_cons_of_mem _ (List.mem_cons_of_mem _ (List.mem_cons_of_mem _ (List.mem_cons_of_mem _ (List.mem_cons_of_mem _ (List.mem_cons_of_mem _ (List.mem_cons_self))))))))))) | (with_reducible exact List.mem_cons_of_mem _ (List.mem_cons_of_mem _ (List.mem_cons_of_mem _ (List.mem_cons_of_mem _ (List.mem_cons_of_mem _ (List.mem_cons_of_mem _ (List.mem_cons_of_mem _ (List.mem_cons_of_mem _ (List.mem_cons_of_mem _ (List.mem_cons_of_mem _ (List.mem_cons_of_mem _ (List.mem_cons_self)))))))))))) | (with_reducible exact List.mem_cons_of_mem _ (List.mem_cons_of_mem _ (List.mem_cons_of_mem _ (List.mem_cons_of_mem _ (List.mem_cons_of_mem _ (List.mem_cons_of_mem _ (List.mem_cons_of_mem _ (List.mem_cons_of_mem _ (List.mem_cons_of_mem _ (List.mem_cons_of_mem _ (List.mem_cons_of_mem _ (List.mem_cons_of_mem _ (List.mem_cons_self)))))))))))))) ?_ ?_
      · exact rfl
      replace h := h.pick 3 at3
      try simp only [List.set_cons_zero, List.set_cons_succ, List.eraseIdx_zero, List.eraseIdx_cons_zero, List.eraseIdx_cons_succ, List.setIfInBounds_toArray, List.tail_cons] at h
      replace h := h.pick 1 at1
      try simp only [List.set_cons_zero, List.set_cons_succ, List.eraseIdx_zero, List.eraseIdx_cons_zero, List.eraseIdx_cons_succ, List.setIfInBounds_toArray, List.tail_cons] at h
      replace h := h.pick 2 at2
      try simp only [List.set_cons_zero, List.set_cons_succ, List.eraseIdx_zero, List.eraseIdx_cons_zero, List.eraseIdx_cons_succ, List.setIfInBounds_toArray, List.tail_cons] at h
      replace h := h.del 3 at3
      try simp only [List.set_cons_zero, List.set_cons_succ, List.eraseIdx_zero, List.eraseIdx_cons_zero, List.eraseIdx_cons_succ, List.setIfInBounds_toArray, List.tail_cons] at h
      refine snap_Save_spec (n := [99]) (x := xs) hE (by omega) hac h (fun w h => ha.old h) fun w hE2 h => ?_
      have hag := again hD3 ks hS hx
      rw [hag] at hE2 h ⊢
      have hr2 : (⟨(D.crash ks).a, mset [99] (sF xs) (mdel (nextL [99]) (D.crash ks).files)⟩ : DiskD).read [99] = (packL xs, 0) := by
        unfold DiskD.read
        rw [if_neg (by simp [DiskD.crash]), mget_mset]
        rfl
      refine snap_Load_spec (n := [99]) hE2 (by simp only at hr2 ⊢; rw [hr2]; show (packL xs).length ≤ _; omega) h (fun hne => absurd (by simp only; rw [hr2]) hne) (fun x' g2 w _ hxx h => ?_) (fun _ hno => absurd (by simp only; rw [hr2]) (hno xs))
      simp only at hxx
      rw [hr2] at hxx
      have hxx' : x' = xs := (pack_inj (by omega) hxx.symm).symm
      subst hxx'
      refine r_str (by kernel_rfl) (Bytes.rd (s := g) (xs := z') h (List.mem_cons_of_mem _ (List.mem_cons_of_mem _ List.mem_cons_self))) ?_
      refine at0 ?_
      refine r_ld (x := a) h rfl (by first | (with_reducible exact List.mem_cons_self) | (with_reducible exact List.mem_cons_of_mem _ (List.mem_cons_self)) | (with_reducible exact List.mem_cons_of_mem _ (List.mem_cons_of_mem _ (List.mem_cons_self))) | (with_reducible exact List.mem_cons_of_mem _ (List.mem_cons_of_mem _ (List.mem_cons_of_mem _ (List.mem_cons_self)))) | (with_reducible exact List.mem_cons_of_mem _ (List.mem_cons_of_mem _ (List.mem_cons_of_mem _ (List.mem_cons_of_mem _ (List.mem_cons_self))))) | (with_reducible exact List.mem_cons_of_mem _ (List.mem_cons_of_mem _ (List.mem_cons_of_mem _ (List.mem_cons_of_mem _ (List.mem_cons_of_mem _ (List.mem_cons_self)))))) | (with_reducible exact List.mem_cons_of_mem _ (List.mem_cons_of_mem _ (List.mem_cons_of_mem _ (List.mem_cons_of_mem _ (List.mem_cons_of_mem _ (List.mem_cons_of_mem _ (List.mem_cons_self))))))) | (with_reducible exact List.mem_cons_of_mem _ (List.mem_cons_of_mem _ (List.mem_cons_of_mem _ (List.mem_cons_of_mem _ (List.mem_cons_of_mem _ (List.mem_cons_of_mem _ (List.mem_cons_of_mem _ (List.mem_cons_self)))))))) | (with_reducible exact List.mem_cons_of_mem _ (List.mem_cons_of_mem _ (List.mem_cons_of_mem _ (List.mem_cons_of_mem _ (List.mem_cons_of_mem _ (List.mem_cons_of_mem _ (List.mem_cons_of_mem _ (List.mem_cons_of_mem _ (List.mem_cons_self))))))))) | (with_reducible exact List.mem_cons_of_mem _ (List.mem_cons_of_mem _ (List.mem_cons_of_mem _ (List.mem_cons_of_mem _ (List.mem_cons_of_mem _ (List.mem_cons_of_mem _ (List.mem_cons_of_mem _ (List.mem_cons_of_mem _ (List.mem_cons_of_mem _ (List.mem_cons_self)))))))))) | (with_reducible exact List.mem_cons_of_mem _ (List.mem_cons_of_mem _ (List.mem_cons_of_mem _ (List.mem_cons_of_mem _ (List.mem_cons_of_mem _ (List.mem_cons_of_mem _ (List.mem_cons_of_mem _ (List.mem_cons_of_mem _ (List.mem_cons_of_mem _ (List.mem_cons_of_mem _ (List.mem_cons_self))))))))))) | (with_reducible exact List.mem_cons_of_mem _ (List.mem_cons_of_mem _ (List.mem_cons_of_mem _ (List.mem_cons_of_mem _ (List.mem_cons_of_mem _ (List.mem_cons_of_mem _ (List.mem_cons_of_mem _ (List.mem_cons_of_mem _ (List.mem_cons_of_mem _ (List.mem_cons_of_mem _ (List.mem_cons_of_mem _ (List.mem_cons_self)))))))))))) | (with_reducible exact List.mem_cons_of_mem _ (List.mem_cons_of_mem _ (List.mem_cons_of_mem _ (List.mem_cons_of_mem _ (List.mem_cons_of_mem _ (List.mem_cons_of_mem _ (List.mem_cons_of_mem _ (List.mem_cons_of_mem _ (List.mem_cons_of_mem _ (List.mem_cons_of_mem _ (List.mem_cons_of_mem _ (List.mem_cons_of_mem _ (List.mem_cons_self)))))))))))))) ?_ ?_
      · exact rfl
      refine r_str (by kernel_rfl) (ha.old h) ?_
      simp only [str_toList]
      have tail : ∀ (E : DiskD) w, Holds B (Bytes ty_uint8 g2 x' :: DiskR o E :: Bytes ty_uint8 g z' :: blk bodies (.cells #[a.val, b.val] 64 (0, 0)) :: Γ) w → Ite (decide ((0 : Int) = 0))
        (Rd Try.prog (convert ty_s_uint8 ty_string (Sl.val g2)) Value.string fun t105 =>
        IdxA ⟨bodies, 0, none⟩ 2 0 1 fun t106 =>
        Ld t106 Sl.val fun t107 =>
        Rd Try.prog (convert ty_s_uint8 ty_string (Sl.val t107)) Value.string fun t108 =>
        law08_SnapAtomic.s3 k (t105.toList == t108.toList))
        (law08_SnapAtomic.s3 k false) w := by
        intro E w h
        refine r_ite_t rfl ?_
        refine r_str (by kernel_rfl) (Bytes.rd (s := g2) (xs := x') h List.mem_cons_self) ?_
        refine at0 ?_
        refine r_ld (x := a) h rfl (by first | (with_reducible exact List.mem_cons_self) | (with_reducible exact List.mem_cons_of_mem _ (List.mem_cons_self)) | (with_reducible exact List.mem_cons_of_mem _ (List.mem_cons_of_mem _ (List.mem_cons_self))) | (with_reducible exact List.mem_cons_of_mem _ (List.mem_cons_of_mem _ (List.mem_cons_of_mem _ (List.mem_cons_self)))) | (with_reducible exact List.mem_cons_of_mem _ (List.mem_cons_of_mem _ (List.mem_cons_of_mem _ (List.mem_cons_of_mem _ (List.mem_cons_self))))) | (with_reducible exact List.mem_cons_of_mem _ (List.mem_cons_of_mem _ (List.mem_cons_of_mem _ (List.mem_cons_of_mem _ (List.mem_cons_of_mem _ (List.mem_cons_self)))))) | (with_reducible exact List.mem_cons_of_mem _ (List.mem_cons_of_mem _ (List.mem_cons_of_mem _ (List.mem_cons_of_mem _ (List.mem_cons_of_mem _ (List.mem_cons_of_mem _ (List.mem_cons_self))))))) | (with_reducible exact List.mem_cons_of_mem _ (List.mem_cons_of_mem _ (List.mem_cons_of_mem _ (List.mem_cons_of_mem _ (List.mem_cons_of_mem _ (List.mem_cons_of_mem _ (List.mem_cons_of_mem _ (List.mem_cons_self)))))))) | (with_reducible exact List.mem_cons_of_mem _ (List.mem_cons_of_mem _ (List.mem_cons_of_mem _ (List.mem_cons_of_mem _ (List.mem_cons_of_mem _ (List.mem_cons_of_mem _ (List.mem_cons_of_mem _ (List.mem_cons_of_mem _ (List.mem_cons_self))))))))) | (with_reducible exact List.mem_cons_of_mem _ (List.mem_cons_of_mem _ (List.mem_cons_of_mem _ (List.mem_cons_of_mem _ (List.mem_cons_of_mem _ (List.mem_cons_of_mem _ (List.mem_cons_of_mem _ (List.mem_cons_of_mem _ (List.mem_cons_of_mem _ (List.mem_cons_self)))))))))) | (with_reducible exact List.mem_cons_of_mem _ (List.mem_cons_of_mem _ (List.mem_cons_of_mem _ (List.mem_cons_of_mem _ (List.mem_cons_of_mem _ (List.mem_cons_of_mem _ (List.mem_cons_of_mem _ (List.mem_cons_of_mem _ (List.mem_cons_of_mem _ (List.mem_cons_of_mem _ (List.mem_cons_self))))))))))) | (with_reducible exact List.mem_cons_of_mem _ (List.mem_cons_of_mem _ (List.mem_cons_of_mem _ (List.mem_cons_of_mem _ (List.mem_cons_of_mem _ (List.mem_cons_of_mem _ (List.mem_cons_of_mem _ (List.mem_cons_of_mem _ (List.mem_cons_of_mem _ (List.mem_cons_of_mem _ (List.mem_cons_of_mem _ (List.mem_cons_self)))))))))))) | (with_reducible exact List.mem_cons_of_mem _ (List.mem_cons_of_mem _ (List.mem_cons_of_mem _ (List.mem_cons_of_mem _ (List.mem_cons_of_mem _ (List.mem_cons_of_mem _ (List.mem_cons_of_mem _ (List.mem_cons_of_mem _ (List.mem_cons_of_mem _ (List.mem_cons_of_mem _ (List.mem_cons_of_mem _ (List.mem_cons_of_mem _ (List.mem_cons_self)))))))))))))) ?_ ?_
        · exact rfl
        refine r_str (by kernel_rfl) (ha.old h) ?_
        simp only [str_toList]
        unfold law08_SnapAtomic.s3
        rw [show (x' == x') = true by simp]
        exact hk _ h.tail.tail.tail.tail
      refine r_ite (fun _ => tail _ _ h) (fun hne => ?_)
      refine r_str (by kernel_rfl) (Bytes.rd (s := g) (xs := z') h (List.mem_cons_of_mem _ (List.mem_cons_of_mem _ List.mem_cons_self))) ?_
      refine at1' ?_
      refine r_ld (x := b) h rfl (by first | (with_reducible exact List.mem_cons_self) | (with_reducible exact List.mem_cons_of_mem _ (List.mem_cons_self)) | (with_reducible exact List.mem_cons_of_mem _ (List.mem_cons_of_mem _ (List.mem_cons_self))) | (with_reducible exact List.mem_cons_of_mem _ (List.mem_cons_of_mem _ (List.mem_cons_of_mem _ (List.mem_cons_self)))) | (with_reducible exact List.mem_cons_of_mem _ (List.mem_cons_of_mem _ (List.mem_cons_of_mem _ (List.mem_cons_of_mem _ (List.mem_cons_self))))) | (with_reducible exact List.mem_cons_of_mem _ (List.mem_cons_of_mem _ (List.mem_cons_of_mem _ (List.mem_cons_of_mem _ (List.mem_cons_of_mem _ (List.mem_cons_self)))))) | (with_reducible exact List.mem_cons_of_mem _ (List.mem_cons_of_mem _ (List.mem_cons_of_mem _ (List.mem_cons_of_mem _ (List.mem_cons_of_mem _ (List.mem_cons_of_mem _ (List.mem_cons_self))))))) | (with_reducible exact List.mem_cons_of_mem _ (List.mem_cons_of_mem _ (List.mem_cons_of_mem _ (List.mem_cons_of_mem _ (List.mem_cons_of_mem _ (List.mem_cons_of_mem _ (List.mem_cons_of_mem _ (List.mem_cons_self)))))))) | (with_reducible exact List.mem_cons_of_mem _ (List.mem_cons_of_mem _ (List.mem_cons_of_mem _ (List.mem_cons_of_mem _ (List.mem_cons_of_mem _ (List.mem_cons_of_mem _ (List.mem_cons_of_mem _ (List.mem_cons_of_mem _ (List.mem_cons_self))))))))) | (with_reducible exact List.mem_cons_of_mem _ (List.mem_cons_of_mem _ (List.mem_cons_of_mem _ (List.mem_cons_of_mem _ (List.mem_cons_of_mem _ (List.mem_cons_of_mem _ (List.mem_cons_of_mem _ (List.mem_cons_of_mem _ (List.mem_cons_of_mem _ (List.mem_cons_self)))))))))) | (with_reducible exact List.mem_cons_of_mem _ (List.mem_cons_of_mem _ (List.mem_cons_of_mem _ (List.mem_cons_of_mem _ (List.mem_cons_of_mem _ (List.mem_cons_of_mem _ (List.mem_cons_of_mem _ (List.mem_cons_of_mem _ (List.mem_cons_of_mem _ (List.mem_cons_of_mem _ (List.mem_cons_self))))))))))) | (with_reducible exact List.mem_cons_of_mem _ (List.mem_cons_of_mem _ (List.mem_cons_of_mem _ (List.mem_cons_of_mem _ (List.mem_cons_of_mem _ (List.mem_cons_of_mem _ (List.mem_cons_of_mem _ (List.mem_cons_of_mem _ (List.mem_cons_of_mem _ (List.mem_cons_of_mem _ (List.mem_cons_of_mem _ (List.mem_cons_self)))))))))))) | (with_reducible exact List.mem_cons_of_mem _ (List.mem_cons_of_mem _ (List.mem_cons_of_mem _ (List.mem_cons_of_mem _ (List.mem_cons_of_mem _ (List.mem_cons_of_mem _ (List.mem_cons_of_mem _ (List.mem_cons_of_mem _ (List.mem_cons_of_mem _ (List.mem_cons_of_mem _ (List.mem_cons_of_mem _ (List.mem_cons_of_mem _ (List.mem_cons_self)))))))))))))) ?_ ?_
      · exact rfl
      refine r_str (by kernel_rfl) (hb.old h) ?_
      simp only [str_toList]
      have hzy : z' = ys := by
        rcases hz with hz | hz
        · rw [hz] at hne; simp at hne
        · exact hz
      refine r_ite_t (by rw [hzy]; simp) (tail _ _ h)
    refine r_ite (fun he0 => ?_) (fun _ => last _ h)
    simp only [decide_eq_true_eq] at he0
    refine r_str (by kernel_rfl) (Bytes.rd (s := g) (xs := z') h List.mem_cons_self) ?_
    refine at1' ?_
    refine r_ld (x := b) h rfl (by first | (with_reducible exact List.mem_cons_self) | (with_reducible exact List.mem_cons_of_mem _ (List.mem_cons_self)) | (with_reducible exact List.mem_cons_of_mem _ (List.mem_cons_of_mem _ (List.mem_cons_self))) | (with_reducible exact List.mem_cons_of_mem _ (List.mem_cons_of_mem _ (List.mem_cons_of_mem _ (List.mem_cons_self)))) | (with_reducible exact List.mem_cons_of_mem _ (List.mem_cons_of_mem _ (List.mem_cons_of_mem _ (List.mem_cons_of_mem _ (List.mem_cons_self))))) | (with_reducible exact List.mem_cons_of_mem _ (List.mem_cons_of_mem _ (List.mem_cons_of_mem _ (List.mem_cons_of_mem _ (List.mem_cons_of_mem _ (List.mem_cons_self)))))) | (with_reducible exact List.mem_cons_of_mem _ (List.mem_cons_of_mem _ (List.mem_cons_of_mem _ (List.mem_cons_of_mem _ (List.mem_cons_of_mem _ (List.mem_cons_of_mem _ (List.mem_cons_self))))))) | (with_reducible exact List.mem_cons_of_mem _ (List.mem_cons_of_mem _ (List.mem_cons_of_mem _ (List.mem_cons_of_mem _ (List.mem_cons_of_mem _ (List.mem_cons_of_mem _ (List.mem_cons_of_mem _ (List.mem_cons_self)))))))) | (with_reducible exact List.mem_cons_of_mem _ (List.mem_cons_of_mem _ (List.mem_cons_of_mem _ (List.mem_cons_of_mem _ (List.mem_cons_of_mem _ (List.mem_cons_of_mem _ (List.mem_cons_of_mem _ (List.mem_cons_of_mem _ (List.mem_cons_self))))))))) | (with_reducible exact List.mem_cons_of_mem _ (List.mem_cons_of_mem _ (List.mem_cons_of_mem _ (List.mem_cons_of_mem _ (List.mem_cons_of_mem _ (List.mem_cons_of_mem _ (List.mem_cons_of_mem _ (List.mem_cons_of_mem _ (List.mem_cons_of_mem _ (List.mem_cons_self)))))))))) | (with_reducible exact List.mem_cons_of_mem _ (List.mem_cons_of_mem _ (List.mem_cons_of_mem _ (List.mem_cons_of_mem _ (List.mem_cons_of_mem _ (List.mem_cons_of_mem _ (List.mem_cons_of_mem _ (List.mem_cons_of_mem _ (List.mem_cons_of_mem _ (List.mem_cons_of_mem _ (List.mem_cons_self))))))))))) | (with_reducible exact List.mem_cons_of_mem _ (List.mem_cons_of_mem _ (List.mem_cons_of_mem _ (List.mem_cons_of_mem _ (List.mem_cons_of_mem _ (List.mem_cons_of_mem _ (List.mem_cons_of_mem _ (List.mem_cons_of_mem _ (List.mem_cons_of_mem _ (List.mem_cons_of_mem _ (List.mem_cons_of_mem _ (List.mem_cons_self)))))))))))) | (with_reducible exact List.mem_cons_of_mem _ (List.mem_cons_of_mem _ (List.mem_cons_of_mem _ (List.mem_cons_of_mem _ (List.mem_cons_of_mem _ (List.mem_cons_of_mem _ (List.mem_cons_of_mem _ (List.mem_cons_of_mem _ (List.mem_cons_of_mem _ (List.mem_cons_of_mem _ (List.mem_cons_of_mem _ (List.mem_cons_of_mem _ (List.mem_cons_self)))))))))))))) ?_ ?_
    · exact rfl
    refine r_str (by kernel_rfl) (hb.old h) ?_
    simp only [str_toList]
    rw [show (!(z' == ys)) = false by rw [he he0]; simp]
    exact last _ h
  rcases hS.here with ⟨h1, h2⟩ | ⟨h1, h2⟩
  · exact main xs (.inl rfl) (fun he => absurd he h1) hx h2
  · exact main ys (.inr rfl) (fun _ => rfl) hy h2
end
end Go.Proofs.Ytgnkminakongkaa

namespace Go.Proofs.Ytgnkminakongkaa
open Go Go.Sep Go.RowKit
theorem SnapAtomic_walk (W : World) (cs : Array Value) (y0 : Rdy W Sh_ty_2_s_uint8 (Value.agg cs).cells.toList) (hsz : cs.size = 2) (x : Int) (_ : (Lit.int .i64 x).wf = true) (e : Sl) (y2 : Rdy W Sh_ty_s_int (Sl.val e).cells.toList) :
    Calls Try.prog 13 #[.agg cs, .int .i64 x, e.val] W (Ret fun v w' => v = .bool true ∧ Below W.heap.size W w') := by
  obtain ⟨l⟩ := cs
  match l, hsz with
  | [u, v], _ =>
    obtain ⟨⟨s, e0, c0, _, h1, h2⟩, ⟨s', e1, c1, _, h3, h4⟩, _⟩ := y0
    have hu : u = s.val := by
      have : [u] = [s.val] := e0
      exact (List.cons.inj this).1
    have hv : v = s'.val := by
      have : [v] = [s'.val] := e1
      exact (List.cons.inj this).1
    subst hu; subst hv
    obtain ⟨xs, _, g1⟩ := rd_bytes h1 h2
    obtain ⟨ys, _, g2⟩ := rd_bytes h3 h4
    obtain ⟨E, hE, _⟩ := rdy_ints y2
    exact law_call (law08_SnapAtomic_spec g1 g2 c0 c1 hE (Holds.start W) fun w h => ⟨rfl, h⟩)
end Go.Proofs.Ytgnkminakongkaa
