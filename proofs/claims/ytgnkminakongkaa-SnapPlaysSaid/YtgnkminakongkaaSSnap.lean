/- Save and Load of checkpoints on a disk. -/
import Derived.Test.YtgnkminakongkaaSUnpack
import Derived.Test.YtgnkminakongkaaSDisk5
import Derived.Test.YtgnkminakongkaaIRLaw08
namespace Go.Proofs.Ytgnkminakongkaa
open Go Go.Sep
set_option linter.unusedSimpArgs false
set_option linter.unusedVariables false
set_option maxRecDepth 100000
def nextL (n : List UInt8) : List UInt8 := n ++ [126]
def save4 (D : DiskD) (n : List UInt8) : DiskD × Int := D.rename (nextL n) n
def save3 (D : DiskD) (n : List UInt8) : DiskD × Int := if (D.sync (nextL n)).2 ≠ 0 then D.sync (nextL n) else save4 (D.sync (nextL n)).1 n
def save2 (D : DiskD) (n x : List UInt8) : DiskD × Int := if (D.append (nextL n) (packL x)).2 ≠ 0 then D.append (nextL n) (packL x) else save3 (D.append (nextL n) (packL x)).1 n
def DiskD.save (D : DiskD) (n x : List UInt8) : DiskD × Int := if n = [] ∨ 15 < n.length then (D, 1) else
  if (D.remove (nextL n)).2 ≠ 0 ∧ (D.remove (nextL n)).2 ≠ 60 then D.remove (nextL n) else save2 (D.remove (nextL n)).1 n x
theorem bs_app (a b : List UInt8) : bs a ++ bs b = bs (a ++ b) := by
  apply ByteArray.ext
  rw [ByteArray.data_append]
  simp [bs]
theorem framesL_len2 : ∀ (n : Nat) (b : List UInt8), b.length = n → (framesL b).length = b.length + 6 * ((b.length + 1023) / 1024) := by
  intro n
  induction n using Nat.strongRecOn with
  | _ n ih =>
    intro b hb
    by_cases h : b = []
    · subst h; rw [framesL_nil]; rfl
    · have hp : 0 < b.length := List.length_pos_iff.2 h
      rw [framesL_cons h, List.length_append, frameL_len]
      have := ih (b.drop 1024).length (by simp; omega) _ rfl
      simp only [List.length_drop, List.length_take] at this ⊢
      omega
theorem pk {x : List UInt8} (h : x.length ≤ 5000) : (packL x).length ≤ 5040 := by
  have h2 := framesL_len2 _ x rfl
  have h3 := numL_len 2 x.length (by omega)
  unfold packL
  rw [List.length_append, frameL_len]
  omega
theorem okN {room : Int} (h1 : 1 ≤ room) (h2 : room ≤ 1048576) : OkD (.new room) := ⟨h1, h2, by show ((0 : Nat) : Int) ≤ room; omega, by simp [DiskD.new], ⟨show (-9223372036854775808 : Int) < -1 by decide, show (-1 : Int) ≤ 9223372036854775807 by decide⟩, by simp [DiskD.new], by simp [DiskD.new]⟩
section
variable {B w : World} {Γ : List HProp} {d : Nat} {D : DiskD} {n x : List UInt8}
theorem snap_Save_spec {body : Sl} {k : Int → K} (hD : OkD D) (hx : x.length ≤ 10000) (hcap : body.n ≤ body.c) (h : Holds B (DiskR d D :: Γ) w) (hr : ∀ w, Holds B Γ w → RdB w body x)
    (hk : ∀ w, OkD (D.save n x).1 → Holds B (DiskR d (D.save n x).1 :: Γ) w → k (D.save n x).2 w) : snap_Save.call (some ⟨d, 0, none⟩) (bs n) body k w := by
  refine snap_Save_ok _ _ _ _ _ ?_
  unfold snap_Save
  have hsz : ((bs n).size : Int) = n.length := by simp [bs, ByteArray.size]
  have hpl := pack_len_le (b := x) (by omega)
  rw [str_toList]
  have e0 : (⟨#[]⟩ : ByteArray).toList = [] := str_toList []
  rw [e0]
  unfold DiskD.save at hk
  have s1 : ∀ t, t = decide (n = [] ∨ 15 < n.length) → snap_Save.s1 k (some ⟨d, 0, none⟩) (bs n) body t w := by
    rintro t rfl
    unfold snap_Save.s1
    refine r_ite (fun ht => ?_) (fun ht => ?_)
    · rw [if_pos (by simpa using ht)] at hk
      exact hk _ hD h
    · simp only [decide_eq_false_iff_not] at ht
      rw [if_neg ht] at hk
      refine ⟨bs (nextL n), ?_, (bs_app n [126]).symm, ?_⟩
      · have h1 : (ByteArray.mk #[126]).size = 1 := rfl
        rw [h1]
        omega
      refine remove_spec (n := nextL n) hD h fun w hD h => ?_
      have s2 : ∀ t, t = decide ((D.remove (nextL n)).2 ≠ 0 ∧ (D.remove (nextL n)).2 ≠ 60) → snap_Save.s2 k (some ⟨d, 0, none⟩) (bs n) body (bs (nextL n)) (D.remove (nextL n)).2 t w := by
        rintro t rfl
        unfold snap_Save.s2
        refine r_ite (fun hq => ?_) (fun hq => ?_)
        · rw [if_pos (by simpa using hq)] at hk
          exact hk _ hD h
        · rw [if_neg (by simpa only [decide_eq_false_iff_not] using hq)] at hk
          refine snap_Pack_spec (xs := x) (by omega) hcap h (fun w h => hr w h.tail) fun f w h => ?_
          refine append_spec (n := nextL n) (x := packL x) hD (by omega) h.swap (fun w h => Bytes.rd h List.mem_cons_self) fun w hD h => ?_
          unfold save2 at hk
          refine r_ite (fun hq => ?_) (fun hq => ?_)
          · rw [if_pos (by simpa using hq)] at hk
            exact hk _ hD (h.del 1 at1)
          · rw [if_neg (by simpa using hq)] at hk
            refine sync_spec (n := nextL n) hD h fun w hD h => ?_
            unfold save3 at hk
            refine r_ite (fun hq => ?_) (fun hq => ?_)
            · rw [if_pos (by simpa using hq)] at hk
              exact hk _ hD (h.del 1 at1)
            · rw [if_neg (by simpa using hq)] at hk
              exact rename_spec (n := nextL n) (m := n) hD h fun w hD h => hk _ hD (h.del 1 at1)
      refine r_ite (fun hq => ?_) (fun hq => ?_)
      · simp only [decide_eq_true_eq] at hq
        exact s2 _ (by simp [hq])
      · simp only [decide_eq_false_iff_not, Decidable.not_not] at hq
        exact s2 _ (by simp [hq])
  refine r_ite (fun hq => ?_) (fun hq => ?_)
  · have : n = [] := by simpa using hq
    exact s1 _ (by simp [this])
  · have : n ≠ [] := by simpa using hq
    refine s1 _ ?_
    rw [hsz]
    by_cases h15 : 15 < n.length
    · rw [decide_eq_true (by omega), decide_eq_true (.inr h15)]
    · rw [decide_eq_false (by omega), decide_eq_false (by simp [this, h15])]

theorem snap_Load_spec {k : Sl → Int → K} (hD : OkD D) (hl : (D.read n).1.length ≤ 100000) (h : Holds B (DiskR d D :: Γ) w)
    (herr : (D.read n).2 ≠ 0 → ∀ w, Holds B (DiskR d D :: Γ) w → k (Sl.mk none 0 0) (D.read n).2 w)
    (hok : ∀ b f w, (D.read n).2 = 0 → packL b = (D.read n).1 → Holds B (Bytes ty_uint8 f b :: DiskR d D :: Γ) w → k f 0 w)
    (hno : (D.read n).2 = 0 → (∀ b, packL b ≠ (D.read n).1) → ∀ w, Holds B (DiskR d D :: Γ) w → k (Sl.mk none 0 0) 61 w) : snap_Load.call (some ⟨d, 0, none⟩) (bs n) k w := by
  refine snap_Load_ok _ _ _ _ ?_
  unfold snap_Load
  refine read_spec (n := n) hD h fun s w h => ?_
  refine r_ite (fun hq => ?_) (fun hq => ?_)
  · exact herr (by simpa using hq) _ h.tail
  · have hz : (D.read n).2 = 0 := by simpa using hq
    have hsc := h.slCap
    refine snap_Unpack_spec (d := (D.read n).1) hl hsc.2.1 h (fun w h => Bytes.rd h List.mem_cons_self) (fun b g w hb h => ?_) (fun hn w h => ?_)
    · exact hok b g w hz hb (h.del 1 at1)
    · exact hno hz hn w h.tail

theorem law08_speaks_spec {k : Bool → K} (h : Holds B Γ w) (hk : ∀ w, Holds B Γ w → k true w) : law08_speaks.call k w := by
  refine law08_speaks_ok _ _ ?_
  unfold law08_speaks
  refine snap_Pack_spec (xs := []) (by simp) (Nat.le_refl _) h (fun w h => RdC.none') fun f w h => ?_
  have hf := Bytes.len h
  have hl : (packL []).length = 7 := by
    unfold packL
    rw [List.length_append, frameL_len, framesL_nil, show ([] : List UInt8).length = 0 from rfl, numL_small (by decide)]
    rfl
  have hsc := h.slCap
  refine snap_Unpack_spec (by omega) hsc.2.1 h (fun w h => Bytes.rd h List.mem_cons_self) (fun b g w hb h => ?_) (fun hno => absurd rfl (hno []))
  have hb2 : b = [] := (pack_inj (by simp) hb.symm).symm
  subst hb2
  have hg := Bytes.len h
  refine r_ite_t (by simp only [decide_eq_true_eq]; omega) ?_
  refine r_ite_t (by simp only [decide_eq_true_eq, List.length_nil] at *; omega) ?_
  unfold law08_speaks.s1
  exact hk _ h.tail.tail

/-! ### a Save with the power on -/
theorem chg_free {a : DkA} (h : a.left = -1) : chg a = (a, 0) := by
  unfold chg
  rw [if_neg (by omega), if_neg (by omega)]
theorem mdel_none {α β : Type} [DecidableEq α] {k : α} {m : List (α × β)} (hm : mget k m = none) : mdel k m = m := by
  rcases mfind k m with ⟨_, _, h, _⟩ | ⟨j, x, _, _, _, h2, _⟩
  · exact h
  · rw [h2] at hm; cases hm
theorem mdel_snoc {α β : Type} [DecidableEq α] {k : α} {v : β} : ∀ {m : List (α × β)}, mget k m = none → mdel k (m ++ [(k, v)]) = m
  | [], _ => if_pos rfl
  | p :: m, hm => by
    unfold mget at hm
    split at hm
    · cases hm
    · rename_i hne
      show (if k = p.1 then _ else _) = _
      rw [if_neg hne]
      exact congrArg (p :: ·) (mdel_snoc hm)
theorem mget_snoc {α β : Type} [DecidableEq α] {k : α} {v : β} : ∀ {m : List (α × β)}, mget k m = none → mget k (m ++ [(k, v)]) = some v
  | [], _ => if_pos rfl
  | p :: m, hm => by
    unfold mget at hm
    split at hm
    · cases hm
    · rename_i hne
      show (if k = p.1 then _ else _) = _
      rw [if_neg hne]
      exact mget_snoc hm
theorem mset_snoc {α β : Type} [DecidableEq α] {k : α} {v v' : β} : ∀ {m : List (α × β)}, mget k m = none → mset k v' (m ++ [(k, v)]) = m ++ [(k, v')]
  | [], _ => if_pos rfl
  | p :: m, hm => by
    unfold mget at hm
    split at hm
    · cases hm
    · rename_i hne
      show (if k = p.1 then _ else _) = _
      rw [if_neg hne]
      exact congrArg (p :: ·) (mset_snoc hm)

theorem save_free (hD : OkD D) (ha : D.a.left = -1) (hd : D.a.down = false) (hn : n ≠ []) (hl : n.length ≤ 15) (hf : (mdel (nextL n) D.files).length < 32) (hu : (usedL (mdel (nextL n) D.files) : Int) + (packL x).length ≤ D.a.room) :
    D.save n x = (⟨D.a, mset n ⟨packL x, (packL x).length⟩ (mdel (nextL n) D.files)⟩, 0) := by
  have hrm : ∃ e, (e = 0 ∨ e = 60) ∧ D.remove (nextL n) = (⟨D.a, mdel (nextL n) D.files⟩, e) ∧ mget (nextL n) (mdel (nextL n) D.files) = none := by
    unfold DiskD.remove
    rw [if_neg (by rw [hd]; decide)]
    cases hm : mget (nextL n) D.files with
    | none => exact ⟨60, .inr rfl, by rw [mdel_none hm], by rw [mdel_none hm, hm]⟩
    | some f =>
      have h1 := (hD.del hm).2.1
      simp only [chg_free ha, if_true]
      exact ⟨0, .inl rfl, rfl, h1⟩
  obtain ⟨e, he, hrm, hnone⟩ := hrm
  unfold DiskD.save
  have hbad : ¬ (n = [] ∨ 15 < n.length) := by
    rintro (h | h)
    · exact hn h
    · omega
  rw [if_neg hbad, hrm]
  have hbad2 : ¬ (e ≠ 0 ∧ e ≠ 60) := by omega
  simp only
  rw [if_neg hbad2]
  have hnx : named (nextL n) = true := by
    unfold named nextL
    simp
    omega
  have hap : (⟨D.a, mdel (nextL n) D.files⟩ : DiskD).append (nextL n) (packL x) = (⟨D.a, mdel (nextL n) D.files ++ [(nextL n, ⟨packL x, 0⟩)]⟩, 0) := by
    unfold DiskD.append
    simp only
    rw [if_neg (by rw [hd]; decide), if_neg (by rw [hnx]; decide), if_neg, chg_free ha, hnone, mset_none hnone]
    · rfl
    · rintro (h | h)
      · omega
      · omega
  unfold save2
  rw [hap]
  simp only
  rw [if_neg (by simp)]
  have hsy : (⟨D.a, mdel (nextL n) D.files ++ [(nextL n, ⟨packL x, 0⟩)]⟩ : DiskD).sync (nextL n) = (⟨D.a, mdel (nextL n) D.files ++ [(nextL n, ⟨packL x, (packL x).length⟩)]⟩, 0) := by
    unfold DiskD.sync
    simp only
    rw [if_neg (by rw [hd]; decide), mget_snoc hnone]
    simp only [chg_free ha, if_true, mset_snoc hnone]
  unfold save3
  rw [hsy]
  simp only
  rw [if_neg (by simp)]
  unfold save4 DiskD.rename
  simp only
  rw [if_neg (by rw [hd]; decide), mget_snoc hnone]
  have hnn : named n = true := by
    unfold named
    simp [hn]
    omega
  simp only [chg_free ha, if_true, mdel_snoc hnone]
  rw [if_neg (by rw [hnn]; decide)]
end
end Go.Proofs.Ytgnkminakongkaa
