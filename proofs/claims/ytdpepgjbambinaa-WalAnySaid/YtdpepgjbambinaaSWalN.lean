/- The log, in plain: a crash, and Open behind it (no program). -/
import Derived.Test.YtdpepgjbambinaaSWalM
namespace Go.Proofs.Ytdpepgjbambinaa
open Go Go.Sep
set_option linter.unusedSimpArgs false
set_option linter.unusedVariables false
set_option maxRecDepth 100000
theorem catF_mono {p : List (List UInt8)} {i j : Nat} (h : i ≤ j) : (catF (p.take i)).length ≤ (catF (p.take j)).length := by
  have e : p.take i = (p.take j).take i := by rw [List.take_take, Nat.min_eq_left h]
  rw [e]
  exact catF_take_le _ _
theorem read_free {D : DiskD} {n : List UInt8} (hF : Free D) : D.read n = match mget n D.files with
  | none => ([], 60)
  | some f => (f.data, 0) := by
  unfold DiskD.read
  rw [if_neg (by rw [hF.down]; decide)]
  cases mget n D.files <;> rfl
theorem cut_free {D : DiskD} {n : List UInt8} {f : FileD} {c : Nat} (hF : Free D) (hm : mget n D.files = some f) (hc : c ≤ f.data.length) : D.cut n (c : Int) = (⟨D.a, mset n ⟨f.data.take c, min f.last c⟩ D.files⟩, 0) := by
  unfold DiskD.cut
  rw [if_neg (by rw [hF.down]; decide), hm]
  simp only
  rw [if_neg (by omega)]
  simp only [chg_fr hF.left, if_true, Int.toNat_natCast]
theorem rem_free {E : DiskD} {name : List UInt8} (hF : Free E) : ∀ (f part : Nat), part + f ≤ 10 → (∀ i, part ≤ i → i ≤ 9 → mget (fileW name i) E.files = none) → remF name f part E = (E, 0)
  | 0, _, _, _ => rfl
  | f + 1, part, hp, hn => by
    have h1 : E.remove (fileW name (part + f)) = (E, 60) := by
      unfold DiskD.remove
      rw [if_neg (by rw [hF.down]; decide), hn (part + f) (by omega) (by omega)]
    unfold remF
    rw [h1, if_neg (by simp)]
    exact rem_free hF f part (by omega) hn

/-- The files of a log that is to be opened. -/
structure ToOpen (name : List UInt8) (E : DiskD) (q : List (List (List UInt8))) (p : List (List UInt8)) (m : Nat) (there : Bool) : Prop where
  qf : ∀ i x, q[i]? = some x → mget (fileW name i) E.files = some ⟨catF x, (catF x).length⟩
  pf : mget (fileW name q.length) E.files = if there = true then some ⟨(catF p).take m, m⟩ else none
  new : there = false → p = [] ∧ q = []
  no : ∀ i, q.length < i → i ≤ 9 → mget (fileW name i) E.files = none
  qlen : q.length ≤ 9
  le : m ≤ (catF p).length
  small : Small p ∧ ∀ x ∈ q, Small x
def newW (name : List UInt8) (size : Int) : WalD := ⟨name, size, 0, 0, false, []⟩
theorem flatten_take {α : Type} (q : List (List α)) {i : Nat} {x : List α} (hx : q[i]? = some x) : (q.take (i + 1)).flatten = (q.take i).flatten ++ x := by
  have hi : i < q.length := (List.getElem?_eq_some_iff.1 hx).1
  rw [List.take_succ_eq_append_getElem hi, List.flatten_append]
  have := (List.getElem?_eq_some_iff.1 hx).2
  rw [this]
  simp
theorem open_log {name : List UInt8} {size : Int} {E : DiskD} {q : List (List (List UInt8))} {p : List (List UInt8)} {m : Nat} {there : Bool} (hn : 1 ≤ name.length ∧ name.length ≤ 8) (hsz : 16 ≤ size ∧ size ≤ 65536)
    (hF : Free E) (hT : ToOpen name E q p m there) : ∃ E' W' k, (newW name size).load E = (E', W', 0) ∧ k ≤ p.length ∧ (catF (p.take k)).length ≤ m ∧ (k < p.length → m < (catF (p.take (k + 1))).length) ∧
      LogI W' E' q (p.take k) (catF (p.take k)).length there ∧ W'.name = name ∧ W'.size = size ∧ W'.dirty = false ∧ E'.a = E.a ∧ E'.files.length = E.files.length ∧ usedL E'.files ≤ usedL E.files ∧ ∀ n, (∀ i, i ≤ 9 → n ≠ fileW name i) → mget n E'.files = mget n E.files := by
  have hql := hT.qlen
  -- the whole parts
  have step : ∀ i, i ≤ q.length → ∃ Wi : WalD, loadF name 10 0 E (newW name size) = loadF name (10 - i) i E Wi ∧ Wi.name = name ∧ Wi.size = size ∧ Wi.dirty = false ∧ Wi.recs = (q.take i).flatten ∧ (i = 0 → Wi = newW name size) := by
    intro i
    induction i with
    | zero => intro _; exact ⟨newW name size, rfl, rfl, rfl, rfl, rfl, fun _ => rfl⟩
    | succ i ih =>
      intro hi
      obtain ⟨Wi, h1, h2, h3, h4, h5, _⟩ := ih (by omega)
      have hx : q[i]? = some q[i] := List.getElem?_eq_getElem (by omega)
      generalize q[i] = x at hx
      have hfile := hT.qf i x hx
      have hrd : E.read (fileW name i) = (catF x, 0) := by rw [read_free hF, hfile]
      have hpa := parse_cat (hT.small.2 x (List.mem_of_getElem? hx))
      refine ⟨{ Wi with recs := Wi.recs ++ x, part := i, used := (catF x).length }, ?_, h2, h3, h4, ?_, fun h => by cases h⟩
      · rw [h1, show 10 - i = (10 - (i + 1)) + 1 by omega, loadF, hrd]
        simp only
        rw [if_neg (by decide), if_neg (by simp), hpa]
        simp only [if_true]
      · show Wi.recs ++ x = _
        rw [h5, flatten_take q hx]
  obtain ⟨Wq, h1, h2, h3, h4, h5, h6⟩ := step q.length (Nat.le_refl _)
  rw [List.take_length] at h5
  have hpf := hT.pf
  unfold WalD.load
  rw [show (newW name size).name = name from rfl, h1]
  cases there with
  | false =>
    obtain ⟨hp, hq⟩ := hT.new rfl
    rw [if_neg (by decide)] at hpf
    have hrd : E.read (fileW name q.length) = ([], 60) := by rw [read_free hF, hpf]
    have hl : loadF name (10 - q.length) q.length E Wq = (E, Wq, q.length, 0) := by
      rw [show 10 - q.length = (10 - (q.length + 1)) + 1 by omega, loadF, hrd]
      simp only [if_true]
    rw [hl]
    simp only
    rw [if_neg (by simp), rem_free hF _ _ (by omega) (fun i hi hi9 => by
      by_cases e : i = q.length
      · rw [e]; exact hpf
      · exact hT.no i (by omega) hi9)]
    subst hp; subst hq
    have hW := h6 rfl
    refine ⟨E, Wq, 0, rfl, Nat.zero_le _, by simp [catF_nil], fun hlt => by simp at hlt, ?_, h2, h3, h4, rfl, rfl, Nat.le_refl _, fun _ _ => rfl⟩
    subst hW
    exact ⟨hn, hsz, fun i x hx => by simp at hx, by rw [if_neg (by decide)]; exact hpf, fun _ => ⟨rfl, rfl, rfl⟩, hT.no, by simp, rfl, rfl, rfl, fun _ => rfl, ⟨0, Nat.zero_le _, rfl⟩, ⟨by intro r hr; simp at hr, by intro x hx; simp at hx⟩⟩
  | true =>
    rw [if_pos rfl] at hpf
    have hrd : E.read (fileW name q.length) = ((catF p).take m, 0) := by rw [read_free hF, hpf]
    obtain ⟨k, k1, k2, k3, k4⟩ := parse_take p m hT.small.1 hT.le
    have htl : ((catF p).take m).length = m := by rw [List.length_take]; have := hT.le; omega
    have hsm : Small (p.take k) := fun r hr => hT.small.1 r (List.mem_of_mem_take hr)
    have hcat : (catF p).take (catF (p.take k)).length = catF (p.take k) := by
      have h9 := catF_app (p.take k) (p.drop k)
      rw [List.take_append_drop] at h9
      rw [h9, List.take_left]
    -- the log behind
    have fin : ∀ (E' : DiskD), E'.a = E.a → (∀ n, n ≠ fileW name q.length → mget n E'.files = mget n E.files) → mget (fileW name q.length) E'.files = some ⟨catF (p.take k), (catF (p.take k)).length⟩ →
        LogI { Wq with recs := Wq.recs ++ p.take k, part := q.length, used := (catF (p.take k)).length } E' q (p.take k) (catF (p.take k)).length true := by
      intro E' hEa hO hM
      refine ⟨by simp only; rw [h2]; exact hn, by simp only; rw [h3]; exact hsz, fun i x hx => ?_, ?_, (fun hf => by cases hf), fun i i1 i2 => ?_, hql, rfl, rfl, ?_, fun _ => rfl, ⟨(p.take k).length, Nat.le_refl _, by rw [List.take_length]⟩, ⟨hsm, hT.small.2⟩⟩
      · have hil : i < q.length := (List.getElem?_eq_some_iff.1 hx).1
        show mget (fileW Wq.name i) E'.files = _
        rw [h2, hO _ (fun e => by have := fileW_inj (by omega) (by omega) e; omega)]
        exact hT.qf i x hx
      · show mget (fileW Wq.name q.length) E'.files = _
        rw [h2, if_pos rfl, hM]
      · show mget (fileW Wq.name i) E'.files = _
        rw [h2, hO _ (fun e => by have := fileW_inj (by omega) (by omega) e; omega)]
        exact hT.no i i1 i2
      · show Wq.recs ++ p.take k = _
        rw [h5]
    by_cases hw : (catF (p.take k)).length = m
    · have hl : loadF name (10 - q.length) q.length E Wq = (E, { Wq with recs := Wq.recs ++ p.take k, part := q.length, used := (catF (p.take k)).length }, q.length + 1, 0) := by
        rw [show 10 - q.length = (10 - (q.length + 1)) + 1 by omega, loadF, hrd]
        simp only
        rw [if_neg (by decide), if_neg (by simp), k2]
        simp only
        rw [htl, if_pos hw]
        by_cases h10 : q.length = 9
        · rw [h10]; rfl
        · have hrd2 : E.read (fileW name (q.length + 1)) = ([], 60) := by rw [read_free hF, hT.no (q.length + 1) (by omega) (by omega)]
          rw [show 10 - (q.length + 1) = (10 - (q.length + 2)) + 1 by omega, loadF, hrd2]
          simp only [if_true]
      rw [hl]
      simp only
      rw [if_neg (by simp), rem_free hF _ _ (by omega) (fun i hi hi9 => hT.no i (by omega) hi9)]
      refine ⟨E, _, k, rfl, k1, by omega, k4, fin E rfl (fun _ _ => rfl) ?_, h2, h3, h4, rfl, rfl, Nat.le_refl _, fun _ _ => rfl⟩
      rw [hpf, ← hcat, hw]
      simp [htl]
    · have hcut := cut_free (c := (catF (p.take k)).length) hF hpf (by simp only; rw [htl]; exact k3)
      have hl : loadF name (10 - q.length) q.length E Wq = (⟨E.a, mset (fileW name q.length) ⟨catF (p.take k), (catF (p.take k)).length⟩ E.files⟩, { Wq with recs := Wq.recs ++ p.take k, part := q.length, used := (catF (p.take k)).length }, q.length + 1, 0) := by
        rw [show 10 - q.length = (10 - (q.length + 1)) + 1 by omega, loadF, hrd]
        simp only
        rw [if_neg (by decide), if_neg (by simp), k2]
        simp only
        rw [htl, if_neg hw, hcut]
        simp only
        rw [if_neg (by simp), List.take_take, Nat.min_eq_left k3, hcat, Nat.min_eq_right k3]
      rw [hl]
      simp only
      have hF' : Free ⟨E.a, mset (fileW name q.length) ⟨catF (p.take k), (catF (p.take k)).length⟩ E.files⟩ := ⟨hF.left, hF.down⟩
      rw [if_neg (by simp), rem_free hF' _ _ (by omega) (fun i hi hi9 => by
        show mget (fileW name i) (mset _ _ E.files) = none
        rw [mget_mset_ne (fun e => by have := fileW_inj (by omega) (by omega) e; omega)]
        exact hT.no i (by omega) hi9)]
      have hu := mset_used (n := fileW name q.length) (v := ⟨catF (p.take k), (catF (p.take k)).length⟩) E.files
      rw [hpf] at hu
      simp only [Option.getD_some] at hu
      rw [htl] at hu
      have hlen : (mset (fileW name q.length) ⟨catF (p.take k), (catF (p.take k)).length⟩ E.files).length = E.files.length := by
        obtain ⟨l1, l2, g1, g2, _⟩ := mget_split hpf
        rw [g2]
        conv => rhs; rw [g1]
        simp
      refine ⟨_, _, k, rfl, k1, k3, k4, fin _ rfl (fun n hne => mget_mset_ne hne _) (mget_mset_self _), h2, h3, h4, rfl, hlen, ?_, fun n hne => mget_mset_ne (hne _ (by omega)) _⟩
      show usedL (mset _ _ E.files) ≤ _
      omega

theorem crash_toOpen {W : WalD} {D : DiskD} {q : List (List (List UInt8))} {p : List (List UInt8)} {lk : Nat} {there : Bool} (hD : OkD D) (hI : LogI W D q p lk there) (ks : List Int) :
    ∃ m, lk ≤ m ∧ (m = lk ∨ ∃ j, m = lk + keepOf ks j ⟨catF p, lk⟩) ∧ ToOpen W.name (D.crash ks) q p m there := by
  have hlk : lk ≤ (catF p).length := by
    obtain ⟨j, h1, h2⟩ := hI.mark
    rw [h2]; exact catF_take_le _ _
  have hq : ∀ i x, q[i]? = some x → mget (fileW W.name i) (D.crash ks).files = some ⟨catF x, (catF x).length⟩ := fun i x hx => by
    obtain ⟨j, hj⟩ := mget_crash hD ks (hI.qf i x hx)
    rw [hj, crashF_same ks j rfl]
  have hno : ∀ i, q.length < i → i ≤ 9 → mget (fileW W.name i) (D.crash ks).files = none := fun i h1 h2 => mget_crash0 ks (hI.no i h1 h2)
  have hpf := hI.pf
  cases there with
  | false =>
    obtain ⟨h1, h2, h3⟩ := hI.new rfl
    rw [if_neg (by decide)] at hpf
    exact ⟨lk, Nat.le_refl _, .inl rfl, hq, by rw [if_neg (by decide)]; exact mget_crash0 ks hpf, fun _ => ⟨h1, h2⟩, hno, hI.qlen, hlk, hI.small⟩
  | true =>
    rw [if_pos rfl] at hpf
    obtain ⟨j, hj⟩ := mget_crash hD ks hpf
    have hk := keepOf_le ks j ⟨catF p, lk⟩
    simp only at hk
    refine ⟨lk + keepOf ks j ⟨catF p, lk⟩, by omega, .inr ⟨j, rfl⟩, hq, ?_, (fun hf => by cases hf), hno, hI.qlen, by omega, hI.small⟩
    · rw [if_pos rfl, hj]
      rfl
/-- What lasts is there when the log is opened anew. -/
theorem lasts_open {q : List (List (List UInt8))} {p : List (List UInt8)} {lk n m k : Nat} (hL : Lasts q p lk n) (hm : lk ≤ m) (hk : k < p.length → m < (catF (p.take (k + 1))).length) (hkp : k ≤ p.length) : n ≤ (q.flatten ++ p.take k).length := by
  obtain ⟨j, h1, h2, h3⟩ := hL
  have hjk : j ≤ k := by
    by_cases h : j ≤ k
    · exact h
    · exfalso
      have h4 := hk (by omega)
      have h5 := catF_mono (p := p) (show k + 1 ≤ j by omega)
      omega
  rw [List.length_append, List.length_take]
  omega
theorem toOpen_new {room : Int} {name : List UInt8} : ToOpen name (DiskD.new room) [] [] 0 false :=
  ⟨fun i x hx => by simp at hx, rfl, fun _ => ⟨rfl, rfl⟩, fun _ _ _ => rfl, by simp, Nat.zero_le _, ⟨by intro r hr; simp at hr, by intro x hx; simp at hx⟩⟩
theorem free_new {room : Int} : Free (DiskD.new room) := ⟨rfl, rfl⟩
theorem free_crash {D : DiskD} {ks : List Int} : Free (D.crash ks) := ⟨rfl, rfl⟩
end Go.Proofs.Ytdpepgjbambinaa
