/- DiskLasts. -/
import Derived.Test.YtgnkminakongkaaSSpeak3
import Derived.Test.YtgnkminakongkaaShapes
import Derived.Test.YtgnkminakongkaaRow
import Derived.Test.YtgnkminakongkaaIRLaw03
namespace Go.Proofs.Ytgnkminakongkaa
open Go Go.Sep
set_option linter.unusedSimpArgs false
set_option linter.unusedVariables false
set_option maxRecDepth 100000

abbrev BS := List UInt8 × Sl
abbrev catL (L : List BS) : List UInt8 := L.flatMap Prod.fst
theorem catL_snoc (L : List BS) (x : BS) : catL (L ++ [x]) = catL L ++ x.1 := by simp [catL]
theorem catL_len {L : List BS} (h : ∀ x ∈ L, x.1.length ≤ 2000) : (catL L).length ≤ 2000 * L.length := by
  induction L with
  | nil => simp [catL]
  | cons x L ih =>
    have h1 := h x List.mem_cons_self
    have h2 := ih fun y hy => h y (List.mem_cons_of_mem _ hy)
    simp only [catL, List.flatMap_cons, List.length_append, List.length_cons] at *
    omega
/-- One file. -/
def oneF (n : Nat) (xs : List UInt8) (l : Nat) : DiskD := ⟨⟨1048576, -1, false⟩, if n = 0 then [] else [([102], ⟨xs, l⟩)]⟩
theorem oneF_append {n : Nat} {xs x : List UInt8} {l : Nat} (h0 : n = 0 → xs = [] ∧ l = 0) (hb : xs.length + x.length ≤ 1048576) : (oneF n xs l).append [102] x = (oneF (n + 1) (xs ++ x) l, 0) := by
  unfold DiskD.append
  rw [if_neg (by simp [oneF]), if_neg (by decide)]
  by_cases hn : n = 0
  · obtain ⟨h1, h2⟩ := h0 hn
    subst h1; subst h2; subst hn
    rw [if_neg]
    · rfl
    · rintro (h | h)
      · exact absurd h.2 (by decide)
      · simp [oneF, usedL] at h hb; omega
  · have e : (oneF n xs l).files = [([102], ⟨xs, l⟩)] := by unfold oneF; rw [if_neg hn]
    rw [e, if_neg]
    · simp only [oneF, if_neg (Nat.succ_ne_zero n)]
      rfl
    · rintro (h | h)
      · simp [mget] at h
      · simp [oneF, usedL] at h; omega
theorem oneF_sync {n : Nat} {xs : List UInt8} {l : Nat} : (oneF n xs l).sync [102] = (oneF n xs (if n = 0 then l else xs.length), if n = 0 then 60 else 0) := by
  unfold DiskD.sync
  rw [if_neg (by simp [oneF])]
  by_cases hn : n = 0
  · subst hn; rfl
  · have e : (oneF n xs l).files = [([102], ⟨xs, l⟩)] := by unfold oneF; rw [if_neg hn]
    rw [e, if_neg hn, if_neg hn]
    simp only [oneF, if_neg hn]
    rfl
theorem oneF_read (ks : List Int) {n : Nat} {xs : List UInt8} {l : Nat} (hl : l ≤ xs.length) : (n = 0 → ((oneF n xs l).crash ks).read [102] = ([], 60)) ∧ (n ≠ 0 → ∃ m, l ≤ m ∧ m ≤ xs.length ∧ ((oneF n xs l).crash ks).read [102] = (xs.take m, 0)) := by
  constructor
  · intro hn; subst hn
    have : (oneF 0 xs l).names = [] := by unfold DiskD.names oneF; simp
    unfold DiskD.crash
    rw [this]
    rfl
  · intro hn
    have e : (oneF n xs l).files = [([102], ⟨xs, l⟩)] := by unfold oneF; rw [if_neg hn]
    have : (oneF n xs l).names = [[102]] := by unfold DiskD.names; rw [e]; simp
    have hf : (oneF n xs l).file [102] = ⟨xs, l⟩ := by unfold DiskD.file; rw [e]; rfl
    have hk := keepOf_le ks 0 ⟨xs, l⟩
    simp only at hk
    refine ⟨l + keepOf ks 0 ⟨xs, l⟩, by omega, by omega, ?_⟩
    unfold DiskD.crash
    rw [this]
    unfold DiskD.read
    rw [if_neg (by simp)]
    have : crashL ks (oneF n xs l).file [[102]] = [([102], crashF ks 0 ⟨xs, l⟩)] := by
      unfold crashL
      rw [← hf]
      rfl
    simp only [this]
    rfl

section
variable {B w : World} {Γ : List HProp}
theorem r_bs {s : Sl} {L : List BS} {j : Nat} {x : BS} {k : Sl → K} (hr : RdC w s 1 (L.map fun x => x.2.val)) (hx : L[j]? = some x) (hk : k x.2 w) : Idx s (j : Int) 1 (fun t => Ld t Sl.val k) w := by
  have hr2 : RdC w s 1 ((L.map Prod.snd).map Sl.val) := by rw [List.map_map]; exact hr
  exact r_idx1 hr2 (by rw [List.getElem?_map, hx]; rfl) hk

theorem law03_DiskLasts_spec {k : Bool → K} {s1 s2 f1 : Sl} {L M : List BS} {ks : List Int} (h1 : RdC B s1 1 (L.map fun x => x.2.val)) (hL : ∀ x ∈ L, RdB B x.2 x.1) (h2 : RdC B s2 1 (M.map fun x => x.2.val)) (hM : ∀ x ∈ M, RdB B x.2 x.1) (hk1 : RdC B f1 1 (ks.map (Value.int .i64)))
    (h : Holds B Γ w) (hk : ∀ w, Holds B Γ w → k true w) : law03_DiskLasts.call s1 s2 f1 k w := by
  have hn1 : L.length = s1.n := by have := h1.len; simpa using this
  have hn2 : M.length = s2.n := by have := h2.len; simpa using this
  refine law03_DiskLasts_ok _ _ _ _ _ ?_
  unfold law03_DiskLasts
  refine law03_speaks_spec h fun w h => ?_
  refine r_ite_f rfl ?_
  unfold law03_DiskLasts.s1
  refine r_ite (fun _ => r_ite_t rfl (hk _ h)) (fun hb1 => ?_)
  refine r_ite (fun _ => hk _ h) (fun hb2 => ?_)
  simp only [decide_eq_false_iff_not] at hb1 hb2
  refine new_spec h (fun hb => by omega) fun d w _ _ h => ?_
  refine r_ite_f rfl ?_
  refine r_new h ?_
  clear h
  intro t34 w h
  try simp only [add_mk, Nat.zero_add, Nat.reduceAdd]
  replace h := bytes_new (xs := []) (n := 0) (by rfl) rfl h
  refine r_new h ?_
  clear h
  intro t35 w h
  try simp only [add_mk, Nat.zero_add, Nat.reduceAdd]
  replace h := bytes_new (xs := []) (n := 0) (by rfl) rfl h
  have hD0 := new_ok (room := 1048576) (by decide) (by decide)
  refine LoopK.of (fun t w => ∃ j : Nat, t.2 = (j : Int) ∧ j ≤ L.length ∧ (∀ x ∈ L.take j, x.1.length ≤ 2000) ∧ OkD (oneF j (catL (L.take j)) 0) ∧ Holds B (Bytes ty_uint8 ⟨some ⟨t35, 0, none⟩, 0, 0⟩ [] :: Bytes ty_uint8 t.1 (catL (L.take j)) :: DiskR d (oneF j (catL (L.take j)) 0) :: Γ) w) (fun t _ => ((s1.n : Int) - t.2).toNat)
    ⟨0, rfl, by omega, by simp, hD0, h⟩ ?_
  clear h hD0
  rintro ⟨sure, t⟩ w ⟨j, ht, hj, hsm, hD, h⟩
  simp only at ht h
  subst ht
  dsimp only
  have hcl := catL_len hsm
  have hjt : (L.take j).length = j := by rw [List.length_take]; omega
  rw [hjt] at hcl
  have hj0 : j = 0 → catL (L.take j) = [] ∧ (0 : Nat) = 0 := fun h => by subst h; exact ⟨rfl, rfl⟩
  unfold law03_DiskLasts.b2
  refine r_ite (fun hb => ?_) (fun hb => ?_)
  · simp only [decide_eq_true_eq] at hb
    have hjl : j < L.length := by omega
    have hx : L[j]? = some L[j] := List.getElem?_eq_getElem hjl
    generalize hX : L[j] = x at hx
    have hxr := hL x (List.mem_of_getElem? hx)
    have hxn : x.1.length = x.2.n := by have := hxr.len; simpa using this
    refine r_bs (h1.old h) hx ?_
    refine r_ite (fun _ => hk _ h.tail.tail.tail) (fun hb3 => ?_)
    simp only [decide_eq_false_iff_not] at hb3
    have htk : L.take (j + 1) = L.take j ++ [x] := by rw [List.take_succ_eq_append_getElem hjl, hX]
    replace h := h.pick 1 at1
    try simp only [List.set_cons_zero, List.set_cons_succ, List.eraseIdx_zero, List.eraseIdx_cons_zero, List.eraseIdx_cons_succ, List.setIfInBounds_toArray, List.tail_cons] at h
    replace h := h.pick 2 at2
    try simp only [List.set_cons_zero, List.set_cons_succ, List.eraseIdx_zero, List.eraseIdx_cons_zero, List.eraseIdx_cons_succ, List.setIfInBounds_toArray, List.tail_cons] at h
    have ha := oneF_append (x := x.1) hj0 (by omega)
    refine append_spec (n := [102]) (x := x.1) hD (by omega) h (fun w h => hxr.old h) fun w hD' h => ?_
    rw [ha] at hD' h
    replace h := h.pick 2 at2
    try simp only [List.set_cons_zero, List.set_cons_succ, List.eraseIdx_zero, List.eraseIdx_cons_zero, List.eraseIdx_cons_succ, List.setIfInBounds_toArray, List.tail_cons] at h
    replace h := h.pick 1 at1
    try simp only [List.set_cons_zero, List.set_cons_succ, List.eraseIdx_zero, List.eraseIdx_cons_zero, List.eraseIdx_cons_succ, List.setIfInBounds_toArray, List.tail_cons] at h
    replace h := h.pick 2 at2
    try simp only [List.set_cons_zero, List.set_cons_succ, List.eraseIdx_zero, List.eraseIdx_cons_zero, List.eraseIdx_cons_succ, List.setIfInBounds_toArray, List.tail_cons] at h
    refine r_appB h (hxr.old h) (by omega) fun t50 w h _ _ => ?_
    refine r_add64 (by omega) (by omega) ?_
    refine ⟨⟨j + 1, by simp, by omega, fun y hy => ?_, ?_, ?_⟩, by omega⟩
    · rw [htk] at hy
      rcases List.mem_append.1 hy with hy | hy
      · exact hsm y hy
      · simp only [List.mem_singleton] at hy; subst hy; omega
    · rw [htk, catL_snoc]; exact hD'
    · rw [htk, catL_snoc]
      replace h := h.pick 1 at1
      try simp only [List.set_cons_zero, List.set_cons_succ, List.eraseIdx_zero, List.eraseIdx_cons_zero, List.eraseIdx_cons_succ, List.setIfInBounds_toArray, List.tail_cons] at h
      replace h := h.pick 1 at1
      try simp only [List.set_cons_zero, List.set_cons_succ, List.eraseIdx_zero, List.eraseIdx_cons_zero, List.eraseIdx_cons_succ, List.setIfInBounds_toArray, List.tail_cons] at h
      replace h := h.pick 2 at2
      try simp only [List.set_cons_zero, List.set_cons_succ, List.eraseIdx_zero, List.eraseIdx_cons_zero, List.eraseIdx_cons_succ, List.setIfInBounds_toArray, List.tail_cons] at h
      exact h
  simp only [decide_eq_false_iff_not] at hb
  have hjL : j = L.length := by omega
  subst hjL
  rw [List.take_length] at *
  replace h := h.pick 1 at1
  try simp only [List.set_cons_zero, List.set_cons_succ, List.eraseIdx_zero, List.eraseIdx_cons_zero, List.eraseIdx_cons_succ, List.setIfInBounds_toArray, List.tail_cons] at h
  replace h := h.pick 1 at1
  try simp only [List.set_cons_zero, List.set_cons_succ, List.eraseIdx_zero, List.eraseIdx_cons_zero, List.eraseIdx_cons_succ, List.setIfInBounds_toArray, List.tail_cons] at h
  replace h := h.pick 2 at2
  try simp only [List.set_cons_zero, List.set_cons_succ, List.eraseIdx_zero, List.eraseIdx_cons_zero, List.eraseIdx_cons_succ, List.setIfInBounds_toArray, List.tail_cons] at h
  refine sync_spec (n := [102]) hD h fun w hD h => ?_
  rw [oneF_sync] at hD h
  obtain ⟨l, hl⟩ : ∃ l, l = if L.length = 0 then 0 else (catL L).length := ⟨_, rfl⟩
  rw [← hl] at hD h
  replace h := h.pick 2 at2
  try simp only [List.set_cons_zero, List.set_cons_succ, List.eraseIdx_zero, List.eraseIdx_cons_zero, List.eraseIdx_cons_succ, List.setIfInBounds_toArray, List.tail_cons] at h
  replace h := h.pick 2 at2
  try simp only [List.set_cons_zero, List.set_cons_succ, List.eraseIdx_zero, List.eraseIdx_cons_zero, List.eraseIdx_cons_succ, List.setIfInBounds_toArray, List.tail_cons] at h
  refine r_appB h (Bytes.rd h (List.mem_cons_of_mem _ List.mem_cons_self)) (by simp only [List.length_nil]; omega) fun t56 w h _ _ => ?_
  rw [List.nil_append] at h
  refine LoopK.of (fun t w => ∃ i : Nat, t.2 = (i : Int) ∧ i ≤ M.length ∧ (∀ x ∈ M.take i, x.1.length ≤ 2000) ∧ OkD (oneF (L.length + i) (catL L ++ catL (M.take i)) l) ∧ Holds B (Bytes ty_uint8 t.1 (catL L ++ catL (M.take i)) :: Bytes ty_uint8 sure (catL L) :: DiskR d (oneF (L.length + i) (catL L ++ catL (M.take i)) l) :: Γ) w) (fun t _ => ((s2.n : Int) - t.2).toNat)
    ⟨0, rfl, by omega, by simp, by simpa [catL] using hD, by simpa [catL] using h⟩ ?_
  clear h hD
  rintro ⟨all, t⟩ w ⟨i, ht, hi, hsm2, hD, h⟩
  simp only at ht h
  subst ht
  dsimp only
  have hcl2 := catL_len hsm2
  have hit : (M.take i).length = i := by rw [List.length_take]; omega
  rw [hit] at hcl2
  have hi0 : L.length + i = 0 → catL L ++ catL (M.take i) = [] ∧ l = 0 := fun h => by
    have hL0 : L = [] := List.length_eq_zero_iff.1 (by omega)
    have hi0 : i = 0 := by omega
    subst hi0; subst hL0
    exact ⟨rfl, by rw [hl]; rfl⟩
  unfold law03_DiskLasts.b3
  refine r_ite (fun hb3 => ?_) (fun hb3 => ?_)
  · simp only [decide_eq_true_eq] at hb3
    have hil : i < M.length := by omega
    have hx : M[i]? = some M[i] := List.getElem?_eq_getElem hil
    generalize hX : M[i] = x at hx
    have hxr := hM x (List.mem_of_getElem? hx)
    have hxn : x.1.length = x.2.n := by have := hxr.len; simpa using this
    refine r_bs (h2.old h) hx ?_
    refine r_ite (fun _ => hk _ h.tail.tail.tail) (fun hb4 => ?_)
    simp only [decide_eq_false_iff_not] at hb4
    have htk : M.take (i + 1) = M.take i ++ [x] := by rw [List.take_succ_eq_append_getElem hil, hX]
    replace h := h.pick 1 at1
    try simp only [List.set_cons_zero, List.set_cons_succ, List.eraseIdx_zero, List.eraseIdx_cons_zero, List.eraseIdx_cons_succ, List.setIfInBounds_toArray, List.tail_cons] at h
    replace h := h.pick 2 at2
    try simp only [List.set_cons_zero, List.set_cons_succ, List.eraseIdx_zero, List.eraseIdx_cons_zero, List.eraseIdx_cons_succ, List.setIfInBounds_toArray, List.tail_cons] at h
    have ha := oneF_append (x := x.1) hi0 (by rw [List.length_append]; omega)
    refine append_spec (n := [102]) (x := x.1) hD (by omega) h (fun w h => hxr.old h) fun w hD' h => ?_
    rw [ha] at hD' h
    replace h := h.pick 1 at1
    try simp only [List.set_cons_zero, List.set_cons_succ, List.eraseIdx_zero, List.eraseIdx_cons_zero, List.eraseIdx_cons_succ, List.setIfInBounds_toArray, List.tail_cons] at h
    replace h := h.pick 1 at1
    try simp only [List.set_cons_zero, List.set_cons_succ, List.eraseIdx_zero, List.eraseIdx_cons_zero, List.eraseIdx_cons_succ, List.setIfInBounds_toArray, List.tail_cons] at h
    replace h := h.pick 2 at2
    try simp only [List.set_cons_zero, List.set_cons_succ, List.eraseIdx_zero, List.eraseIdx_cons_zero, List.eraseIdx_cons_succ, List.setIfInBounds_toArray, List.tail_cons] at h
    refine r_appB h (hxr.old h) (by rw [List.length_append]; omega) fun t71 w h _ _ => ?_
    refine r_add64 (by omega) (by omega) ?_
    refine ⟨⟨i + 1, by simp, by omega, fun y hy => ?_, ?_, ?_⟩, by omega⟩
    · rw [htk] at hy
      rcases List.mem_append.1 hy with hy | hy
      · exact hsm2 y hy
      · simp only [List.mem_singleton] at hy; subst hy; omega
    · rw [htk, catL_snoc, ← List.append_assoc]; exact hD'
    · rw [htk, catL_snoc, ← List.append_assoc]
      replace h := h.pick 1 at1
      try simp only [List.set_cons_zero, List.set_cons_succ, List.eraseIdx_zero, List.eraseIdx_cons_zero, List.eraseIdx_cons_succ, List.setIfInBounds_toArray, List.tail_cons] at h
      replace h := h.pick 2 at2
      try simp only [List.set_cons_zero, List.set_cons_succ, List.eraseIdx_zero, List.eraseIdx_cons_zero, List.eraseIdx_cons_succ, List.setIfInBounds_toArray, List.tail_cons] at h
      replace h := h.pick 2 at2
      try simp only [List.set_cons_zero, List.set_cons_succ, List.eraseIdx_zero, List.eraseIdx_cons_zero, List.eraseIdx_cons_succ, List.setIfInBounds_toArray, List.tail_cons] at h
      exact h
  simp only [decide_eq_false_iff_not] at hb3
  have hiM : i = M.length := by omega
  subst hiM
  rw [List.take_length] at *
  have hal := Bytes.len h
  have hsl := Bytes.len h.tail
  have hac := h.slCap
  replace h := h.pick 1 at1
  try simp only [List.set_cons_zero, List.set_cons_succ, List.eraseIdx_zero, List.eraseIdx_cons_zero, List.eraseIdx_cons_succ, List.setIfInBounds_toArray, List.tail_cons] at h
  replace h := h.pick 1 at1
  try simp only [List.set_cons_zero, List.set_cons_succ, List.eraseIdx_zero, List.eraseIdx_cons_zero, List.eraseIdx_cons_succ, List.setIfInBounds_toArray, List.tail_cons] at h
  replace h := h.pick 2 at2
  try simp only [List.set_cons_zero, List.set_cons_succ, List.eraseIdx_zero, List.eraseIdx_cons_zero, List.eraseIdx_cons_succ, List.setIfInBounds_toArray, List.tail_cons] at h
  refine crash_spec (ks := ks) hD h (fun w h => hk1.old h) fun x w h => ?_
  refine r_ite_f rfl ?_
  have hll : l ≤ (catL L ++ catL M).length := by rw [hl, List.length_append]; split <;> omega
  obtain ⟨r0, r1⟩ := oneF_read ks (n := L.length + M.length) hll
  refine read_spec (n := [102]) (hD.crash ks) h fun got w h => ?_
  refine r_ar (e' := ((L.length + M.length : Nat) : Int)) (by rw [wrap64 (by omega) (by omega)]; omega) ?_
  have hgl := Bytes.len h
  refine r_ite (fun hb4 => ?_) (fun hb4 => ?_)
  · simp only [decide_eq_true_eq] at hb4
    have hz := r0 (by omega)
    rw [hz, decide_eq_true rfl]
    exact hk _ h.tail.tail.tail.tail.tail
  simp only [decide_eq_false_iff_not] at hb4
  obtain ⟨m, hm1, hm2, hrd⟩ := r1 (by omega)
  rw [hrd] at h hgl
  rw [hrd]
  have hgm : got.n = m := by rw [← hgl, List.length_take]; omega
  rw [List.length_append] at hm2 hal
  refine r_ite_f (by simp only [decide_eq_false_iff_not]; omega) ?_
  unfold law03_DiskLasts.s4
  refine r_ite_f rfl ?_
  have rg : RdB w got ((catL L ++ catL M).take m) := Bytes.rd h (by first | (with_reducible exact List.mem_cons_self) | (with_reducible exact List.mem_cons_of_mem _ (List.mem_cons_self)) | (with_reducible exact List.mem_cons_of_mem _ (List.mem_cons_of_mem _ (List.mem_cons_self))) | (with_reducible exact List.mem_cons_of_mem _ (List.mem_cons_of_mem _ (List.mem_cons_of_mem _ (List.mem_cons_self)))) | (with_reducible exact List.mem_cons_of_mem _ (List.mem_cons_of_mem _ (List.mem_cons_of_mem _ (List.mem_cons_of_mem _ (List.mem_cons_self))))) | (with_reducible exact List.mem_cons_of_mem _ (List.mem_cons_of_mem _ (List.mem_cons_of_mem _ (List.mem_cons_of_mem _ (List.mem_cons_of_mem _ (List.mem_cons_self)))))) | (with_reducible exact List.mem_cons_of_mem _ (List.mem_cons_of_mem _ (List.mem_cons_of_mem _ (List.mem_cons_of_mem _ (List.mem_cons_of_mem _ (List.mem_cons_of_mem _ (List.mem_cons_self))))))) | (with_reducible exact List.mem_cons_of_mem _ (List.mem_cons_of_mem _ (List.mem_cons_of_mem _ (List.mem_cons_of_mem _ (List.mem_cons_of_mem _ (List.mem_cons_of_mem _ (List.mem_cons_of_mem _ (List.mem_cons_self)))))))) | (with_reducible exact List.mem_cons_of_mem _ (List.mem_cons_of_mem _ (List.mem_cons_of_mem _ (List.mem_cons_of_mem _ (List.mem_cons_of_mem _ (List.mem_cons_of_mem _ (List.mem_cons_of_mem _ (List.mem_cons_of_mem _ (List.mem_cons_self))))))))) | (with_reducible exact List.mem_cons_of_mem _ (List.mem_cons_of_mem _ (List.mem_cons_of_mem _ (List.mem_cons_of_mem _ (List.mem_cons_of_mem _ (List.mem_cons_of_mem _ (List.mem_cons_of_mem _ (List.mem_cons_of_mem _ (List.mem_cons_of_mem _ (List.mem_cons_self)))))))))) | (with_reducible exact List.mem_cons_of_mem _ (List.mem_cons_of_mem _ (List.mem_cons_of_mem _ (List.mem_cons_of_mem _ (List.mem_cons_of_mem _ (List.mem_cons_of_mem _ (List.mem_cons_of_mem _ (List.mem_cons_of_mem _ (List.mem_cons_of_mem _ (List.mem_cons_of_mem _ (List.mem_cons_self))))))))))) | (with_reducible exact List.mem_cons_of_mem _ (List.mem_cons_of_mem _ (List.mem_cons_of_mem _ (List.mem_cons_of_mem _ (List.mem_cons_of_mem _ (List.mem_cons_of_mem _ (List.mem_cons_of_mem _ (List.mem_cons_of_mem _ (List.mem_cons_of_mem _ (List.mem_cons_of_mem _ (List.mem_cons_of_mem _ (List.mem_cons_self)))))))))))) | (with_reducible exact List.mem_cons_of_mem _ (List.mem_cons_of_mem _ (List.mem_cons_of_mem _ (List.mem_cons_of_mem _ (List.mem_cons_of_mem _ (List.mem_cons_of_mem _ (List.mem_cons_of_mem _ (List.mem_cons_of_mem _ (List.mem_cons_of_mem _ (List.mem_cons_of_mem _ (List.mem_cons_of_mem _ (List.mem_cons_of_mem _ (List.mem_cons_self))))))))))))))
  have ra : RdB w all (catL L ++ catL M) := Bytes.rd h (by first | (with_reducible exact List.mem_cons_self) | (with_reducible exact List.mem_cons_of_mem _ (List.mem_cons_self)) | (with_reducible exact List.mem_cons_of_mem _ (List.mem_cons_of_mem _ (List.mem_cons_self))) | (with_reducible exact List.mem_cons_of_mem _ (List.mem_cons_of_mem _ (List.mem_cons_of_mem _ (List.mem_cons_self)))) | (with_reducible exact List.mem_cons_of_mem _ (List.mem_cons_of_mem _ (List.mem_cons_of_mem _ (List.mem_cons_of_mem _ (List.mem_cons_self))))) | (with_reducible exact List.mem_cons_of_mem _ (List.mem_cons_of_mem _ (List.mem_cons_of_mem _ (List.mem_cons_of_mem _ (List.mem_cons_of_mem _ (List.mem_cons_self)))))) | (with_reducible exact List.mem_cons_of_mem _ (List.mem_cons_of_mem _ (List.mem_cons_of_mem _ (List.mem_cons_of_mem _ (List.mem_cons_of_mem _ (List.mem_cons_of_mem _ (List.mem_cons_self))))))) | (with_reducible exact List.mem_cons_of_mem _ (List.mem_cons_of_mem _ (List.mem_cons_of_mem _ (List.mem_cons_of_mem _ (List.mem_cons_of_mem _ (List.mem_cons_of_mem _ (List.mem_cons_of_mem _ (List.mem_cons_self)))))))) | (with_reducible exact List.mem_cons_of_mem _ (List.mem_cons_of_mem _ (List.mem_cons_of_mem _ (List.mem_cons_of_mem _ (List.mem_cons_of_mem _ (List.mem_cons_of_mem _ (List.mem_cons_of_mem _ (List.mem_cons_of_mem _ (List.mem_cons_self))))))))) | (with_reducible exact List.mem_cons_of_mem _ (List.mem_cons_of_mem _ (List.mem_cons_of_mem _ (List.mem_cons_of_mem _ (List.mem_cons_of_mem _ (List.mem_cons_of_mem _ (List.mem_cons_of_mem _ (List.mem_cons_of_mem _ (List.mem_cons_of_mem _ (List.mem_cons_self)))))))))) | (with_reducible exact List.mem_cons_of_mem _ (List.mem_cons_of_mem _ (List.mem_cons_of_mem _ (List.mem_cons_of_mem _ (List.mem_cons_of_mem _ (List.mem_cons_of_mem _ (List.mem_cons_of_mem _ (List.mem_cons_of_mem _ (List.mem_cons_of_mem _ (List.mem_cons_of_mem _ (List.mem_cons_self))))))))))) | (with_reducible exact List.mem_cons_of_mem _ (List.mem_cons_of_mem _ (List.mem_cons_of_mem _ (List.mem_cons_of_mem _ (List.mem_cons_of_mem _ (List.mem_cons_of_mem _ (List.mem_cons_of_mem _ (List.mem_cons_of_mem _ (List.mem_cons_of_mem _ (List.mem_cons_of_mem _ (List.mem_cons_of_mem _ (List.mem_cons_self)))))))))))) | (with_reducible exact List.mem_cons_of_mem _ (List.mem_cons_of_mem _ (List.mem_cons_of_mem _ (List.mem_cons_of_mem _ (List.mem_cons_of_mem _ (List.mem_cons_of_mem _ (List.mem_cons_of_mem _ (List.mem_cons_of_mem _ (List.mem_cons_of_mem _ (List.mem_cons_of_mem _ (List.mem_cons_of_mem _ (List.mem_cons_of_mem _ (List.mem_cons_self))))))))))))))
  have ra2 : RdB w ⟨all.a, got.n, all.c⟩ ((catL L ++ catL M).take m) := by rw [hgm]; exact rdB_take ra (by omega)
  have cutE : (fun w => Slc all 0 (got.n : Int) (all.c : Int) 1 w) = fun w => Slc all 0 (got.n : Int) (all.c : Int) 1 w := rfl
  refine r_ite (fun hb5 => ?_) (fun hb5 => ?_)
  · refine r_dr h ?_
    clear h
    intro w h
    refine r_str (by kernel_rfl) (Bytes.rd (s := got) (xs := (catL L ++ catL M).take m) h (by first | (with_reducible exact List.mem_cons_self) | (with_reducible exact List.mem_cons_of_mem _ (List.mem_cons_self)) | (with_reducible exact List.mem_cons_of_mem _ (List.mem_cons_of_mem _ (List.mem_cons_self))) | (with_reducible exact List.mem_cons_of_mem _ (List.mem_cons_of_mem _ (List.mem_cons_of_mem _ (List.mem_cons_self)))) | (with_reducible exact List.mem_cons_of_mem _ (List.mem_cons_of_mem _ (List.mem_cons_of_mem _ (List.mem_cons_of_mem _ (List.mem_cons_self))))) | (with_reducible exact List.mem_cons_of_mem _ (List.mem_cons_of_mem _ (List.mem_cons_of_mem _ (List.mem_cons_of_mem _ (List.mem_cons_of_mem _ (List.mem_cons_self)))))) | (with_reducible exact List.mem_cons_of_mem _ (List.mem_cons_of_mem _ (List.mem_cons_of_mem _ (List.mem_cons_of_mem _ (List.mem_cons_of_mem _ (List.mem_cons_of_mem _ (List.mem_cons_self))))))) | (with_reducible exact List.mem_cons_of_mem _ (List.mem_cons_of_mem _ (List.mem_cons_of_mem _ (List.mem_cons_of_mem _ (List.mem_cons_of_mem _ (List.mem_cons_of_mem _ (List.mem_cons_of_mem _ (List.mem_cons_self)))))))) | (with_reducible exact List.mem_cons_of_mem _ (List.mem_cons_of_mem _ (List.mem_cons_of_mem _ (List.mem_cons_of_mem _ (List.mem_cons_of_mem _ (List.mem_cons_of_mem _ (List.mem_cons_of_mem _ (List.mem_cons_of_mem _ (List.mem_cons_self))))))))) | (with_reducible exact List.mem_cons_of_mem _ (List.mem_cons_of_mem _ (List.mem_cons_of_mem _ (List.mem_cons_of_mem _ (List.mem_cons_of_mem _ (List.mem_cons_of_mem _ (List.mem_cons_of_mem _ (List.mem_cons_of_mem _ (List.mem_cons_of_mem _ (List.mem_cons_self)))))))))) | (with_reducible exact List.mem_cons_of_mem _ (List.mem_cons_of_mem _ (List.mem_cons_of_mem _ (List.mem_cons_of_mem _ (List.mem_cons_of_mem _ (List.mem_cons_of_mem _ (List.mem_cons_of_mem _ (List.mem_cons_of_mem _ (List.mem_cons_of_mem _ (List.mem_cons_of_mem _ (List.mem_cons_self))))))))))) | (with_reducible exact List.mem_cons_of_mem _ (List.mem_cons_of_mem _ (List.mem_cons_of_mem _ (List.mem_cons_of_mem _ (List.mem_cons_of_mem _ (List.mem_cons_of_mem _ (List.mem_cons_of_mem _ (List.mem_cons_of_mem _ (List.mem_cons_of_mem _ (List.mem_cons_of_mem _ (List.mem_cons_of_mem _ (List.mem_cons_self)))))))))))) | (with_reducible exact List.mem_cons_of_mem _ (List.mem_cons_of_mem _ (List.mem_cons_of_mem _ (List.mem_cons_of_mem _ (List.mem_cons_of_mem _ (List.mem_cons_of_mem _ (List.mem_cons_of_mem _ (List.mem_cons_of_mem _ (List.mem_cons_of_mem _ (List.mem_cons_of_mem _ (List.mem_cons_of_mem _ (List.mem_cons_of_mem _ (List.mem_cons_self))))))))))))))) ?_
    refine ⟨_, by omega, by omega, by omega, by omega, rfl, ?_⟩
    simp only [Int.toNat_natCast, show (0 : Int).toNat = 0 from rfl, cut0 hac.2.2.1, Nat.sub_zero]
    have ra3 : RdB w ⟨all.a, got.n, all.c⟩ ((catL L ++ catL M).take m) := by rw [hgm]; exact rdB_take (Bytes.rd (s := all) (xs := catL L ++ catL M) h (by first | (with_reducible exact List.mem_cons_self) | (with_reducible exact List.mem_cons_of_mem _ (List.mem_cons_self)) | (with_reducible exact List.mem_cons_of_mem _ (List.mem_cons_of_mem _ (List.mem_cons_self))) | (with_reducible exact List.mem_cons_of_mem _ (List.mem_cons_of_mem _ (List.mem_cons_of_mem _ (List.mem_cons_self)))) | (with_reducible exact List.mem_cons_of_mem _ (List.mem_cons_of_mem _ (List.mem_cons_of_mem _ (List.mem_cons_of_mem _ (List.mem_cons_self))))) | (with_reducible exact List.mem_cons_of_mem _ (List.mem_cons_of_mem _ (List.mem_cons_of_mem _ (List.mem_cons_of_mem _ (List.mem_cons_of_mem _ (List.mem_cons_self)))))) | (with_reducible exact List.mem_cons_of_mem _ (List.mem_cons_of_mem _ (List.mem_cons_of_mem _ (List.mem_cons_of_mem _ (List.mem_cons_of_mem _ (List.mem_cons_of_mem _ (List.mem_cons_self))))))) | (with_reducible exact List.mem_cons_of_mem _ (List.mem_cons_of_mem _ (List.mem_cons_of_mem _ (List.mem_cons_of_mem _ (List.mem_cons_of_mem _ (List.mem_cons_of_mem _ (List.mem_cons_of_mem _ (List.mem_cons_self)))))))) | (with_reducible exact List.mem_cons_of_mem _ (List.mem_cons_of_mem _ (List.mem_cons_of_mem _ (List.mem_cons_of_mem _ (List.mem_cons_of_mem _ (List.mem_cons_of_mem _ (List.mem_cons_of_mem _ (List.mem_cons_of_mem _ (List.mem_cons_self))))))))) | (with_reducible exact List.mem_cons_of_mem _ (List.mem_cons_of_mem _ (List.mem_cons_of_mem _ (List.mem_cons_of_mem _ (List.mem_cons_of_mem _ (List.mem_cons_of_mem _ (List.mem_cons_of_mem _ (List.mem_cons_of_mem _ (List.mem_cons_of_mem _ (List.mem_cons_self)))))))))) | (with_reducible exact List.mem_cons_of_mem _ (List.mem_cons_of_mem _ (List.mem_cons_of_mem _ (List.mem_cons_of_mem _ (List.mem_cons_of_mem _ (List.mem_cons_of_mem _ (List.mem_cons_of_mem _ (List.mem_cons_of_mem _ (List.mem_cons_of_mem _ (List.mem_cons_of_mem _ (List.mem_cons_self))))))))))) | (with_reducible exact List.mem_cons_of_mem _ (List.mem_cons_of_mem _ (List.mem_cons_of_mem _ (List.mem_cons_of_mem _ (List.mem_cons_of_mem _ (List.mem_cons_of_mem _ (List.mem_cons_of_mem _ (List.mem_cons_of_mem _ (List.mem_cons_of_mem _ (List.mem_cons_of_mem _ (List.mem_cons_of_mem _ (List.mem_cons_self)))))))))))) | (with_reducible exact List.mem_cons_of_mem _ (List.mem_cons_of_mem _ (List.mem_cons_of_mem _ (List.mem_cons_of_mem _ (List.mem_cons_of_mem _ (List.mem_cons_of_mem _ (List.mem_cons_of_mem _ (List.mem_cons_of_mem _ (List.mem_cons_of_mem _ (List.mem_cons_of_mem _ (List.mem_cons_of_mem _ (List.mem_cons_of_mem _ (List.mem_cons_self))))))))))))))) (by omega)
    refine r_str (by kernel_rfl) ra3 ?_
    simp only [str_toList]
    rw [show ((catL L ++ catL M).take m == (catL L ++ catL M).take m) = true by simp]
    exact hk _ h.tail.tail.tail.tail.tail
  · simp only [decide_eq_false_iff_not] at hb5
    refine r_dr h ?_
    clear h
    intro w h
    have hL0 : L.length ≠ 0 := by omega
    rw [if_neg hL0] at hl
    refine r_ite_t (by simp only [decide_eq_true_eq]; omega) ?_
    refine r_str (by kernel_rfl) (Bytes.rd (s := got) (xs := (catL L ++ catL M).take m) h (by first | (with_reducible exact List.mem_cons_self) | (with_reducible exact List.mem_cons_of_mem _ (List.mem_cons_self)) | (with_reducible exact List.mem_cons_of_mem _ (List.mem_cons_of_mem _ (List.mem_cons_self))) | (with_reducible exact List.mem_cons_of_mem _ (List.mem_cons_of_mem _ (List.mem_cons_of_mem _ (List.mem_cons_self)))) | (with_reducible exact List.mem_cons_of_mem _ (List.mem_cons_of_mem _ (List.mem_cons_of_mem _ (List.mem_cons_of_mem _ (List.mem_cons_self))))) | (with_reducible exact List.mem_cons_of_mem _ (List.mem_cons_of_mem _ (List.mem_cons_of_mem _ (List.mem_cons_of_mem _ (List.mem_cons_of_mem _ (List.mem_cons_self)))))) | (with_reducible exact List.mem_cons_of_mem _ (List.mem_cons_of_mem _ (List.mem_cons_of_mem _ (List.mem_cons_of_mem _ (List.mem_cons_of_mem _ (List.mem_cons_of_mem _ (List.mem_cons_self))))))) | (with_reducible exact List.mem_cons_of_mem _ (List.mem_cons_of_mem _ (List.mem_cons_of_mem _ (List.mem_cons_of_mem _ (List.mem_cons_of_mem _ (List.mem_cons_of_mem _ (List.mem_cons_of_mem _ (List.mem_cons_self)))))))) | (with_reducible exact List.mem_cons_of_mem _ (List.mem_cons_of_mem _ (List.mem_cons_of_mem _ (List.mem_cons_of_mem _ (List.mem_cons_of_mem _ (List.mem_cons_of_mem _ (List.mem_cons_of_mem _ (List.mem_cons_of_mem _ (List.mem_cons_self))))))))) | (with_reducible exact List.mem_cons_of_mem _ (List.mem_cons_of_mem _ (List.mem_cons_of_mem _ (List.mem_cons_of_mem _ (List.mem_cons_of_mem _ (List.mem_cons_of_mem _ (List.mem_cons_of_mem _ (List.mem_cons_of_mem _ (List.mem_cons_of_mem _ (List.mem_cons_self)))))))))) | (with_reducible exact List.mem_cons_of_mem _ (List.mem_cons_of_mem _ (List.mem_cons_of_mem _ (List.mem_cons_of_mem _ (List.mem_cons_of_mem _ (List.mem_cons_of_mem _ (List.mem_cons_of_mem _ (List.mem_cons_of_mem _ (List.mem_cons_of_mem _ (List.mem_cons_of_mem _ (List.mem_cons_self))))))))))) | (with_reducible exact List.mem_cons_of_mem _ (List.mem_cons_of_mem _ (List.mem_cons_of_mem _ (List.mem_cons_of_mem _ (List.mem_cons_of_mem _ (List.mem_cons_of_mem _ (List.mem_cons_of_mem _ (List.mem_cons_of_mem _ (List.mem_cons_of_mem _ (List.mem_cons_of_mem _ (List.mem_cons_of_mem _ (List.mem_cons_self)))))))))))) | (with_reducible exact List.mem_cons_of_mem _ (List.mem_cons_of_mem _ (List.mem_cons_of_mem _ (List.mem_cons_of_mem _ (List.mem_cons_of_mem _ (List.mem_cons_of_mem _ (List.mem_cons_of_mem _ (List.mem_cons_of_mem _ (List.mem_cons_of_mem _ (List.mem_cons_of_mem _ (List.mem_cons_of_mem _ (List.mem_cons_of_mem _ (List.mem_cons_self))))))))))))))) ?_
    refine ⟨_, by omega, by omega, by omega, by omega, rfl, ?_⟩
    simp only [Int.toNat_natCast, show (0 : Int).toNat = 0 from rfl, cut0 hac.2.2.1, Nat.sub_zero]
    have ra3 : RdB w ⟨all.a, got.n, all.c⟩ ((catL L ++ catL M).take m) := by rw [hgm]; exact rdB_take (Bytes.rd (s := all) (xs := catL L ++ catL M) h (by first | (with_reducible exact List.mem_cons_self) | (with_reducible exact List.mem_cons_of_mem _ (List.mem_cons_self)) | (with_reducible exact List.mem_cons_of_mem _ (List.mem_cons_of_mem _ (List.mem_cons_self))) | (with_reducible exact List.mem_cons_of_mem _ (List.mem_cons_of_mem _ (List.mem_cons_of_mem _ (List.mem_cons_self)))) | (with_reducible exact List.mem_cons_of_mem _ (List.mem_cons_of_mem _ (List.mem_cons_of_mem _ (List.mem_cons_of_mem _ (List.mem_cons_self))))) | (with_reducible exact List.mem_cons_of_mem _ (List.mem_cons_of_mem _ (List.mem_cons_of_mem _ (List.mem_cons_of_mem _ (List.mem_cons_of_mem _ (List.mem_cons_self)))))) | (with_reducible exact List.mem_cons_of_mem _ (List.mem_cons_of_mem _ (List.mem_cons_of_mem _ (List.mem_cons_of_mem _ (List.mem_cons_of_mem _ (List.mem_cons_of_mem _ (List.mem_cons_self))))))) | (with_reducible exact List.mem_cons_of_mem _ (List.mem_cons_of_mem _ (List.mem_cons_of_mem _ (List.mem_cons_of_mem _ (List.mem_cons_of_mem _ (List.mem_cons_of_mem _ (List.mem_cons_of_mem _ (List.mem_cons_self)))))))) | (with_reducible exact List.mem_cons_of_mem _ (List.mem_cons_of_mem _ (List.mem_cons_of_mem _ (List.mem_cons_of_mem _ (List.mem_cons_of_mem _ (List.mem_cons_of_mem _ (List.mem_cons_of_mem _ (List.mem_cons_of_mem _ (List.mem_cons_self))))))))) | (with_reducible exact List.mem_cons_of_mem _ (List.mem_cons_of_mem _ (List.mem_cons_of_mem _ (List.mem_cons_of_mem _ (List.mem_cons_of_mem _ (List.mem_cons_of_mem _ (List.mem_cons_of_mem _ (List.mem_cons_of_mem _ (List.mem_cons_of_mem _ (List.mem_cons_self)))))))))) | (with_reducible exact List.mem_cons_of_mem _ (List.mem_cons_of_mem _ (List.mem_cons_of_mem _ (List.mem_cons_of_mem _ (List.mem_cons_of_mem _ (List.mem_cons_of_mem _ (List.mem_cons_of_mem _ (List.mem_cons_of_mem _ (List.mem_cons_of_mem _ (List.mem_cons_of_mem _ (List.mem_cons_self))))))))))) | (with_reducible exact List.mem_cons_of_mem _ (List.mem_cons_of_mem _ (List.mem_cons_of_mem _ (List.mem_cons_of_mem _ (List.mem_cons_of_mem _ (List.mem_cons_of_mem _ (List.mem_cons_of_mem _ (List.mem_cons_of_mem _ (List.mem_cons_of_mem _ (List.mem_cons_of_mem _ (List.mem_cons_of_mem _ (List.mem_cons_self)))))))))))) | (with_reducible exact List.mem_cons_of_mem _ (List.mem_cons_of_mem _ (List.mem_cons_of_mem _ (List.mem_cons_of_mem _ (List.mem_cons_of_mem _ (List.mem_cons_of_mem _ (List.mem_cons_of_mem _ (List.mem_cons_of_mem _ (List.mem_cons_of_mem _ (List.mem_cons_of_mem _ (List.mem_cons_of_mem _ (List.mem_cons_of_mem _ (List.mem_cons_self))))))))))))))) (by omega)
    refine r_str (by kernel_rfl) ra3 ?_
    simp only [str_toList]
    unfold law03_DiskLasts.s5
    rw [show ((catL L ++ catL M).take m == (catL L ++ catL M).take m) = true by simp]
    exact hk _ h.tail.tail.tail.tail.tail
end
end Go.Proofs.Ytgnkminakongkaa

namespace Go.Proofs.Ytgnkminakongkaa
open Go Go.Sep Go.RowKit
theorem rd_bss {w : World} {s : Sl} (y : Rdy w Sh_ty_s_s_uint8 (Sl.val s).cells.toList) : ∃ L : List BS, RdC w s 1 (L.map fun x => x.2.val) ∧ ∀ x ∈ L, RdB w x.2 x.1 := by
  obtain ⟨h1, h2⟩ := rdy_sl y
  obtain ⟨L, _, hL, hd⟩ := rd_list (fun x : BS => [x.2.val]) (fun x => RdB w x.2 x.1) (fun _ => rfl) h1 h2 fun cs hc hr => by
    obtain ⟨s, e, _, _, g1, g2⟩ := hr
    subst e
    obtain ⟨xs, _, h3⟩ := rd_bytes g1 g2
    exact ⟨(xs, s), rfl, h3⟩
  rw [flat1] at hL
  exact ⟨L, hL, hd⟩
theorem DiskLasts_walk (W : World) (s : Sl) (y0 : Rdy W Sh_ty_s_s_uint8 (Sl.val s).cells.toList) (d : Sl) (y1 : Rdy W Sh_ty_s_s_uint8 (Sl.val d).cells.toList) (e : Sl) (y2 : Rdy W Sh_ty_s_int (Sl.val e).cells.toList) :
    Calls Try.prog 4 #[s.val, d.val, e.val] W (Ret fun v w' => v = .bool true ∧ Below W.heap.size W w') := by
  obtain ⟨L, h1, h2⟩ := rd_bss y0
  obtain ⟨M, h3, h4⟩ := rd_bss y1
  obtain ⟨E, hE, _⟩ := rdy_ints y2
  exact law_call (law03_DiskLasts_spec h1 h2 h3 h4 hE (Holds.start W) fun w h => ⟨rfl, h⟩)
end Go.Proofs.Ytgnkminakongkaa
