/- LinkOrders: the law. -/
import Derived.Test.YtilejcnbacmdnaaSOrd2
import Derived.Test.YtilejcnbacmdnaaShapes
namespace Go.Proofs.Ytilejcnbacmdnaa
open Go Go.Sep
set_option linter.unusedSimpArgs false
set_option linter.unusedVariables false
set_option maxRecDepth 100000
section
variable {B w : World} {Γ : List HProp}
theorem build68 (a b : Option Addr) (w : World) : (Instr.build 68 [(0, (.pointer a)), (1, (.pointer b))].toArray).run Try.prog w = .ok (.agg #[.pointer a, .pointer b]) w := by
  rfl
theorem build69 (w : World) : (Instr.build 69 [].toArray).run Try.prog w = .ok (.agg #[Sl.val ⟨none, 0, 0⟩, Sl.val ⟨none, 0, 0⟩]) w := by
  rfl
theorem fill72 (a b : Option Addr) : Instr.fill ([(0, 2), (2, 2), (4, 2), (6, 2)][·]?) #[(.pointer none), (.pointer none), (Sl.val ⟨none, 0, 0⟩), (Sl.val ⟨none, 0, 0⟩), (Sl.val ⟨none, 0, 0⟩), (Sl.val ⟨none, 0, 0⟩), (Sl.val ⟨none, 0, 0⟩), (Sl.val ⟨none, 0, 0⟩)] [(0, (.agg #[.pointer a, .pointer b]))] =
    some #[.pointer a, .pointer b, (Sl.val ⟨none, 0, 0⟩), (Sl.val ⟨none, 0, 0⟩), (Sl.val ⟨none, 0, 0⟩), (Sl.val ⟨none, 0, 0⟩), (Sl.val ⟨none, 0, 0⟩), (Sl.val ⟨none, 0, 0⟩)] := by
  simp [Instr.fill, Value.cells]

/-- Cells in the middle of an own block are laid anew. -/
theorem r_stNm {a : Addr} {b off n : Nat} {cs vs : Array Value} {T : TypeId} {k : K} (h : Holds B (blk b (.cells cs T (0, 0)) :: Γ) w) (ha : a = ⟨b, off, none⟩) (hv : vs.size = n) (ho : off + n ≤ cs.size) (hfl : ∀ v ∈ vs.toList, flatV v = true)
    (hk : ∀ w', Holds B (blk b (.cells ((vs.toList.zipIdx off).foldl (fun c p => c.setIfInBounds p.2 p.1) cs) T (0, 0)) :: Γ) w' → k w') : StN a n vs k w := by
  subst ha
  have hb := h.block
  refine ⟨_, rfl, hv, fun j hj => ?_, hfl, hk _ ?_⟩
  · rw [add_mk]
    exact ⟨⟨_, cell_block hb (Array.getElem?_eq_getElem (by omega))⟩, frozen_block hb (nofz _)⟩
  · refine h.setBlock ?_
    rw [setCells_heap _ _ _ _ _ hb]
    rfl
def st0 : PairD := { d := fun s => ⟨epS s, 0, 1, 1, [], []⟩, way := fun _ => [], sent := fun _ => [], got := fun _ => [] }
theorem st0_I : PairI st0 := by
  refine ⟨fun s => ?_, fun s p hp => ?_, fun s x hx => ?_, fun s => ?_⟩
  · refine ⟨rfl, .inl rfl, fun _ => ⟨rfl, rfl, rfl⟩, ?_, rfl, ?_, ⟨?_, rfl, ?_, ⟨?_, ?_⟩, rfl⟩⟩ <;> simp [st0]
  · simp [st0] at hp
  · simp [st0] at hx
  · simp [st0]
theorem st0_B : PairB st0 0 := ⟨fun s => (new_ok _).mono (by simp), fun s => Nat.le_refl _, fun s => Nat.le_refl _, fun s => Nat.le_refl _⟩

theorem comes_take {st : PairD} {s : Bool} {l : List PacketD} {i : Nat} {p : PacketD} (hp : l[i]? = some p) : st.comes s (l.take (i + 1)) = (st.comes s (l.take i)).come s p := by
  have hi := (List.getElem?_eq_some_iff.1 hp).1
  have he := (List.getElem?_eq_some_iff.1 hp).2
  rw [List.take_succ_eq_append_getElem hi, comes_snoc, he]
theorem PairB.comes (s : Bool) : ∀ (l : List PacketD) {st : PairD} {N : Nat}, PairB st N → PairB (st.comes s l) (N + l.length)
  | [], st, N, h => h
  | p :: l, st, N, h => by
    have := PairB.comes s l (h.come s p)
    have e : N + (p :: l).length = N + 1 + l.length := by simp only [List.length_cons]; omega
    rw [e]; exact this

/-- The numbers at the end: N of the sides, V of the ways. -/
structure PairE (st : PairD) (N : Nat) (V : Bool → Nat) : Prop where
  ok : ∀ s, (st.d s).ok (100 + N)
  few : ∀ s, (st.d s).early.length ≤ N
  way : ∀ s, (st.way s).length ≤ V s
theorem PairE.mono {st : PairD} {N M : Nat} {V : Bool → Nat} (h : PairE st N V) (hm : N ≤ M) : PairE st M V :=
  ⟨fun s => (h.ok s).mono (by omega), fun s => Nat.le_trans (h.few s) hm, h.way⟩
theorem PairE.come {st : PairD} {N : Nat} {V : Bool → Nat} (h : PairE st N V) (s : Bool) (p : PacketD) : PairE (st.come s p) (N + 1) (upd V (!s) (V (!s) + 1)) := by
  have hF := recvF (st.d s) p
  have h1 := hF.few
  have h2 := hF.ans1
  have h3 := h.few s
  have h4 := h.way (!s)
  refine ⟨bool_cases s ?_ ?_, bool_cases s ?_ ?_, bool_cases s ?_ ?_⟩
  · simp only [PairD.come, upd_self]
    exact (LinkD.ok_receive (h.ok s) (by omega)).mono (by omega)
  · simp only [PairD.come, upd_other]
    exact (h.ok (!s)).mono (by omega)
  · simp only [PairD.come, upd_self]; omega
  · simp only [PairD.come, upd_other]
    exact Nat.le_succ_of_le (h.few (!s))
  · simp only [PairD.come, upd_other']
    exact h.way s
  · simp only [PairD.come, upd_self, List.length_append]; omega
theorem PairE.comes (s : Bool) : ∀ (l : List PacketD) {st : PairD} {N : Nat} {V : Bool → Nat}, PairE st N V → PairE (st.comes s l) (N + l.length) (upd V (!s) (V (!s) + l.length))
  | [], st, N, V, h => by
    have e : upd V (!s) (V (!s) + ([] : List PacketD).length) = V := by funext t; cases s <;> cases t <;> rfl
    rw [e]; exact h
  | p :: l, st, N, V, h => by
    have := PairE.comes s l (h.come s p)
    have e : N + (p :: l).length = N + 1 + l.length := by simp only [List.length_cons]; omega
    have e2 : upd V (!s) (V (!s) + (p :: l).length) = upd (upd V (!s) (V (!s) + 1)) (!s) (upd V (!s) (V (!s) + 1) (!s) + l.length) := by
      funext t; cases s <;> cases t <;> simp [upd] <;> omega
    rw [e, e2]; exact this

section
variable {Q : Bool → K} {X2 X3 X4 X5 : Int → K} {b : Nat} {l : Bool → Nat} {s : Bool} {turn : Int}

/-- What is under way to a side comes, and is done. -/
theorem ord_b6 {st : PairD} {N : Nat} {V : Bool → Nat} (hI : PairI st) (hE : PairE st N V) (hN : N ≤ 30000) (hV : ∀ t, V t ≤ 10000) {W S G : Bool → Sl}
    (h : Holds B (blk b (.cells (pcells l W S G) ty_argosylaw19_pair (0, 0)) :: LinkR (l s) (st.d s) :: LinkR (l (!s)) (st.d (!s)) :: PkR (W s) (st.way s) :: PkR (W (!s)) (st.way (!s)) ::
      BsR (S s) (st.sent s) :: BsR (S (!s)) (st.sent (!s)) :: BsR (G s) (st.got s) :: BsR (G (!s)) (st.got (!s)) :: Γ) w)
    (hX : ∀ w, Holds B (PairR b l ((st.comes s (st.way s)).ways s []) :: Γ) w → X4 (sI s + 1) w) :
    LoopK (α := Int) (fun X x => law19_LinkOrders.b6 Q X2 X3 X4 X5 X ⟨b, 0, none⟩ turn (sI s) (W s) ((W s).n : Int) x) 0 w := by
  have hwn := PkR.len (h.pick 3 at3)
  have hway := hE.way s
  have hVs := hV s
  replace h := h.pick 3 at3
  try simp only [List.set_cons_zero, List.set_cons_succ, List.eraseIdx_zero, List.eraseIdx_cons_zero, List.eraseIdx_cons_succ, List.setIfInBounds_toArray, List.tail_cons] at h
  obtain ⟨ls, hls, h⟩ := PkR.opens h
  have hln : ls.length = (st.way s).length := by rw [← hls]; simp
  have h3 : Holds B (Sep.stars [SlC ty_api_Packet 5 (W s) (ls.flatMap pkF), stars (ls.map pkB)] :: _) w := Holds.flat.2 h
  clear h
  have h := h3
  clear h3
  generalize hA : Sep.stars [SlC ty_api_Packet 5 (W s) (ls.flatMap pkF), stars (ls.map pkB)] = A at h
  have hA1 : ∀ Δ w, Holds B (A :: Δ) w → Holds B (SlC ty_api_Packet 5 (W s) (ls.flatMap pkF) :: stars (ls.map pkB) :: Δ) w := fun Δ w h => by rw [← hA] at h; exact Holds.flat.1 h
  replace h := h.pick 8 at8
  try simp only [List.set_cons_zero, List.set_cons_succ, List.eraseIdx_zero, List.eraseIdx_cons_zero, List.eraseIdx_cons_succ, List.setIfInBounds_toArray, List.tail_cons] at h
  replace h := h.pick 8 at8
  try simp only [List.set_cons_zero, List.set_cons_succ, List.eraseIdx_zero, List.eraseIdx_cons_zero, List.eraseIdx_cons_succ, List.setIfInBounds_toArray, List.tail_cons] at h
  replace h := h.pick 8 at8
  try simp only [List.set_cons_zero, List.set_cons_succ, List.eraseIdx_zero, List.eraseIdx_cons_zero, List.eraseIdx_cons_succ, List.setIfInBounds_toArray, List.tail_cons] at h
  replace h := h.pick 8 at8
  try simp only [List.set_cons_zero, List.set_cons_succ, List.eraseIdx_zero, List.eraseIdx_cons_zero, List.eraseIdx_cons_succ, List.setIfInBounds_toArray, List.tail_cons] at h
  replace h := h.pick 8 at8
  try simp only [List.set_cons_zero, List.set_cons_succ, List.eraseIdx_zero, List.eraseIdx_cons_zero, List.eraseIdx_cons_succ, List.setIfInBounds_toArray, List.tail_cons] at h
  replace h := h.pick 5 at5
  try simp only [List.set_cons_zero, List.set_cons_succ, List.eraseIdx_zero, List.eraseIdx_cons_zero, List.eraseIdx_cons_succ, List.setIfInBounds_toArray, List.tail_cons] at h
  replace h := h.pick 8 at8
  try simp only [List.set_cons_zero, List.set_cons_succ, List.eraseIdx_zero, List.eraseIdx_cons_zero, List.eraseIdx_cons_succ, List.setIfInBounds_toArray, List.tail_cons] at h
  replace h := h.pick 8 at8
  try simp only [List.set_cons_zero, List.set_cons_succ, List.eraseIdx_zero, List.eraseIdx_cons_zero, List.eraseIdx_cons_succ, List.setIfInBounds_toArray, List.tail_cons] at h
  replace h := h.pick 8 at8
  try simp only [List.set_cons_zero, List.set_cons_succ, List.eraseIdx_zero, List.eraseIdx_cons_zero, List.eraseIdx_cons_succ, List.setIfInBounds_toArray, List.tail_cons] at h
  have hallin : ∀ p ∈ st.way s, PkIn (st.sent (!s)) (epS (!s)) (epS s) (st.d (!s)).ex p := hI.way s
  refine LoopK.of (fun t w => ∃ (i : Nat) (W' S' G' : Bool → Sl), t = (i : Int) ∧ i ≤ ls.length ∧ W' s = W s ∧
      Holds B (blk b (.cells (pcells l W' S' G') ty_argosylaw19_pair (0, 0)) :: LinkR (l s) ((st.comes s ((st.way s).take i)).d s) :: LinkR (l (!s)) ((st.comes s ((st.way s).take i)).d (!s)) :: A :: PkR (W' (!s)) ((st.comes s ((st.way s).take i)).way (!s)) ::
        BsR (S' s) ((st.comes s ((st.way s).take i)).sent s) :: BsR (S' (!s)) ((st.comes s ((st.way s).take i)).sent (!s)) :: BsR (G' s) ((st.comes s ((st.way s).take i)).got s) :: BsR (G' (!s)) ((st.comes s ((st.way s).take i)).got (!s)) :: Γ) w)
    (fun t _ => (((W s).n : Int) - t).toNat) ⟨0, W, S, G, rfl, by omega, rfl, h⟩ ?_
  clear h
  rintro t w ⟨i, W', S', G', rfl, hi, hW, h⟩
  have hc := comesI hI s _ ((st.way s).take i) rfl (fun p hp => hallin p (List.mem_of_mem_take hp))
  have hEc := PairE.comes s ((st.way s).take i) hE
  have hlt : ((st.way s).take i).length ≤ 10000 := by rw [List.length_take]; omega
  unfold law19_LinkOrders.b6
  refine r_ite (fun hb => ?_) (fun hb => ?_)
  · simp only [decide_eq_true_eq] at hb
    have hil : i < ls.length := by omega
    have hx : ls[i]? = some ls[i] := List.getElem?_eq_getElem hil
    generalize ls[i] = x at hx
    have hxw : (st.way s)[i]? = some x.1 := by rw [← hls, List.getElem?_map, hx]; rfl
    have hxi := hallin _ (List.mem_of_getElem? hxw)
    have h4 := hA1 _ _ (h.pick 3 at3)
    refine r_idxN pkF pkF_len (by decide) (h4.rdC List.mem_cons_self) hx (cs := pkV x.1 x.2) rfl fun t92 => ?_
    clear h4
    refine r_new h ?_
    clear h
    intro x11 w h
    try simp only [add_mk, Nat.zero_add, Nat.reduceAdd]
    first | refine r_stN 0 h rfl (by with_reducible exact at0) ?_ ?_ (fun _ _ => nofz _) ?_ ?_ | refine r_stN 1 h rfl (by with_reducible exact at1) ?_ ?_ (fun _ _ => nofz _) ?_ ?_ | refine r_stN 2 h rfl (by with_reducible exact at2) ?_ ?_ (fun _ _ => nofz _) ?_ ?_ | refine r_stN 3 h rfl (by with_reducible exact at3) ?_ ?_ (fun _ _ => nofz _) ?_ ?_ | refine r_stN 4 h rfl (by with_reducible exact at4) ?_ ?_ (fun _ _ => nofz _) ?_ ?_ | refine r_stN 5 h rfl (by with_reducible exact at5) ?_ ?_ (fun _ _ => nofz _) ?_ ?_ | refine r_stN 6 h rfl (by with_reducible exact at6) ?_ ?_ (fun _ _ => nofz _) ?_ ?_ | refine r_stN 7 h rfl (by with_reducible exact at7) ?_ ?_ (fun _ _ => nofz _) ?_ ?_
    · rfl
    · rfl
    · simp [flatV]
    clear h
    intro w h
    try simp only [List.set_cons_zero, List.set_cons_succ, List.eraseIdx_zero, List.eraseIdx_cons_zero, List.eraseIdx_cons_succ, List.setIfInBounds_toArray, List.tail_cons] at h
    refine r_ldN h rfl (by first | (with_reducible exact List.mem_cons_self) | (with_reducible exact List.mem_cons_of_mem _ (List.mem_cons_self)) | (with_reducible exact List.mem_cons_of_mem _ (List.mem_cons_of_mem _ (List.mem_cons_self))) | (with_reducible exact List.mem_cons_of_mem _ (List.mem_cons_of_mem _ (List.mem_cons_of_mem _ (List.mem_cons_self)))) | (with_reducible exact List.mem_cons_of_mem _ (List.mem_cons_of_mem _ (List.mem_cons_of_mem _ (List.mem_cons_of_mem _ (List.mem_cons_self))))) | (with_reducible exact List.mem_cons_of_mem _ (List.mem_cons_of_mem _ (List.mem_cons_of_mem _ (List.mem_cons_of_mem _ (List.mem_cons_of_mem _ (List.mem_cons_self)))))) | (with_reducible exact List.mem_cons_of_mem _ (List.mem_cons_of_mem _ (List.mem_cons_of_mem _ (List.mem_cons_of_mem _ (List.mem_cons_of_mem _ (List.mem_cons_of_mem _ (List.mem_cons_self))))))) | (with_reducible exact List.mem_cons_of_mem _ (List.mem_cons_of_mem _ (List.mem_cons_of_mem _ (List.mem_cons_of_mem _ (List.mem_cons_of_mem _ (List.mem_cons_of_mem _ (List.mem_cons_of_mem _ (List.mem_cons_self)))))))) | (with_reducible exact List.mem_cons_of_mem _ (List.mem_cons_of_mem _ (List.mem_cons_of_mem _ (List.mem_cons_of_mem _ (List.mem_cons_of_mem _ (List.mem_cons_of_mem _ (List.mem_cons_of_mem _ (List.mem_cons_of_mem _ (List.mem_cons_self))))))))) | (with_reducible exact List.mem_cons_of_mem _ (List.mem_cons_of_mem _ (List.mem_cons_of_mem _ (List.mem_cons_of_mem _ (List.mem_cons_of_mem _ (List.mem_cons_of_mem _ (List.mem_cons_of_mem _ (List.mem_cons_of_mem _ (List.mem_cons_of_mem _ (List.mem_cons_self)))))))))) | (with_reducible exact List.mem_cons_of_mem _ (List.mem_cons_of_mem _ (List.mem_cons_of_mem _ (List.mem_cons_of_mem _ (List.mem_cons_of_mem _ (List.mem_cons_of_mem _ (List.mem_cons_of_mem _ (List.mem_cons_of_mem _ (List.mem_cons_of_mem _ (List.mem_cons_of_mem _ (List.mem_cons_self))))))))))) | (with_reducible exact List.mem_cons_of_mem _ (List.mem_cons_of_mem _ (List.mem_cons_of_mem _ (List.mem_cons_of_mem _ (List.mem_cons_of_mem _ (List.mem_cons_of_mem _ (List.mem_cons_of_mem _ (List.mem_cons_of_mem _ (List.mem_cons_of_mem _ (List.mem_cons_of_mem _ (List.mem_cons_of_mem _ (List.mem_cons_self)))))))))))) | (with_reducible exact List.mem_cons_of_mem _ (List.mem_cons_of_mem _ (List.mem_cons_of_mem _ (List.mem_cons_of_mem _ (List.mem_cons_of_mem _ (List.mem_cons_of_mem _ (List.mem_cons_of_mem _ (List.mem_cons_of_mem _ (List.mem_cons_of_mem _ (List.mem_cons_of_mem _ (List.mem_cons_of_mem _ (List.mem_cons_of_mem _ (List.mem_cons_self)))))))))))))) ?_ ?_
    · rfl
    replace h := h.tail
    have hwl := hEc.way (!s)
    rw [upd_self] at hwl
    have hVn := hV (!s)
    have hok := hEc.ok s
    have hfw := hEc.few s
    refine come_core (st := st.comes s ((st.way s).take i)) hc.inv (by rw [hc.other, hc.sent]; exact hxi) (hok.mono (by omega)) (by omega) (by omega) h (fun w h => stars_rd (f := pkB) 1 (hA1 _ _ h) rfl (List.mem_of_getElem? hx) rfl) fun w' g' w h => ?_
    refine r_add64 (by omega) (by omega) ?_
    refine ⟨⟨i + 1, upd W' (!s) w', S', upd G' s g', by omega, by omega, by rw [upd_other']; exact hW, ?_⟩, by omega⟩
    rw [comes_take hxw]
    simp only [PairD.come, upd_self, upd_other, upd_other']
    exact h
  · simp only [decide_eq_false_iff_not] at hb
    have hti : (st.way s).take i = st.way s := List.take_of_length_le (by omega)
    rw [hti] at h hc
    try simp only [add_mk, Nat.zero_add, Nat.reduceAdd]
    refine r_idxP ?_
    refine r_st 0 h rfl rfl ?_ (nofz _) rfl fun w h => ?_
    · cases s <;> simp [pcells, sN]
    rw [pc_setW] at h
    try simp only [List.set_cons_zero, List.set_cons_succ, List.eraseIdx_zero, List.eraseIdx_cons_zero, List.eraseIdx_cons_succ, List.setIfInBounds_toArray, List.tail_cons] at h
    refine r_add64 (by cases s <;> decide) (by cases s <;> decide) ?_
    refine hX _ (PairR.shuts (W := upd W' s ⟨none, 0, 0⟩) (S := S') (G := G') s ?_)
    replace h := PkR.nil (h.del 3 at3)
    try simp only [List.set_cons_zero, List.set_cons_succ, List.eraseIdx_zero, List.eraseIdx_cons_zero, List.eraseIdx_cons_succ, List.setIfInBounds_toArray, List.tail_cons] at h
    replace h := h.pick 8 at8
    try simp only [List.set_cons_zero, List.set_cons_succ, List.eraseIdx_zero, List.eraseIdx_cons_zero, List.eraseIdx_cons_succ, List.setIfInBounds_toArray, List.tail_cons] at h
    replace h := h.pick 8 at8
    try simp only [List.set_cons_zero, List.set_cons_succ, List.eraseIdx_zero, List.eraseIdx_cons_zero, List.eraseIdx_cons_succ, List.setIfInBounds_toArray, List.tail_cons] at h
    replace h := h.pick 8 at8
    try simp only [List.set_cons_zero, List.set_cons_succ, List.eraseIdx_zero, List.eraseIdx_cons_zero, List.eraseIdx_cons_succ, List.setIfInBounds_toArray, List.tail_cons] at h
    replace h := h.pick 8 at8
    try simp only [List.set_cons_zero, List.set_cons_succ, List.eraseIdx_zero, List.eraseIdx_cons_zero, List.eraseIdx_cons_succ, List.setIfInBounds_toArray, List.tail_cons] at h
    replace h := h.pick 8 at8
    try simp only [List.set_cons_zero, List.set_cons_succ, List.eraseIdx_zero, List.eraseIdx_cons_zero, List.eraseIdx_cons_succ, List.setIfInBounds_toArray, List.tail_cons] at h
    replace h := h.pick 5 at5
    try simp only [List.set_cons_zero, List.set_cons_succ, List.eraseIdx_zero, List.eraseIdx_cons_zero, List.eraseIdx_cons_succ, List.setIfInBounds_toArray, List.tail_cons] at h
    replace h := h.pick 8 at8
    try simp only [List.set_cons_zero, List.set_cons_succ, List.eraseIdx_zero, List.eraseIdx_cons_zero, List.eraseIdx_cons_succ, List.setIfInBounds_toArray, List.tail_cons] at h
    replace h := h.pick 8 at8
    try simp only [List.set_cons_zero, List.set_cons_succ, List.eraseIdx_zero, List.eraseIdx_cons_zero, List.eraseIdx_cons_succ, List.setIfInBounds_toArray, List.tail_cons] at h
    replace h := h.pick 8 at8
    try simp only [List.set_cons_zero, List.set_cons_succ, List.eraseIdx_zero, List.eraseIdx_cons_zero, List.eraseIdx_cons_succ, List.setIfInBounds_toArray, List.tail_cons] at h
    simp only [PairD.ways, upd_self, upd_other]
    exact h

theorem packets_zip (d : LinkD) : d.packets.length ≤ d.out.length ∨ d.packets.length ≤ 1 := by
  unfold LinkD.packets
  split
  · exact .inr (by simp)
  · exact .inl (by simp)

theorem phaseE {st : PairD} {N : Nat} {V : Bool → Nat} (hI : PairI st) (hE : PairE st N V) (s : Bool) : PairE (st.phase s) (N + 16 + (V s + 16)) (fun t => if t = s then 0 else V (!s) + (V s + 16)) := by
  have h1 := PairE.comes (!s) (st.d s).packets hE
  have hpl := packets_len (hE.ok s)
  rw [Bool.not_not] at h1
  have h2 := PairE.comes s ((st.comes (!s) (st.d s).packets).way s) h1
  have hw := h1.way s
  rw [upd_self] at hw
  have hw2 := h2.way (!s)
  rw [upd_self, upd_other] at hw2
  refine ⟨fun t => (h2.ok t).mono (by omega), fun t => Nat.le_trans (h2.few t) (by omega), bool_cases s ?_ ?_⟩
  · simp only [PairD.phase, PairD.ways, upd_self, List.length_nil]; omega
  · simp only [PairD.phase, PairD.ways, upd_other]
    rw [if_neg (by cases s <;> simp)]
    omega

/-- What a side sends now comes to the other one; then what is under way to it. -/
theorem ord_b5 {Q : Bool → K} {X2 X3 X4 : Int → K} {b : Nat} {l : Bool → Nat} {s : Bool} {turn : Int} {st : PairD} {N : Nat} {V : Bool → Nat} (hI : PairI st) (hE : PairE st N V) (hN : N ≤ 20000) (hV : ∀ t, V t ≤ 5000) {p : Sl} {ls : List (PacketD × Sl)}
    (hls : ls.map Prod.fst = (st.d s).packets) (hpn : p.n = ls.length) (h : Holds B (PairR b l st :: SlC ty_api_Packet 5 p (ls.flatMap pkF) :: stars (ls.map pkB) :: Γ) w)
    (hX : ∀ w, Holds B (PairR b l (st.phase s) :: Γ) w → X4 (sI s + 1) w) :
    LoopK (α := Int) (fun X x => law19_LinkOrders.b5 Q X2 X3 X4 X ⟨b, 0, none⟩ turn (sI s) p (p.n : Int) x) 0 w := by
  have hpl := packets_len (hE.ok s)
  have hln : ls.length = (st.d s).packets.length := by rw [← hls]; simp
  have hin := hI.packets s
  refine LoopK.of (fun t w => ∃ i : Nat, t = (i : Int) ∧ i ≤ ls.length ∧ Holds B (PairR b l (st.comes (!s) ((st.d s).packets.take i)) :: SlC ty_api_Packet 5 p (ls.flatMap pkF) :: stars (ls.map pkB) :: Γ) w)
    (fun t _ => ((p.n : Int) - t).toNat) ⟨0, rfl, by omega, h⟩ ?_
  clear h
  rintro t w ⟨i, rfl, hi, h⟩
  have hc := comesI hI (!s) _ ((st.d s).packets.take i) rfl (fun q hq => by rw [Bool.not_not]; exact hin q (List.mem_of_mem_take hq))
  have hEc := PairE.comes (!s) ((st.d s).packets.take i) hE
  have hlt : ((st.d s).packets.take i).length ≤ 16 := by rw [List.length_take]; omega
  unfold law19_LinkOrders.b5
  refine r_ite (fun hb => ?_) (fun hb => ?_)
  · simp only [decide_eq_true_eq] at hb
    have hil : i < ls.length := by omega
    have hx : ls[i]? = some ls[i] := List.getElem?_eq_getElem hil
    generalize ls[i] = x at hx
    have hxw : (st.d s).packets[i]? = some x.1 := by rw [← hls, List.getElem?_map, hx]; rfl
    have hxi := hin _ (List.mem_of_getElem? hxw)
    refine r_idxN pkF pkF_len (by decide) (h.rdC (List.mem_cons_of_mem _ List.mem_cons_self)) hx (cs := pkV x.1 x.2) rfl fun t75 => ?_
    refine r_new h ?_
    clear h
    intro x9 w h
    try simp only [add_mk, Nat.zero_add, Nat.reduceAdd]
    first | refine r_stN 0 h rfl (by with_reducible exact at0) ?_ ?_ (fun _ _ => nofz _) ?_ ?_ | refine r_stN 1 h rfl (by with_reducible exact at1) ?_ ?_ (fun _ _ => nofz _) ?_ ?_ | refine r_stN 2 h rfl (by with_reducible exact at2) ?_ ?_ (fun _ _ => nofz _) ?_ ?_ | refine r_stN 3 h rfl (by with_reducible exact at3) ?_ ?_ (fun _ _ => nofz _) ?_ ?_ | refine r_stN 4 h rfl (by with_reducible exact at4) ?_ ?_ (fun _ _ => nofz _) ?_ ?_ | refine r_stN 5 h rfl (by with_reducible exact at5) ?_ ?_ (fun _ _ => nofz _) ?_ ?_ | refine r_stN 6 h rfl (by with_reducible exact at6) ?_ ?_ (fun _ _ => nofz _) ?_ ?_ | refine r_stN 7 h rfl (by with_reducible exact at7) ?_ ?_ (fun _ _ => nofz _) ?_ ?_
    · rfl
    · rfl
    · simp [flatV]
    clear h
    intro w h
    try simp only [List.set_cons_zero, List.set_cons_succ, List.eraseIdx_zero, List.eraseIdx_cons_zero, List.eraseIdx_cons_succ, List.setIfInBounds_toArray, List.tail_cons] at h
    refine r_ar (e' := sI (!s)) (by rw [sI_not]; exact wrap64 (by cases s <;> decide) (by cases s <;> decide)) ?_
    refine r_ldN h rfl (by first | (with_reducible exact List.mem_cons_self) | (with_reducible exact List.mem_cons_of_mem _ (List.mem_cons_self)) | (with_reducible exact List.mem_cons_of_mem _ (List.mem_cons_of_mem _ (List.mem_cons_self))) | (with_reducible exact List.mem_cons_of_mem _ (List.mem_cons_of_mem _ (List.mem_cons_of_mem _ (List.mem_cons_self)))) | (with_reducible exact List.mem_cons_of_mem _ (List.mem_cons_of_mem _ (List.mem_cons_of_mem _ (List.mem_cons_of_mem _ (List.mem_cons_self))))) | (with_reducible exact List.mem_cons_of_mem _ (List.mem_cons_of_mem _ (List.mem_cons_of_mem _ (List.mem_cons_of_mem _ (List.mem_cons_of_mem _ (List.mem_cons_self)))))) | (with_reducible exact List.mem_cons_of_mem _ (List.mem_cons_of_mem _ (List.mem_cons_of_mem _ (List.mem_cons_of_mem _ (List.mem_cons_of_mem _ (List.mem_cons_of_mem _ (List.mem_cons_self))))))) | (with_reducible exact List.mem_cons_of_mem _ (List.mem_cons_of_mem _ (List.mem_cons_of_mem _ (List.mem_cons_of_mem _ (List.mem_cons_of_mem _ (List.mem_cons_of_mem _ (List.mem_cons_of_mem _ (List.mem_cons_self)))))))) | (with_reducible exact List.mem_cons_of_mem _ (List.mem_cons_of_mem _ (List.mem_cons_of_mem _ (List.mem_cons_of_mem _ (List.mem_cons_of_mem _ (List.mem_cons_of_mem _ (List.mem_cons_of_mem _ (List.mem_cons_of_mem _ (List.mem_cons_self))))))))) | (with_reducible exact List.mem_cons_of_mem _ (List.mem_cons_of_mem _ (List.mem_cons_of_mem _ (List.mem_cons_of_mem _ (List.mem_cons_of_mem _ (List.mem_cons_of_mem _ (List.mem_cons_of_mem _ (List.mem_cons_of_mem _ (List.mem_cons_of_mem _ (List.mem_cons_self)))))))))) | (with_reducible exact List.mem_cons_of_mem _ (List.mem_cons_of_mem _ (List.mem_cons_of_mem _ (List.mem_cons_of_mem _ (List.mem_cons_of_mem _ (List.mem_cons_of_mem _ (List.mem_cons_of_mem _ (List.mem_cons_of_mem _ (List.mem_cons_of_mem _ (List.mem_cons_of_mem _ (List.mem_cons_self))))))))))) | (with_reducible exact List.mem_cons_of_mem _ (List.mem_cons_of_mem _ (List.mem_cons_of_mem _ (List.mem_cons_of_mem _ (List.mem_cons_of_mem _ (List.mem_cons_of_mem _ (List.mem_cons_of_mem _ (List.mem_cons_of_mem _ (List.mem_cons_of_mem _ (List.mem_cons_of_mem _ (List.mem_cons_of_mem _ (List.mem_cons_self)))))))))))) | (with_reducible exact List.mem_cons_of_mem _ (List.mem_cons_of_mem _ (List.mem_cons_of_mem _ (List.mem_cons_of_mem _ (List.mem_cons_of_mem _ (List.mem_cons_of_mem _ (List.mem_cons_of_mem _ (List.mem_cons_of_mem _ (List.mem_cons_of_mem _ (List.mem_cons_of_mem _ (List.mem_cons_of_mem _ (List.mem_cons_of_mem _ (List.mem_cons_self)))))))))))))) ?_ ?_
    · rfl
    replace h := h.tail
    have hwl := hEc.way s
    have hV1 := hV s
    have hup : upd V (!(!s)) (V (!(!s)) + ((st.d s).packets.take i).length) s = V s + ((st.d s).packets.take i).length := by rw [Bool.not_not, upd_self]
    rw [hup] at hwl
    have hok := hEc.ok (!s)
    have hfw := hEc.few (!s)
    refine come_spec (st := st.comes (!s) ((st.d s).packets.take i)) (s := !s) hc.inv (by rw [hc.other, hc.sent, Bool.not_not]; exact hxi) (hok.mono (by omega)) (by omega) (by rw [Bool.not_not]; omega) h (fun w h => stars_rd (f := pkB) 1 h rfl (List.mem_of_getElem? hx) rfl) fun w h => ?_
    refine r_add64 (by omega) (by omega) ?_
    refine ⟨⟨i + 1, by omega, by omega, ?_⟩, by omega⟩
    rw [comes_take hxw]
    exact h
  · simp only [decide_eq_false_iff_not] at hb
    have hti : (st.d s).packets.take i = (st.d s).packets := List.take_of_length_le (by omega)
    rw [hti] at h hc hEc
    obtain ⟨W, S, G, h⟩ := PairR.opens s h
    try simp only [add_mk, Nat.zero_add, Nat.reduceAdd]
    refine r_idxP ?_
    refine r_ld (x := W s) h rfl (by first | (with_reducible exact List.mem_cons_self) | (with_reducible exact List.mem_cons_of_mem _ (List.mem_cons_self)) | (with_reducible exact List.mem_cons_of_mem _ (List.mem_cons_of_mem _ (List.mem_cons_self))) | (with_reducible exact List.mem_cons_of_mem _ (List.mem_cons_of_mem _ (List.mem_cons_of_mem _ (List.mem_cons_self)))) | (with_reducible exact List.mem_cons_of_mem _ (List.mem_cons_of_mem _ (List.mem_cons_of_mem _ (List.mem_cons_of_mem _ (List.mem_cons_self))))) | (with_reducible exact List.mem_cons_of_mem _ (List.mem_cons_of_mem _ (List.mem_cons_of_mem _ (List.mem_cons_of_mem _ (List.mem_cons_of_mem _ (List.mem_cons_self)))))) | (with_reducible exact List.mem_cons_of_mem _ (List.mem_cons_of_mem _ (List.mem_cons_of_mem _ (List.mem_cons_of_mem _ (List.mem_cons_of_mem _ (List.mem_cons_of_mem _ (List.mem_cons_self))))))) | (with_reducible exact List.mem_cons_of_mem _ (List.mem_cons_of_mem _ (List.mem_cons_of_mem _ (List.mem_cons_of_mem _ (List.mem_cons_of_mem _ (List.mem_cons_of_mem _ (List.mem_cons_of_mem _ (List.mem_cons_self)))))))) | (with_reducible exact List.mem_cons_of_mem _ (List.mem_cons_of_mem _ (List.mem_cons_of_mem _ (List.mem_cons_of_mem _ (List.mem_cons_of_mem _ (List.mem_cons_of_mem _ (List.mem_cons_of_mem _ (List.mem_cons_of_mem _ (List.mem_cons_self))))))))) | (with_reducible exact List.mem_cons_of_mem _ (List.mem_cons_of_mem _ (List.mem_cons_of_mem _ (List.mem_cons_of_mem _ (List.mem_cons_of_mem _ (List.mem_cons_of_mem _ (List.mem_cons_of_mem _ (List.mem_cons_of_mem _ (List.mem_cons_of_mem _ (List.mem_cons_self)))))))))) | (with_reducible exact List.mem_cons_of_mem _ (List.mem_cons_of_mem _ (List.mem_cons_of_mem _ (List.mem_cons_of_mem _ (List.mem_cons_of_mem _ (List.mem_cons_of_mem _ (List.mem_cons_of_mem _ (List.mem_cons_of_mem _ (List.mem_cons_of_mem _ (List.mem_cons_of_mem _ (List.mem_cons_self))))))))))) | (with_reducible exact List.mem_cons_of_mem _ (List.mem_cons_of_mem _ (List.mem_cons_of_mem _ (List.mem_cons_of_mem _ (List.mem_cons_of_mem _ (List.mem_cons_of_mem _ (List.mem_cons_of_mem _ (List.mem_cons_of_mem _ (List.mem_cons_of_mem _ (List.mem_cons_of_mem _ (List.mem_cons_of_mem _ (List.mem_cons_self)))))))))))) | (with_reducible exact List.mem_cons_of_mem _ (List.mem_cons_of_mem _ (List.mem_cons_of_mem _ (List.mem_cons_of_mem _ (List.mem_cons_of_mem _ (List.mem_cons_of_mem _ (List.mem_cons_of_mem _ (List.mem_cons_of_mem _ (List.mem_cons_of_mem _ (List.mem_cons_of_mem _ (List.mem_cons_of_mem _ (List.mem_cons_of_mem _ (List.mem_cons_self)))))))))))))) (pc_W l W S G s) ?_
    refine ord_b6 (st := st.comes (!s) (st.d s).packets) hc.inv hEc (by omega) (fun t => ?_) h fun w h => hX w (h.del 1 at1 |>.del 1 at1)
    have := hV t
    have := hV s
    rw [Bool.not_not]
    unfold upd
    split
    · omega
    · omega
end
end
end Go.Proofs.Ytilejcnbacmdnaa
