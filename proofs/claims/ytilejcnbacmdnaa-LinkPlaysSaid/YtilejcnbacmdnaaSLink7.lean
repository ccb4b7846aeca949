/- LinkPlays: every call of any script on a side of a link answers as the document says. -/
import Derived.Test.YtilejcnbacmdnaaSLinkR3
namespace Go.Proofs.Ytilejcnbacmdnaa
open Go Go.Sep
set_option linter.unusedSimpArgs false
set_option linter.unusedVariables false
set_option maxRecDepth 100000
section
variable {B w : World} {Γ : List HProp}

theorem stars_map_imp {α : Type} {f g : α → HProp} (hfg : ∀ x h, f x h → g x h) : ∀ {l : List α} {h : Hp}, Sep.stars (l.map f) h → Sep.stars (l.map g) h
  | [], _, _ => trivial
  | x :: l, h, hs => stars_cons_imp (hfg x) (fun _ h => stars_map_imp hfg h) hs
theorem stars_back {α : Type} {f : α → HProp} {l : List α} (i : Nat) {x : α} (hx : l[i]? = some x) (h : Holds B (f x :: stars ((l.eraseIdx i).map f) :: Γ) w) : Holds B (stars (l.map f) :: Γ) w := by
  have h1 : Holds B (stars ((l.eraseIdx i).map f) :: f x :: Γ) w := h.swap
  have h2 : Holds B ((l.eraseIdx i).map f ++ f x :: Γ) w := Holds.flat.1 h1
  have h3 : Holds B (f x :: ((l.eraseIdx i).map f ++ Γ)) w := h2.perm List.perm_middle
  have hp : (l.map f).Perm (f x :: (l.eraseIdx i).map f) := by
    have := (perm_pick hx).map f
    simpa using this
  exact Holds.flat.2 (h3.perm (hp.append_right Γ).symm)

/-- Bytes of one's own, whatever they are. -/
def anyB (s : Sl) : HProp := ex fun vs => SlC ty_uint8 1 s vs
theorem anyB.opens {s : Sl} (h : Holds B (anyB s :: Γ) w) : ∃ vs, Holds B (SlC ty_uint8 1 s vs :: Γ) w := Holds.ex.1 h
theorem anyB.shuts {s : Sl} {vs : List Value} (h : Holds B (SlC ty_uint8 1 s vs :: Γ) w) : Holds B (anyB s :: Γ) w := Holds.ex.2 ⟨vs, h⟩

/-! ### the operations -/
structure OpL where
  kind : Int
  da : List UInt8
  p : PacketD
abbrev olA (o : OpL) (d pd : Sl) : Array Value := #[.int .i64 o.kind, d.val, .int .u64 o.p.ep, .int .u64 o.p.pe, .int .u64 o.p.sq, .int .u64 o.p.ak, pd.val]
def olF (x : OpL × Sl × Sl) : List Value := [.int .i64 x.1.kind, x.2.1.val, .int .u64 x.1.p.ep, .int .u64 x.1.p.pe, .int .u64 x.1.p.sq, .int .u64 x.1.p.ak, x.2.2.val]
theorem olF_len (x : OpL × Sl × Sl) : (olF x).length = 7 := rfl
structure OlOk (B : World) (x : OpL × Sl × Sl) : Prop where
  da : RdB B x.2.1 x.1.da
  pd : RdB B x.2.2 x.1.p.da
  s0 : 0 ≤ x.1.p.sq
  s1 : x.1.p.sq ≤ 18446744073709551615

theorem law19_great_spec {s : Sl} {L : List (OpL × Sl × Sl)} {k : Bool → K} (hs : RdC B s 7 (L.flatMap olF)) (hL : ∀ x ∈ L, OlOk B x) (h : Holds B Γ w)
    (hk : ∀ r w, (r = false → L.length ≤ 200 ∧ ∀ x ∈ L, x.1.da.length ≤ 500 ∧ x.1.p.da.length ≤ 500) → Holds B Γ w → k r w) : law19_great.call s k w := by
  have hsn : L.length = s.n := by have := hs.len; rw [flatMap_len olF 7 olF_len] at this; omega
  refine law19_great_ok _ _ _ ?_
  unfold law19_great
  refine r_ite (fun hb => hk _ _ (fun h => by cases h) h) (fun hb => ?_)
  simp only [decide_eq_false_iff_not] at hb
  refine LoopK.of (fun t w => ∃ j : Nat, t = (j : Int) ∧ j ≤ L.length ∧ (∀ x ∈ L.take j, x.1.da.length ≤ 500 ∧ x.1.p.da.length ≤ 500) ∧ Holds B Γ w) (fun t _ => ((s.n : Int) - t).toNat) ⟨0, rfl, by omega, by simp, h⟩ ?_
  clear h
  rintro t w ⟨j, rfl, hj, hP, h⟩
  unfold law19_great.b1 law19_great.s2
  refine r_ite (fun hb => ?_) (fun hb => ?_)
  · simp only [decide_eq_true_eq] at hb
    have hjl : j < L.length := by omega
    have hx : L[j]? = some L[j] := List.getElem?_eq_getElem hjl
    generalize hxe : L[j] = x at hx
    have hxo := hL x (List.mem_of_getElem? hx)
    have hd1 := hxo.da.len
    have hd2 := hxo.pd.len
    simp only [List.length_map, Nat.mul_one] at hd1 hd2
    refine r_idxN olF olF_len (by decide) (hs.old h) hx (cs := olA x.1 x.2.1 x.2.2) rfl fun t12 => ?_
    refine r_new h ?_
    clear h
    intro o4 w h
    try simp only [add_mk, Nat.zero_add, Nat.reduceAdd]
    first | refine r_stN 0 h rfl (by with_reducible exact at0) ?_ ?_ (fun _ _ => nofz _) ?_ ?_ | refine r_stN 1 h rfl (by with_reducible exact at1) ?_ ?_ (fun _ _ => nofz _) ?_ ?_ | refine r_stN 2 h rfl (by with_reducible exact at2) ?_ ?_ (fun _ _ => nofz _) ?_ ?_ | refine r_stN 3 h rfl (by with_reducible exact at3) ?_ ?_ (fun _ _ => nofz _) ?_ ?_ | refine r_stN 4 h rfl (by with_reducible exact at4) ?_ ?_ (fun _ _ => nofz _) ?_ ?_ | refine r_stN 5 h rfl (by with_reducible exact at5) ?_ ?_ (fun _ _ => nofz _) ?_ ?_ | refine r_stN 6 h rfl (by with_reducible exact at6) ?_ ?_ (fun _ _ => nofz _) ?_ ?_ | refine r_stN 7 h rfl (by with_reducible exact at7) ?_ ?_ (fun _ _ => nofz _) ?_ ?_
    · rfl
    · rfl
    · simp [flatV]
    clear h
    intro w h
    try simp only [List.set_cons_zero, List.set_cons_succ, List.eraseIdx_zero, List.eraseIdx_cons_zero, List.eraseIdx_cons_succ, List.setIfInBounds_toArray, List.tail_cons] at h
    try simp only [add_mk, Nat.zero_add, Nat.reduceAdd]
    refine r_ld (x := x.2.1) h rfl (by first | (with_reducible exact List.mem_cons_self) | (with_reducible exact List.mem_cons_of_mem _ (List.mem_cons_self)) | (with_reducible exact List.mem_cons_of_mem _ (List.mem_cons_of_mem _ (List.mem_cons_self))) | (with_reducible exact List.mem_cons_of_mem _ (List.mem_cons_of_mem _ (List.mem_cons_of_mem _ (List.mem_cons_self)))) | (with_reducible exact List.mem_cons_of_mem _ (List.mem_cons_of_mem _ (List.mem_cons_of_mem _ (List.mem_cons_of_mem _ (List.mem_cons_self))))) | (with_reducible exact List.mem_cons_of_mem _ (List.mem_cons_of_mem _ (List.mem_cons_of_mem _ (List.mem_cons_of_mem _ (List.mem_cons_of_mem _ (List.mem_cons_self)))))) | (with_reducible exact List.mem_cons_of_mem _ (List.mem_cons_of_mem _ (List.mem_cons_of_mem _ (List.mem_cons_of_mem _ (List.mem_cons_of_mem _ (List.mem_cons_of_mem _ (List.mem_cons_self))))))) | (with_reducible exact List.mem_cons_of_mem _ (List.mem_cons_of_mem _ (List.mem_cons_of_mem _ (List.mem_cons_of_mem _ (List.mem_cons_of_mem _ (List.mem_cons_of_mem _ (List.mem_cons_of_mem _ (List.mem_cons_self)))))))) | (with_reducible exact List.mem_cons_of_mem _ (List.mem_cons_of_mem _ (List.mem_cons_of_mem _ (List.mem_cons_of_mem _ (List.mem_cons_of_mem _ (List.mem_cons_of_mem _ (List.mem_cons_of_mem _ (List.mem_cons_of_mem _ (List.mem_cons_self)))))))))) ?_ ?_
    · exact rfl
    refine r_ite (fun hb5 => r_ite_t rfl (hk _ _ (fun h => by cases h) h.tail)) (fun hb5 => ?_)
    simp only [decide_eq_false_iff_not] at hb5
    refine r_ld (x := x.2.2) h rfl (by first | (with_reducible exact List.mem_cons_self) | (with_reducible exact List.mem_cons_of_mem _ (List.mem_cons_self)) | (with_reducible exact List.mem_cons_of_mem _ (List.mem_cons_of_mem _ (List.mem_cons_self))) | (with_reducible exact List.mem_cons_of_mem _ (List.mem_cons_of_mem _ (List.mem_cons_of_mem _ (List.mem_cons_self)))) | (with_reducible exact List.mem_cons_of_mem _ (List.mem_cons_of_mem _ (List.mem_cons_of_mem _ (List.mem_cons_of_mem _ (List.mem_cons_self))))) | (with_reducible exact List.mem_cons_of_mem _ (List.mem_cons_of_mem _ (List.mem_cons_of_mem _ (List.mem_cons_of_mem _ (List.mem_cons_of_mem _ (List.mem_cons_self)))))) | (with_reducible exact List.mem_cons_of_mem _ (List.mem_cons_of_mem _ (List.mem_cons_of_mem _ (List.mem_cons_of_mem _ (List.mem_cons_of_mem _ (List.mem_cons_of_mem _ (List.mem_cons_self))))))) | (with_reducible exact List.mem_cons_of_mem _ (List.mem_cons_of_mem _ (List.mem_cons_of_mem _ (List.mem_cons_of_mem _ (List.mem_cons_of_mem _ (List.mem_cons_of_mem _ (List.mem_cons_of_mem _ (List.mem_cons_self)))))))) | (with_reducible exact List.mem_cons_of_mem _ (List.mem_cons_of_mem _ (List.mem_cons_of_mem _ (List.mem_cons_of_mem _ (List.mem_cons_of_mem _ (List.mem_cons_of_mem _ (List.mem_cons_of_mem _ (List.mem_cons_of_mem _ (List.mem_cons_self)))))))))) ?_ ?_
    · exact rfl
    refine r_ite (fun hb6 => hk _ _ (fun h => by cases h) h.tail) (fun hb6 => ?_)
    simp only [decide_eq_false_iff_not] at hb6
    refine r_add64 (by omega) (by omega) ?_
    refine ⟨⟨j + 1, by omega, by omega, ?_, h.tail⟩, by omega⟩
    rw [List.take_succ_eq_append_getElem hjl, hxe]
    intro y hy
    rcases List.mem_append.1 hy with hy | hy
    · exact hP y hy
    · simp only [List.mem_singleton] at hy
      subst hy; exact ⟨by omega, by omega⟩
  · simp only [decide_eq_false_iff_not] at hb
    rw [List.take_of_length_le (by omega)] at hP
    exact hk _ _ (fun _ => ⟨by omega, hP⟩) h

/-! ### the check behind each call -/
def playL (B : World) (Γ : List HProp) (l m j : Nat) (w : World) : Prop :=
  ∃ d : LinkD, d.ok (100 + j) ∧ d.early.length ≤ j ∧ Holds B (LinkR l d :: RefR m d :: Γ) w

section
variable {Q : Bool → K} {X1 : Int → K} {l m j : Nat} {t30 : Sl} {t31 : Int}

theorem lplays_s3 {d : LinkD} {out : Sl} {ls : List (PacketD × Sl)} (hsz : ∀ y ∈ ls, y.1.da.length ≤ 1000000000) (hln : ls.length = out.n) (hls : ls.length ≤ 100000) (hj : j < 1000000)
    (h : Holds B (SlC ty_api_Packet 5 out (ls.flatMap pkF) :: stars (ls.map pkB) :: LinkR l d :: RefR m d :: Γ) w) (hX : ∀ w, Holds B (LinkR l d :: RefR m d :: Γ) w → X1 ((j : Int) + 1) w) :
    law19_LinkPlays.s3 Q X1 (some ⟨l, 0, none⟩) (some ⟨m, 0, none⟩) out t30 t31 j false w := by
  unfold law19_LinkPlays.s3
  refine r_ite_f rfl ?_
  have hyn : ∀ y ∈ ls, y.2.n ≤ 1000000000 := fun y hy => by
    have h1 := (stars_rd (f := pkB) 1 h rfl hy rfl).len
    have := hsz y hy
    simp only [List.length_map, Nat.mul_one] at h1
    omega
  have h0 : Holds B (stars (ls.map fun y => anyB y.2) :: SlC ty_api_Packet 5 out (ls.flatMap pkF) :: LinkR l d :: RefR m d :: Γ) w :=
    h.swap.imp fun g hg => stars_map_imp (fun x h hx => ⟨_, hx⟩) hg
  clear h
  refine LoopK.of (fun t w => ∃ i : Nat, t = (i : Int) ∧ i ≤ ls.length ∧ Holds B (stars (ls.map fun y => anyB y.2) :: SlC ty_api_Packet 5 out (ls.flatMap pkF) :: LinkR l d :: RefR m d :: Γ) w) (fun t _ => ((out.n : Int) - t).toNat) ⟨0, rfl, by omega, h0⟩ ?_
  clear h0
  rintro t w ⟨i, rfl, hi, h⟩
  unfold law19_LinkPlays.b4
  refine r_ite (fun hb => ?_) (fun hb => ?_)
  · simp only [decide_eq_true_eq] at hb
    have hil : i < ls.length := by omega
    have hy : ls[i]? = some ls[i] := List.getElem?_eq_getElem hil
    generalize ls[i] = y at hy
    have hrd := h.rdC (List.mem_cons_of_mem _ List.mem_cons_self)
    refine r_idxA pkF pkF_len (by decide) hrd hy fun t136 ht => ?_
    refine r_ldF (x := y.2) 4 (ht w hrd) (show 4 < 5 by decide) rfl ?_
    have h1 := stars_take (f := fun y : PacketD × Sl => anyB y.2) i hy h
    obtain ⟨vs, h2⟩ := anyB.opens h1
    clear h h1
    refine LoopK.of (fun t w => ∃ (c : Nat) (vs : List Value), t = (c : Int) ∧ c ≤ y.2.n ∧ y.2.n ≤ 2000000000 ∧ Holds B (SlC ty_uint8 1 y.2 vs :: stars ((ls.eraseIdx i).map fun y => anyB y.2) :: SlC ty_api_Packet 5 out (ls.flatMap pkF) :: LinkR l d :: RefR m d :: Γ) w)
      (fun t _ => ((y.2.n : Int) - t).toNat) ⟨0, vs, rfl, by omega, by have := hyn y (List.mem_of_getElem? hy); omega, h2⟩ ?_
    clear h2 vs
    rintro t w ⟨c, vs, rfl, hc, hyc, h⟩
    unfold law19_LinkPlays.b5
    refine r_ite (fun hb => ?_) (fun hb => ?_)
    · simp only [decide_eq_true_eq] at hb
      have hrd := h.rdC (List.mem_cons_of_mem _ (List.mem_cons_of_mem _ List.mem_cons_self))
      refine r_idxA pkF pkF_len (by decide) hrd hy fun t136 ht => ?_
      refine r_ldF (x := y.2) 4 (ht w hrd) (show 4 < 5 by decide) rfl ?_
      refine r_idxSt h (by omega) rfl fun w h => ?_
      refine r_add64 (by omega) (by omega) ?_
      exact ⟨⟨c + 1, _, by omega, by omega, hyc, h⟩, by omega⟩
    · refine r_add64 (by omega) (by omega) ?_
      exact ⟨⟨i + 1, by omega, by omega, stars_back (f := fun y : PacketD × Sl => anyB y.2) i hy (anyB.shuts h)⟩, by omega⟩
  · refine r_add64 (by omega) (by omega) ?_
    exact hX _ h.tail.tail

theorem packets_size {d : LinkD} {N : Int} (hok : d.ok N) : ∀ p ∈ d.packets, p.da.length ≤ 1000000000 := by
  intro p hp
  unfold LinkD.packets at hp
  split at hp
  · simp only [List.mem_singleton] at hp; subst hp; simp
  · obtain ⟨y, hy, rfl⟩ := List.mem_map.1 hp
    have : y.1 ∈ d.out := by
      have := List.mem_zipIdx' hy
      rw [this.2]; exact List.getElem_mem _
    exact hok.sz _ this
theorem packets_len {d : LinkD} {N : Int} (hok : d.ok N) : d.packets.length ≤ 16 := by
  have := hok.few
  unfold LinkD.packets
  split <;> simp; omega

theorem lplays_s2 (h : playL B Γ l m (j + 1) w) (hj : j < 10000) (hX : ∀ w, playL B Γ l m (j + 1) w → X1 ((j : Int) + 1) w) :
    law19_LinkPlays.s2 Q X1 (some ⟨l, 0, none⟩) (some ⟨m, 0, none⟩) t30 t31 j w := by
  obtain ⟨d, hok, hfew, h⟩ := h
  unfold law19_LinkPlays.s2
  refine link_Packets_spec (hok.mono (by omega)) h fun out w h => ?_
  have hol := PkR.len h
  have hpl := packets_len hok
  have hps := packets_size hok
  replace h := h.pick 2 at2
  try simp only [List.set_cons_zero, List.set_cons_succ, List.eraseIdx_zero, List.eraseIdx_cons_zero, List.eraseIdx_cons_succ, List.setIfInBounds_toArray, List.tail_cons] at h
  obtain ⟨so, sx, outs, es, h1, h2, h⟩ := RefR.opens h
  have hsn := h.tail.slCap.1
  have hod := congrArg List.length h1
  simp only [List.length_map, Nat.mul_one] at hsn hod
  refine r_dr h ?_
  clear h
  intro w h
  refine r_withS h ?_
  refine rlink_Packets_spec (hok.mono (by omega)) h1 h fun t107 ls w hls hly h => ?_
  refine r_sv h.tail ?_
  replace h := h.pick 7 at7
  try simp only [List.set_cons_zero, List.set_cons_succ, List.eraseIdx_zero, List.eraseIdx_cons_zero, List.eraseIdx_cons_succ, List.setIfInBounds_toArray, List.tail_cons] at h
  replace h := h.pick 6 at6
  try simp only [List.set_cons_zero, List.set_cons_succ, List.eraseIdx_zero, List.eraseIdx_cons_zero, List.eraseIdx_cons_succ, List.setIfInBounds_toArray, List.tail_cons] at h
  replace h := h.pick 6 at6
  try simp only [List.set_cons_zero, List.set_cons_succ, List.eraseIdx_zero, List.eraseIdx_cons_zero, List.eraseIdx_cons_succ, List.setIfInBounds_toArray, List.tail_cons] at h
  replace h := h.pick 6 at6
  try simp only [List.set_cons_zero, List.set_cons_succ, List.eraseIdx_zero, List.eraseIdx_cons_zero, List.eraseIdx_cons_succ, List.setIfInBounds_toArray, List.tail_cons] at h
  replace h := h.pick 6 at6
  try simp only [List.set_cons_zero, List.set_cons_succ, List.eraseIdx_zero, List.eraseIdx_cons_zero, List.eraseIdx_cons_succ, List.setIfInBounds_toArray, List.tail_cons] at h
  replace h := h.pick 6 at6
  try simp only [List.set_cons_zero, List.set_cons_succ, List.eraseIdx_zero, List.eraseIdx_cons_zero, List.eraseIdx_cons_succ, List.setIfInBounds_toArray, List.tail_cons] at h
  replace h := h.pick 6 at6
  try simp only [List.set_cons_zero, List.set_cons_succ, List.eraseIdx_zero, List.eraseIdx_cons_zero, List.eraseIdx_cons_succ, List.setIfInBounds_toArray, List.tail_cons] at h
  replace h := h.pick 7 at7
  try simp only [List.set_cons_zero, List.set_cons_succ, List.eraseIdx_zero, List.eraseIdx_cons_zero, List.eraseIdx_cons_succ, List.setIfInBounds_toArray, List.tail_cons] at h
  obtain ⟨la, hla, h⟩ := PkR.opens h
  refine SamePackets_spec (la := la) (lb := ls) (by have := congrArg List.length hla; simp at this; omega) h (fun w h => h.rdC List.mem_cons_self) (fun w h => h.rdC (List.mem_cons_of_mem _ (List.mem_cons_of_mem _ List.mem_cons_self)))
    (fun x hx w h => stars_rd (f := pkB) 1 h rfl hx rfl) (fun y hy w h => ?_) fun w h => ?_
  · rcases hly y hy with ⟨e1, e2⟩ | ⟨x, hx, e1, e2⟩
    · rw [e1, e2]; exact RdC.none'
    · rw [e1, e2]; exact stars_rd (f := bsB) 5 h rfl hx rfl
  rw [hla, hls, decide_eq_true rfl]
  replace h := PkR.shuts hla h
  replace h := h.pick 7 at7
  try simp only [List.set_cons_zero, List.set_cons_succ, List.eraseIdx_zero, List.eraseIdx_cons_zero, List.eraseIdx_cons_succ, List.setIfInBounds_toArray, List.tail_cons] at h
  replace h := h.pick 1 at1
  try simp only [List.set_cons_zero, List.set_cons_succ, List.eraseIdx_zero, List.eraseIdx_cons_zero, List.eraseIdx_cons_succ, List.setIfInBounds_toArray, List.tail_cons] at h
  replace h := h.pick 7 at7
  try simp only [List.set_cons_zero, List.set_cons_succ, List.eraseIdx_zero, List.eraseIdx_cons_zero, List.eraseIdx_cons_succ, List.setIfInBounds_toArray, List.tail_cons] at h
  replace h := h.pick 7 at7
  try simp only [List.set_cons_zero, List.set_cons_succ, List.eraseIdx_zero, List.eraseIdx_cons_zero, List.eraseIdx_cons_succ, List.setIfInBounds_toArray, List.tail_cons] at h
  replace h := h.pick 7 at7
  try simp only [List.set_cons_zero, List.set_cons_succ, List.eraseIdx_zero, List.eraseIdx_cons_zero, List.eraseIdx_cons_succ, List.setIfInBounds_toArray, List.tail_cons] at h
  replace h := h.pick 7 at7
  try simp only [List.set_cons_zero, List.set_cons_succ, List.eraseIdx_zero, List.eraseIdx_cons_zero, List.eraseIdx_cons_succ, List.setIfInBounds_toArray, List.tail_cons] at h
  replace h := h.pick 7 at7
  try simp only [List.set_cons_zero, List.set_cons_succ, List.eraseIdx_zero, List.eraseIdx_cons_zero, List.eraseIdx_cons_succ, List.setIfInBounds_toArray, List.tail_cons] at h
  replace h := h.del 7 at7
  try simp only [List.set_cons_zero, List.set_cons_succ, List.eraseIdx_zero, List.eraseIdx_cons_zero, List.eraseIdx_cons_succ, List.setIfInBounds_toArray, List.tail_cons] at h
  refine r_sv h ?_
  refine r_ite_f rfl ?_
  refine r_nn rfl ?_
  try simp only [add_mk, Nat.zero_add, Nat.reduceAdd]
  refine r_ldS (x := so) rfl (by first | (with_reducible exact List.mem_cons_self) | (with_reducible exact List.mem_cons_of_mem _ (List.mem_cons_self)) | (with_reducible exact List.mem_cons_of_mem _ (List.mem_cons_of_mem _ (List.mem_cons_self))) | (with_reducible exact List.mem_cons_of_mem _ (List.mem_cons_of_mem _ (List.mem_cons_of_mem _ (List.mem_cons_self)))) | (with_reducible exact List.mem_cons_of_mem _ (List.mem_cons_of_mem _ (List.mem_cons_of_mem _ (List.mem_cons_of_mem _ (List.mem_cons_self))))) | (with_reducible exact List.mem_cons_of_mem _ (List.mem_cons_of_mem _ (List.mem_cons_of_mem _ (List.mem_cons_of_mem _ (List.mem_cons_of_mem _ (List.mem_cons_self)))))) | (with_reducible exact List.mem_cons_of_mem _ (List.mem_cons_of_mem _ (List.mem_cons_of_mem _ (List.mem_cons_of_mem _ (List.mem_cons_of_mem _ (List.mem_cons_of_mem _ (List.mem_cons_self))))))) | (with_reducible exact List.mem_cons_of_mem _ (List.mem_cons_of_mem _ (List.mem_cons_of_mem _ (List.mem_cons_of_mem _ (List.mem_cons_of_mem _ (List.mem_cons_of_mem _ (List.mem_cons_of_mem _ (List.mem_cons_self)))))))) | (with_reducible exact List.mem_cons_of_mem _ (List.mem_cons_of_mem _ (List.mem_cons_of_mem _ (List.mem_cons_of_mem _ (List.mem_cons_of_mem _ (List.mem_cons_of_mem _ (List.mem_cons_of_mem _ (List.mem_cons_of_mem _ (List.mem_cons_self)))))))))) ?_ ?_
  · exact rfl
  refine link_Open_spec (h.pick 6 at6) fun w h => ?_
  try simp only [List.set_cons_zero, List.set_cons_succ, List.eraseIdx_zero, List.eraseIdx_cons_zero, List.eraseIdx_cons_succ, List.setIfInBounds_toArray, List.tail_cons] at h
  replace h := h.pick 6 at6
  try simp only [List.set_cons_zero, List.set_cons_succ, List.eraseIdx_zero, List.eraseIdx_cons_zero, List.eraseIdx_cons_succ, List.setIfInBounds_toArray, List.tail_cons] at h
  replace h := h.pick 6 at6
  try simp only [List.set_cons_zero, List.set_cons_succ, List.eraseIdx_zero, List.eraseIdx_cons_zero, List.eraseIdx_cons_succ, List.setIfInBounds_toArray, List.tail_cons] at h
  replace h := h.pick 6 at6
  try simp only [List.set_cons_zero, List.set_cons_succ, List.eraseIdx_zero, List.eraseIdx_cons_zero, List.eraseIdx_cons_succ, List.setIfInBounds_toArray, List.tail_cons] at h
  replace h := h.pick 6 at6
  try simp only [List.set_cons_zero, List.set_cons_succ, List.eraseIdx_zero, List.eraseIdx_cons_zero, List.eraseIdx_cons_succ, List.setIfInBounds_toArray, List.tail_cons] at h
  replace h := h.pick 6 at6
  try simp only [List.set_cons_zero, List.set_cons_succ, List.eraseIdx_zero, List.eraseIdx_cons_zero, List.eraseIdx_cons_succ, List.setIfInBounds_toArray, List.tail_cons] at h
  replace h := h.pick 6 at6
  try simp only [List.set_cons_zero, List.set_cons_succ, List.eraseIdx_zero, List.eraseIdx_cons_zero, List.eraseIdx_cons_succ, List.setIfInBounds_toArray, List.tail_cons] at h
  refine r_sv h ?_
  refine r_ite_f (by simp only [decide_eq_false_iff_not]; omega) ?_
  refine r_ldS (x := d.pe) rfl (by first | (with_reducible exact List.mem_cons_self) | (with_reducible exact List.mem_cons_of_mem _ (List.mem_cons_self)) | (with_reducible exact List.mem_cons_of_mem _ (List.mem_cons_of_mem _ (List.mem_cons_self))) | (with_reducible exact List.mem_cons_of_mem _ (List.mem_cons_of_mem _ (List.mem_cons_of_mem _ (List.mem_cons_self)))) | (with_reducible exact List.mem_cons_of_mem _ (List.mem_cons_of_mem _ (List.mem_cons_of_mem _ (List.mem_cons_of_mem _ (List.mem_cons_self))))) | (with_reducible exact List.mem_cons_of_mem _ (List.mem_cons_of_mem _ (List.mem_cons_of_mem _ (List.mem_cons_of_mem _ (List.mem_cons_of_mem _ (List.mem_cons_self)))))) | (with_reducible exact List.mem_cons_of_mem _ (List.mem_cons_of_mem _ (List.mem_cons_of_mem _ (List.mem_cons_of_mem _ (List.mem_cons_of_mem _ (List.mem_cons_of_mem _ (List.mem_cons_self))))))) | (with_reducible exact List.mem_cons_of_mem _ (List.mem_cons_of_mem _ (List.mem_cons_of_mem _ (List.mem_cons_of_mem _ (List.mem_cons_of_mem _ (List.mem_cons_of_mem _ (List.mem_cons_of_mem _ (List.mem_cons_self)))))))) | (with_reducible exact List.mem_cons_of_mem _ (List.mem_cons_of_mem _ (List.mem_cons_of_mem _ (List.mem_cons_of_mem _ (List.mem_cons_of_mem _ (List.mem_cons_of_mem _ (List.mem_cons_of_mem _ (List.mem_cons_of_mem _ (List.mem_cons_self)))))))))) ?_ ?_
  · exact rfl
  refine link_Peer_spec (h.pick 6 at6) fun w h => ?_
  try simp only [List.set_cons_zero, List.set_cons_succ, List.eraseIdx_zero, List.eraseIdx_cons_zero, List.eraseIdx_cons_succ, List.setIfInBounds_toArray, List.tail_cons] at h
  replace h := h.pick 6 at6
  try simp only [List.set_cons_zero, List.set_cons_succ, List.eraseIdx_zero, List.eraseIdx_cons_zero, List.eraseIdx_cons_succ, List.setIfInBounds_toArray, List.tail_cons] at h
  replace h := h.pick 6 at6
  try simp only [List.set_cons_zero, List.set_cons_succ, List.eraseIdx_zero, List.eraseIdx_cons_zero, List.eraseIdx_cons_succ, List.setIfInBounds_toArray, List.tail_cons] at h
  replace h := h.pick 6 at6
  try simp only [List.set_cons_zero, List.set_cons_succ, List.eraseIdx_zero, List.eraseIdx_cons_zero, List.eraseIdx_cons_succ, List.setIfInBounds_toArray, List.tail_cons] at h
  replace h := h.pick 6 at6
  try simp only [List.set_cons_zero, List.set_cons_succ, List.eraseIdx_zero, List.eraseIdx_cons_zero, List.eraseIdx_cons_succ, List.setIfInBounds_toArray, List.tail_cons] at h
  replace h := h.pick 6 at6
  try simp only [List.set_cons_zero, List.set_cons_succ, List.eraseIdx_zero, List.eraseIdx_cons_zero, List.eraseIdx_cons_succ, List.setIfInBounds_toArray, List.tail_cons] at h
  replace h := h.pick 6 at6
  try simp only [List.set_cons_zero, List.set_cons_succ, List.eraseIdx_zero, List.eraseIdx_cons_zero, List.eraseIdx_cons_succ, List.setIfInBounds_toArray, List.tail_cons] at h
  refine r_sv h ?_
  rw [show decide (d.pe ≠ d.pe) = false by simp]
  replace h := RefR.shuts h1 h2 h
  replace h := h.pick 2 at2
  try simp only [List.set_cons_zero, List.set_cons_succ, List.eraseIdx_zero, List.eraseIdx_cons_zero, List.eraseIdx_cons_succ, List.setIfInBounds_toArray, List.tail_cons] at h
  replace h := h.pick 2 at2
  try simp only [List.set_cons_zero, List.set_cons_succ, List.eraseIdx_zero, List.eraseIdx_cons_zero, List.eraseIdx_cons_succ, List.setIfInBounds_toArray, List.tail_cons] at h
  obtain ⟨la, hla, h⟩ := PkR.opens h
  have hlan : la.length = out.n := by have := congrArg List.length hla; simp at this; omega
  refine lplays_s3 (d := d) (fun y hy => hps _ (by rw [← hla]; exact List.mem_map_of_mem hy)) hlan (by omega) (by omega) h fun w h => hX w ⟨d, hok, hfew, h⟩

theorem drain_cnt : ∀ (n : Nat) (ex : Int) (e : List (Int × List UInt8)), (drain n ex e).2.2.length + (drain n ex e).2.1.length = e.length
  | 0, ex, e => by simp [drain]
  | n + 1, ex, e => by
    unfold drain
    cases hm : mget ex e with
    | none => simp
    | some x =>
      have := mdel_len hm
      have ih := drain_cnt n (ex + 1) (mdel ex e)
      simp only [List.length_cons]; omega
theorem came_len (d : LinkD) (p : PacketD) : (d.receive p).2.1.length ≤ d.early.length + 1 := by
  unfold LinkD.receive
  split
  · simp
  · simp only
    split
    · simp
    · split
      · simp
      · have h1 := drain_cnt (((d.meet p.ep).ack p.ak).keep p).early.length (((d.meet p.ep).ack p.ak).keep p).ex (((d.meet p.ep).ack p.ak).keep p).early
        obtain ⟨_, _, k3⟩ := keep_facts ((d.meet p.ep).ack p.ak) p
        have k4 : ((d.meet p.ep).ack p.ak).early.length ≤ d.early.length := by
          show (d.meet p.ep).early.length ≤ _
          unfold LinkD.meet; split
          · simp
          · exact Nat.le_refl _
        simp only [LinkD.drained]; omega

theorem SameBsR {a b : Sl} {l m : List (List UInt8)} {k : Bool → K} (hl : l.length ≤ 1000000000) (h : Holds B (BsR a l :: BsR b m :: Γ) w) (hk : ∀ w, Holds B (BsR a l :: BsR b m :: Γ) w → k (decide (l = m)) w) : ref19_SameData.call a b k w := by
  obtain ⟨la, hla, h⟩ := BsR.opens h
  replace h := h.pick 2 at2
  try simp only [List.set_cons_zero, List.set_cons_succ, List.eraseIdx_zero, List.eraseIdx_cons_zero, List.eraseIdx_cons_succ, List.setIfInBounds_toArray, List.tail_cons] at h
  obtain ⟨lb, hlb, h⟩ := BsR.opens h
  refine SameData_spec (la := la) (lb := lb) (by have := congrArg List.length hla; simp at this; omega) h (fun w h => h.rdC (List.mem_cons_of_mem _ (List.mem_cons_of_mem _ List.mem_cons_self))) (fun w h => h.rdC List.mem_cons_self)
    (fun x hx w h => stars_rd (f := bsB) 3 h rfl hx rfl) (fun x hx w h => stars_rd (f := bsB) 1 h rfl hx rfl) fun w h => ?_
  rw [hla, hlb]
  replace h := BsR.shuts hlb h
  replace h := h.pick 2 at2
  try simp only [List.set_cons_zero, List.set_cons_succ, List.eraseIdx_zero, List.eraseIdx_cons_zero, List.eraseIdx_cons_succ, List.setIfInBounds_toArray, List.tail_cons] at h
  replace h := h.pick 2 at2
  try simp only [List.set_cons_zero, List.set_cons_succ, List.eraseIdx_zero, List.eraseIdx_cons_zero, List.eraseIdx_cons_succ, List.setIfInBounds_toArray, List.tail_cons] at h
  exact hk _ (BsR.shuts hla h)

/-- Bytes that are written over. -/
theorem lplays_b6 {t43 : Sl} (hn : t43.n ≤ 1000000000) (h : Holds B (anyB t43 :: Γ) w) {k : K} (hk : ∀ w, Holds B (anyB t43 :: Γ) w → k w) :
    LoopK (α := Int) (fun X x => Ite (decide (x < (t43.n : Int))) (Idx t43 x 1 fun t59 => St t59 (.int .u8 238) <| Ar (IntKind.wrap .i64 (x + 1)) fun t60 => X t60) k) 0 w := by
  refine LoopK.of (fun t w => ∃ c : Nat, t = (c : Int) ∧ c ≤ t43.n ∧ Holds B (anyB t43 :: Γ) w) (fun t _ => ((t43.n : Int) - t).toNat) ⟨0, rfl, by omega, h⟩ ?_
  clear h
  rintro t w ⟨c, rfl, hc, h⟩
  refine r_ite (fun hb => ?_) (fun hb => hk _ h)
  simp only [decide_eq_true_eq] at hb
  obtain ⟨vs, h⟩ := anyB.opens h
  refine r_idxSt h (by omega) rfl fun w h => ?_
  refine r_add64 (by omega) (by omega) ?_
  exact ⟨⟨c + 1, by omega, by omega, anyB.shuts h⟩, by omega⟩

theorem law19_LinkPlays_spec {k : Bool → K} {ep : Int} {s : Sl} {L : List (OpL × Sl × Sl)} (hs : RdC B s 7 (L.flatMap olF)) (hL : ∀ x ∈ L, OlOk B x)
    (h : Holds B Γ w) (hk : ∀ w, Holds B Γ w → k true w) : law19_LinkPlays.call ep s k w := by
  have hsn : L.length = s.n := by have := hs.len; rw [flatMap_len olF 7 olF_len] at this; omega
  refine law19_LinkPlays_ok _ _ _ _ ?_
  unfold law19_LinkPlays
  refine law19_speaks_spec h fun w h => ?_
  refine r_ite_f rfl ?_
  refine law19_great_spec hs hL h fun r w hr h => ?_
  refine r_ite (fun _ => hk _ h) (fun hr0 => ?_)
  obtain ⟨hL2, hLd⟩ := hr hr0
  refine link_New_spec h fun l w h => ?_
  refine rlink_New_spec h fun m w h => ?_
  refine r_ite_f rfl ?_
  refine LoopK.of (fun t w => ∃ j : Nat, t = (j : Int) ∧ j ≤ L.length ∧ playL B Γ l m j w) (fun t _ => ((s.n : Int) - t).toNat) ⟨0, rfl, by omega, _, new_ok ep, by simp, h.swap⟩ ?_
  clear h
  rintro t w ⟨j, rfl, hj, d, hok, hfew, h⟩
  unfold law19_LinkPlays.b1
  refine r_ite (fun hb => ?_) (fun hb => hk _ h.tail.tail)
  simp only [decide_eq_true_eq] at hb
  have hjl : j < L.length := by omega
  have hx : L[j]? = some L[j] := List.getElem?_eq_getElem hjl
  generalize L[j] = x at hx
  obtain ⟨xd, xp, hs0, hs1⟩ := hL x (List.mem_of_getElem? hx)
  obtain ⟨hx5, hp5⟩ := hLd x (List.mem_of_getElem? hx)
  have hdn : x.1.da.length = x.2.1.n := by have := xd.len; simpa using this
  have hpn : x.1.p.da.length = x.2.2.n := by have := xp.len; simpa using this
  have hfl := hok.few
  have next : ∀ w, playL B Γ l m (j + 1) w → (∃ j' : Nat, ((j : Int) + 1) = (j' : Int) ∧ j' ≤ L.length ∧ playL B Γ l m j' w) ∧ ((s.n : Int) - ((j : Int) + 1)).toNat < ((s.n : Int) - (j : Int)).toNat := fun w hw => ⟨⟨j + 1, by omega, by omega, hw⟩, by omega⟩
  refine r_idxN olF olF_len (by decide) (hs.old h) hx (cs := olA x.1 x.2.1 x.2.2) rfl fun t34 => ?_
  refine r_new h ?_
  clear h
  intro o8 w h
  try simp only [add_mk, Nat.zero_add, Nat.reduceAdd]
  first | refine r_stN 0 h rfl (by with_reducible exact at0) ?_ ?_ (fun _ _ => nofz _) ?_ ?_ | refine r_stN 1 h rfl (by with_reducible exact at1) ?_ ?_ (fun _ _ => nofz _) ?_ ?_ | refine r_stN 2 h rfl (by with_reducible exact at2) ?_ ?_ (fun _ _ => nofz _) ?_ ?_ | refine r_stN 3 h rfl (by with_reducible exact at3) ?_ ?_ (fun _ _ => nofz _) ?_ ?_ | refine r_stN 4 h rfl (by with_reducible exact at4) ?_ ?_ (fun _ _ => nofz _) ?_ ?_ | refine r_stN 5 h rfl (by with_reducible exact at5) ?_ ?_ (fun _ _ => nofz _) ?_ ?_ | refine r_stN 6 h rfl (by with_reducible exact at6) ?_ ?_ (fun _ _ => nofz _) ?_ ?_ | refine r_stN 7 h rfl (by with_reducible exact at7) ?_ ?_ (fun _ _ => nofz _) ?_ ?_
  · rfl
  · rfl
  · simp [flatV]
  clear h
  intro w h
  try simp only [List.set_cons_zero, List.set_cons_succ, List.eraseIdx_zero, List.eraseIdx_cons_zero, List.eraseIdx_cons_succ, List.setIfInBounds_toArray, List.tail_cons] at h
  try simp only [add_mk, Nat.zero_add, Nat.reduceAdd]
  refine r_ld (x := x.1.kind) h rfl (by first | (with_reducible exact List.mem_cons_self) | (with_reducible exact List.mem_cons_of_mem _ (List.mem_cons_self)) | (with_reducible exact List.mem_cons_of_mem _ (List.mem_cons_of_mem _ (List.mem_cons_self))) | (with_reducible exact List.mem_cons_of_mem _ (List.mem_cons_of_mem _ (List.mem_cons_of_mem _ (List.mem_cons_self)))) | (with_reducible exact List.mem_cons_of_mem _ (List.mem_cons_of_mem _ (List.mem_cons_of_mem _ (List.mem_cons_of_mem _ (List.mem_cons_self))))) | (with_reducible exact List.mem_cons_of_mem _ (List.mem_cons_of_mem _ (List.mem_cons_of_mem _ (List.mem_cons_of_mem _ (List.mem_cons_of_mem _ (List.mem_cons_self)))))) | (with_reducible exact List.mem_cons_of_mem _ (List.mem_cons_of_mem _ (List.mem_cons_of_mem _ (List.mem_cons_of_mem _ (List.mem_cons_of_mem _ (List.mem_cons_of_mem _ (List.mem_cons_self))))))) | (with_reducible exact List.mem_cons_of_mem _ (List.mem_cons_of_mem _ (List.mem_cons_of_mem _ (List.mem_cons_of_mem _ (List.mem_cons_of_mem _ (List.mem_cons_of_mem _ (List.mem_cons_of_mem _ (List.mem_cons_self)))))))) | (with_reducible exact List.mem_cons_of_mem _ (List.mem_cons_of_mem _ (List.mem_cons_of_mem _ (List.mem_cons_of_mem _ (List.mem_cons_of_mem _ (List.mem_cons_of_mem _ (List.mem_cons_of_mem _ (List.mem_cons_of_mem _ (List.mem_cons_self)))))))))) ?_ ?_
  · exact rfl
  refine r_ar rfl ?_
  refine r_ite (fun _ => ?_) (fun _ => ?_)
  · refine r_new h ?_
    clear h
    intro t40 w h
    try simp only [add_mk, Nat.zero_add, Nat.reduceAdd]
    refine r_ld (x := x.2.1) h rfl (by first | (with_reducible exact List.mem_cons_self) | (with_reducible exact List.mem_cons_of_mem _ (List.mem_cons_self)) | (with_reducible exact List.mem_cons_of_mem _ (List.mem_cons_of_mem _ (List.mem_cons_self))) | (with_reducible exact List.mem_cons_of_mem _ (List.mem_cons_of_mem _ (List.mem_cons_of_mem _ (List.mem_cons_self)))) | (with_reducible exact List.mem_cons_of_mem _ (List.mem_cons_of_mem _ (List.mem_cons_of_mem _ (List.mem_cons_of_mem _ (List.mem_cons_self))))) | (with_reducible exact List.mem_cons_of_mem _ (List.mem_cons_of_mem _ (List.mem_cons_of_mem _ (List.mem_cons_of_mem _ (List.mem_cons_of_mem _ (List.mem_cons_self)))))) | (with_reducible exact List.mem_cons_of_mem _ (List.mem_cons_of_mem _ (List.mem_cons_of_mem _ (List.mem_cons_of_mem _ (List.mem_cons_of_mem _ (List.mem_cons_of_mem _ (List.mem_cons_self))))))) | (with_reducible exact List.mem_cons_of_mem _ (List.mem_cons_of_mem _ (List.mem_cons_of_mem _ (List.mem_cons_of_mem _ (List.mem_cons_of_mem _ (List.mem_cons_of_mem _ (List.mem_cons_of_mem _ (List.mem_cons_self)))))))) | (with_reducible exact List.mem_cons_of_mem _ (List.mem_cons_of_mem _ (List.mem_cons_of_mem _ (List.mem_cons_of_mem _ (List.mem_cons_of_mem _ (List.mem_cons_of_mem _ (List.mem_cons_of_mem _ (List.mem_cons_of_mem _ (List.mem_cons_self)))))))))) ?_ ?_
    · exact rfl
    refine r_append (vs := []) (h.imp (blk_SlC rfl rfl)) (by kernel_rfl) (by kernel_rfl) (by' := 1) (by kernel_rfl) zero_ty_uint8 rfl (xd.old h) (byteV_flat _) (by simp only; omega) (by decide) fun t43 w h ht43 _ => ?_
    simp only [List.nil_append] at h
    have h43 : t43.n = x.2.1.n := by simpa using ht43
    refine r_dr h ?_
    clear h
    intro w h
    have hS := h.del 2 at2
    simp only [List.eraseIdx_cons_succ, List.eraseIdx_cons_zero, List.eraseIdx_zero] at hS
    refine r_withS hS ?_
    refine r_ldS (x := x.2.1) rfl (by first | (with_reducible exact List.mem_cons_self) | (with_reducible exact List.mem_cons_of_mem _ (List.mem_cons_self)) | (with_reducible exact List.mem_cons_of_mem _ (List.mem_cons_of_mem _ (List.mem_cons_self))) | (with_reducible exact List.mem_cons_of_mem _ (List.mem_cons_of_mem _ (List.mem_cons_of_mem _ (List.mem_cons_self)))) | (with_reducible exact List.mem_cons_of_mem _ (List.mem_cons_of_mem _ (List.mem_cons_of_mem _ (List.mem_cons_of_mem _ (List.mem_cons_self))))) | (with_reducible exact List.mem_cons_of_mem _ (List.mem_cons_of_mem _ (List.mem_cons_of_mem _ (List.mem_cons_of_mem _ (List.mem_cons_of_mem _ (List.mem_cons_self)))))) | (with_reducible exact List.mem_cons_of_mem _ (List.mem_cons_of_mem _ (List.mem_cons_of_mem _ (List.mem_cons_of_mem _ (List.mem_cons_of_mem _ (List.mem_cons_of_mem _ (List.mem_cons_self))))))) | (with_reducible exact List.mem_cons_of_mem _ (List.mem_cons_of_mem _ (List.mem_cons_of_mem _ (List.mem_cons_of_mem _ (List.mem_cons_of_mem _ (List.mem_cons_of_mem _ (List.mem_cons_of_mem _ (List.mem_cons_self)))))))) | (with_reducible exact List.mem_cons_of_mem _ (List.mem_cons_of_mem _ (List.mem_cons_of_mem _ (List.mem_cons_of_mem _ (List.mem_cons_of_mem _ (List.mem_cons_of_mem _ (List.mem_cons_of_mem _ (List.mem_cons_of_mem _ (List.mem_cons_self)))))))))) ?_ ?_
    · exact rfl
    refine link_Send_spec (xs := x.1.da) (h.pick 2 at2) (fun w h => h.rdC (List.mem_cons_of_mem _ List.mem_cons_self)) (by omega) (fun hfull w h => ?_) (fun hroom w h => ?_)
    · refine r_sv h.tail ?_
      try simp only [List.set_cons_zero, List.set_cons_succ, List.eraseIdx_zero, List.eraseIdx_cons_zero, List.eraseIdx_cons_succ, List.setIfInBounds_toArray, List.tail_cons] at h
      refine rlink_Send_spec (xs := x.1.da) (by omega) (h.pick 3 at3) (fun w h => xd.old h) (by omega) (fun _ w h => ?_) (fun hr => absurd hr (by omega))
      refine r_ite_f rfl ?_
      try simp only [List.set_cons_zero, List.set_cons_succ, List.eraseIdx_zero, List.eraseIdx_cons_zero, List.eraseIdx_cons_succ, List.setIfInBounds_toArray, List.tail_cons] at h
      replace h := h.pick 1 at1
      try simp only [List.set_cons_zero, List.set_cons_succ, List.eraseIdx_zero, List.eraseIdx_cons_zero, List.eraseIdx_cons_succ, List.setIfInBounds_toArray, List.tail_cons] at h
      replace h := h.pick 1 at1
      try simp only [List.set_cons_zero, List.set_cons_succ, List.eraseIdx_zero, List.eraseIdx_cons_zero, List.eraseIdx_cons_succ, List.setIfInBounds_toArray, List.tail_cons] at h
      replace h := h.pick 2 at2
      try simp only [List.set_cons_zero, List.set_cons_succ, List.eraseIdx_zero, List.eraseIdx_cons_zero, List.eraseIdx_cons_succ, List.setIfInBounds_toArray, List.tail_cons] at h
      replace h := h.del 3 at3
      try simp only [List.set_cons_zero, List.set_cons_succ, List.eraseIdx_zero, List.eraseIdx_cons_zero, List.eraseIdx_cons_succ, List.setIfInBounds_toArray, List.tail_cons] at h
      unfold law19_LinkPlays.b6
      refine lplays_b6 (by omega) (anyB.shuts h) fun w h => ?_
      replace h := h.pick 1 at1
      try simp only [List.set_cons_zero, List.set_cons_succ, List.eraseIdx_zero, List.eraseIdx_cons_zero, List.eraseIdx_cons_succ, List.setIfInBounds_toArray, List.tail_cons] at h
      replace h := h.pick 2 at2
      try simp only [List.set_cons_zero, List.set_cons_succ, List.eraseIdx_zero, List.eraseIdx_cons_zero, List.eraseIdx_cons_succ, List.setIfInBounds_toArray, List.tail_cons] at h
      replace h := h.del 2 at2
      try simp only [List.set_cons_zero, List.set_cons_succ, List.eraseIdx_zero, List.eraseIdx_cons_zero, List.eraseIdx_cons_succ, List.setIfInBounds_toArray, List.tail_cons] at h
      exact lplays_s2 ⟨d, hok.mono (by omega), by omega, h⟩ (by omega) next
    · refine r_sv h.tail ?_
      try simp only [List.set_cons_zero, List.set_cons_succ, List.eraseIdx_zero, List.eraseIdx_cons_zero, List.eraseIdx_cons_succ, List.setIfInBounds_toArray, List.tail_cons] at h
      refine rlink_Send_spec (xs := x.1.da) (by omega) (h.pick 3 at3) (fun w h => xd.old h) (by omega) (fun hf => absurd hf (by omega)) (fun _ w h => ?_)
      refine r_ite_f rfl ?_
      try simp only [List.set_cons_zero, List.set_cons_succ, List.eraseIdx_zero, List.eraseIdx_cons_zero, List.eraseIdx_cons_succ, List.setIfInBounds_toArray, List.tail_cons] at h
      replace h := h.pick 1 at1
      try simp only [List.set_cons_zero, List.set_cons_succ, List.eraseIdx_zero, List.eraseIdx_cons_zero, List.eraseIdx_cons_succ, List.setIfInBounds_toArray, List.tail_cons] at h
      replace h := h.pick 1 at1
      try simp only [List.set_cons_zero, List.set_cons_succ, List.eraseIdx_zero, List.eraseIdx_cons_zero, List.eraseIdx_cons_succ, List.setIfInBounds_toArray, List.tail_cons] at h
      replace h := h.pick 2 at2
      try simp only [List.set_cons_zero, List.set_cons_succ, List.eraseIdx_zero, List.eraseIdx_cons_zero, List.eraseIdx_cons_succ, List.setIfInBounds_toArray, List.tail_cons] at h
      replace h := h.del 3 at3
      try simp only [List.set_cons_zero, List.set_cons_succ, List.eraseIdx_zero, List.eraseIdx_cons_zero, List.eraseIdx_cons_succ, List.setIfInBounds_toArray, List.tail_cons] at h
      unfold law19_LinkPlays.b6
      refine lplays_b6 (by omega) (anyB.shuts h) fun w h => ?_
      replace h := h.pick 1 at1
      try simp only [List.set_cons_zero, List.set_cons_succ, List.eraseIdx_zero, List.eraseIdx_cons_zero, List.eraseIdx_cons_succ, List.setIfInBounds_toArray, List.tail_cons] at h
      replace h := h.pick 2 at2
      try simp only [List.set_cons_zero, List.set_cons_succ, List.eraseIdx_zero, List.eraseIdx_cons_zero, List.eraseIdx_cons_succ, List.setIfInBounds_toArray, List.tail_cons] at h
      replace h := h.del 2 at2
      try simp only [List.set_cons_zero, List.set_cons_succ, List.eraseIdx_zero, List.eraseIdx_cons_zero, List.eraseIdx_cons_succ, List.setIfInBounds_toArray, List.tail_cons] at h
      have hbN := hok.baN
      have hxN := hok.exN
      refine lplays_s2 ⟨{ d with out := d.out ++ [x.1.da] }, ⟨hok.ba1, by simp only [List.length_append, List.length_singleton]; omega, hok.ex1, by simp only; omega, fun y hy => ?_, by simp only [List.length_append, List.length_singleton]; omega⟩, by simp only; omega, h⟩ (by omega) next
      rcases List.mem_append.1 hy with hy | hy
      · exact hok.sz y hy
      · simp only [List.mem_singleton] at hy; subst hy; omega
  · refine r_ldNm (pkV x.1.p x.2.2) h rfl (by first | (with_reducible exact List.mem_cons_self) | (with_reducible exact List.mem_cons_of_mem _ (List.mem_cons_self)) | (with_reducible exact List.mem_cons_of_mem _ (List.mem_cons_of_mem _ (List.mem_cons_self))) | (with_reducible exact List.mem_cons_of_mem _ (List.mem_cons_of_mem _ (List.mem_cons_of_mem _ (List.mem_cons_self)))) | (with_reducible exact List.mem_cons_of_mem _ (List.mem_cons_of_mem _ (List.mem_cons_of_mem _ (List.mem_cons_of_mem _ (List.mem_cons_self))))) | (with_reducible exact List.mem_cons_of_mem _ (List.mem_cons_of_mem _ (List.mem_cons_of_mem _ (List.mem_cons_of_mem _ (List.mem_cons_of_mem _ (List.mem_cons_self)))))) | (with_reducible exact List.mem_cons_of_mem _ (List.mem_cons_of_mem _ (List.mem_cons_of_mem _ (List.mem_cons_of_mem _ (List.mem_cons_of_mem _ (List.mem_cons_of_mem _ (List.mem_cons_self))))))) | (with_reducible exact List.mem_cons_of_mem _ (List.mem_cons_of_mem _ (List.mem_cons_of_mem _ (List.mem_cons_of_mem _ (List.mem_cons_of_mem _ (List.mem_cons_of_mem _ (List.mem_cons_of_mem _ (List.mem_cons_self)))))))) | (with_reducible exact List.mem_cons_of_mem _ (List.mem_cons_of_mem _ (List.mem_cons_of_mem _ (List.mem_cons_of_mem _ (List.mem_cons_of_mem _ (List.mem_cons_of_mem _ (List.mem_cons_of_mem _ (List.mem_cons_of_mem _ (List.mem_cons_self)))))))))) rfl (by
      intro i hi
      match i, hi with
      | 0, _ => rfl
      | 1, _ => rfl
      | 2, _ => rfl
      | 3, _ => rfl
      | 4, _ => rfl) ?_
    refine r_new h ?_
    clear h
    intro p11 w h
    try simp only [add_mk, Nat.zero_add, Nat.reduceAdd]
    first | refine r_stN 0 h rfl (by with_reducible exact at0) ?_ ?_ (fun _ _ => nofz _) ?_ ?_ | refine r_stN 1 h rfl (by with_reducible exact at1) ?_ ?_ (fun _ _ => nofz _) ?_ ?_ | refine r_stN 2 h rfl (by with_reducible exact at2) ?_ ?_ (fun _ _ => nofz _) ?_ ?_ | refine r_stN 3 h rfl (by with_reducible exact at3) ?_ ?_ (fun _ _ => nofz _) ?_ ?_ | refine r_stN 4 h rfl (by with_reducible exact at4) ?_ ?_ (fun _ _ => nofz _) ?_ ?_ | refine r_stN 5 h rfl (by with_reducible exact at5) ?_ ?_ (fun _ _ => nofz _) ?_ ?_ | refine r_stN 6 h rfl (by with_reducible exact at6) ?_ ?_ (fun _ _ => nofz _) ?_ ?_ | refine r_stN 7 h rfl (by with_reducible exact at7) ?_ ?_ (fun _ _ => nofz _) ?_ ?_
    · rfl
    · rfl
    · simp [flatV]
    clear h
    intro w h
    try simp only [List.set_cons_zero, List.set_cons_succ, List.eraseIdx_zero, List.eraseIdx_cons_zero, List.eraseIdx_cons_succ, List.setIfInBounds_toArray, List.tail_cons] at h
    refine r_new h ?_
    clear h
    intro t63 w h
    try simp only [add_mk, Nat.zero_add, Nat.reduceAdd]
    refine r_ld (x := x.2.2) h rfl (by first | (with_reducible exact List.mem_cons_self) | (with_reducible exact List.mem_cons_of_mem _ (List.mem_cons_self)) | (with_reducible exact List.mem_cons_of_mem _ (List.mem_cons_of_mem _ (List.mem_cons_self))) | (with_reducible exact List.mem_cons_of_mem _ (List.mem_cons_of_mem _ (List.mem_cons_of_mem _ (List.mem_cons_self)))) | (with_reducible exact List.mem_cons_of_mem _ (List.mem_cons_of_mem _ (List.mem_cons_of_mem _ (List.mem_cons_of_mem _ (List.mem_cons_self))))) | (with_reducible exact List.mem_cons_of_mem _ (List.mem_cons_of_mem _ (List.mem_cons_of_mem _ (List.mem_cons_of_mem _ (List.mem_cons_of_mem _ (List.mem_cons_self)))))) | (with_reducible exact List.mem_cons_of_mem _ (List.mem_cons_of_mem _ (List.mem_cons_of_mem _ (List.mem_cons_of_mem _ (List.mem_cons_of_mem _ (List.mem_cons_of_mem _ (List.mem_cons_self))))))) | (with_reducible exact List.mem_cons_of_mem _ (List.mem_cons_of_mem _ (List.mem_cons_of_mem _ (List.mem_cons_of_mem _ (List.mem_cons_of_mem _ (List.mem_cons_of_mem _ (List.mem_cons_of_mem _ (List.mem_cons_self)))))))) | (with_reducible exact List.mem_cons_of_mem _ (List.mem_cons_of_mem _ (List.mem_cons_of_mem _ (List.mem_cons_of_mem _ (List.mem_cons_of_mem _ (List.mem_cons_of_mem _ (List.mem_cons_of_mem _ (List.mem_cons_of_mem _ (List.mem_cons_self)))))))))) ?_ ?_
    · exact rfl
    refine r_append (vs := []) (h.imp (blk_SlC rfl rfl)) (by kernel_rfl) (by kernel_rfl) (by' := 1) (by kernel_rfl) zero_ty_uint8 rfl (xp.old h) (byteV_flat _) (by simp only; omega) (by decide) fun t67 w h ht67 _ => ?_
    simp only [List.nil_append] at h
    have h67 : t67.n = x.2.2.n := by simpa using ht67
    first | refine r_st 0 h rfl (by with_reducible exact at0) ?_ (nofz _) rfl ?_ | refine r_st 1 h rfl (by with_reducible exact at1) ?_ (nofz _) rfl ?_ | refine r_st 2 h rfl (by with_reducible exact at2) ?_ (nofz _) rfl ?_ | refine r_st 3 h rfl (by with_reducible exact at3) ?_ (nofz _) rfl ?_ | refine r_st 4 h rfl (by with_reducible exact at4) ?_ (nofz _) rfl ?_ | refine r_st 5 h rfl (by with_reducible exact at5) ?_ (nofz _) rfl ?_ | refine r_st 6 h rfl (by with_reducible exact at6) ?_ (nofz _) rfl ?_ | refine r_st 7 h rfl (by with_reducible exact at7) ?_ (nofz _) rfl ?_
    · first | exact Nat.lt_of_ble_eq_true rfl | (simp; done) | (simp; omega)
    clear h
    intro w h
    try simp only [List.set_cons_zero, List.set_cons_succ, List.eraseIdx_zero, List.eraseIdx_cons_zero, List.eraseIdx_cons_succ, List.setIfInBounds_toArray, List.tail_cons] at h
    refine r_ldN h rfl (by first | (with_reducible exact List.mem_cons_self) | (with_reducible exact List.mem_cons_of_mem _ (List.mem_cons_self)) | (with_reducible exact List.mem_cons_of_mem _ (List.mem_cons_of_mem _ (List.mem_cons_self))) | (with_reducible exact List.mem_cons_of_mem _ (List.mem_cons_of_mem _ (List.mem_cons_of_mem _ (List.mem_cons_self)))) | (with_reducible exact List.mem_cons_of_mem _ (List.mem_cons_of_mem _ (List.mem_cons_of_mem _ (List.mem_cons_of_mem _ (List.mem_cons_self))))) | (with_reducible exact List.mem_cons_of_mem _ (List.mem_cons_of_mem _ (List.mem_cons_of_mem _ (List.mem_cons_of_mem _ (List.mem_cons_of_mem _ (List.mem_cons_self)))))) | (with_reducible exact List.mem_cons_of_mem _ (List.mem_cons_of_mem _ (List.mem_cons_of_mem _ (List.mem_cons_of_mem _ (List.mem_cons_of_mem _ (List.mem_cons_of_mem _ (List.mem_cons_self))))))) | (with_reducible exact List.mem_cons_of_mem _ (List.mem_cons_of_mem _ (List.mem_cons_of_mem _ (List.mem_cons_of_mem _ (List.mem_cons_of_mem _ (List.mem_cons_of_mem _ (List.mem_cons_of_mem _ (List.mem_cons_self)))))))) | (with_reducible exact List.mem_cons_of_mem _ (List.mem_cons_of_mem _ (List.mem_cons_of_mem _ (List.mem_cons_of_mem _ (List.mem_cons_of_mem _ (List.mem_cons_of_mem _ (List.mem_cons_of_mem _ (List.mem_cons_of_mem _ (List.mem_cons_self)))))))))) ?_ ?_
    · rfl
    refine link_Receive_spec (p := x.1.p) (data := t67) (hok.mono (by omega)) (by omega) (by omega) hs0 hs1 (h.pick 3 at3) (fun w h => h.rdC List.mem_cons_self) fun c a w h => ?_
    try simp only [List.set_cons_zero, List.set_cons_succ, List.eraseIdx_zero, List.eraseIdx_cons_zero, List.eraseIdx_cons_succ, List.setIfInBounds_toArray, List.tail_cons] at h
    refine r_ldNm (pkV x.1.p x.2.2) h rfl (by first | (with_reducible exact List.mem_cons_self) | (with_reducible exact List.mem_cons_of_mem _ (List.mem_cons_self)) | (with_reducible exact List.mem_cons_of_mem _ (List.mem_cons_of_mem _ (List.mem_cons_self))) | (with_reducible exact List.mem_cons_of_mem _ (List.mem_cons_of_mem _ (List.mem_cons_of_mem _ (List.mem_cons_self)))) | (with_reducible exact List.mem_cons_of_mem _ (List.mem_cons_of_mem _ (List.mem_cons_of_mem _ (List.mem_cons_of_mem _ (List.mem_cons_self))))) | (with_reducible exact List.mem_cons_of_mem _ (List.mem_cons_of_mem _ (List.mem_cons_of_mem _ (List.mem_cons_of_mem _ (List.mem_cons_of_mem _ (List.mem_cons_self)))))) | (with_reducible exact List.mem_cons_of_mem _ (List.mem_cons_of_mem _ (List.mem_cons_of_mem _ (List.mem_cons_of_mem _ (List.mem_cons_of_mem _ (List.mem_cons_of_mem _ (List.mem_cons_self))))))) | (with_reducible exact List.mem_cons_of_mem _ (List.mem_cons_of_mem _ (List.mem_cons_of_mem _ (List.mem_cons_of_mem _ (List.mem_cons_of_mem _ (List.mem_cons_of_mem _ (List.mem_cons_of_mem _ (List.mem_cons_self)))))))) | (with_reducible exact List.mem_cons_of_mem _ (List.mem_cons_of_mem _ (List.mem_cons_of_mem _ (List.mem_cons_of_mem _ (List.mem_cons_of_mem _ (List.mem_cons_of_mem _ (List.mem_cons_of_mem _ (List.mem_cons_of_mem _ (List.mem_cons_self)))))))))) rfl (by
      intro i hi
      match i, hi with
      | 0, _ => rfl
      | 1, _ => rfl
      | 2, _ => rfl
      | 3, _ => rfl
      | 4, _ => rfl) ?_
    refine rlink_Receive_spec (p := x.1.p) (data := x.2.2) (hok.mono (by omega)) (by omega) (by omega) hs0 hs1 (h.pick 6 at6) (fun w h => xp.old h) fun c' a' w h => ?_
    try simp only [List.set_cons_zero, List.set_cons_succ, List.eraseIdx_zero, List.eraseIdx_cons_zero, List.eraseIdx_cons_succ, List.setIfInBounds_toArray, List.tail_cons] at h
    have hokr := LinkD.ok_receive (p := x.1.p) hok (by omega)
    have hF := recvF d x.1.p
    have hff := hF.few
    have ha1 := hF.ans1
    have hcl := came_len d x.1.p
    replace h := h.pick 7 at7
    try simp only [List.set_cons_zero, List.set_cons_succ, List.eraseIdx_zero, List.eraseIdx_cons_zero, List.eraseIdx_cons_succ, List.setIfInBounds_toArray, List.tail_cons] at h
    replace h := h.pick 7 at7
    try simp only [List.set_cons_zero, List.set_cons_succ, List.eraseIdx_zero, List.eraseIdx_cons_zero, List.eraseIdx_cons_succ, List.setIfInBounds_toArray, List.tail_cons] at h
    replace h := h.pick 4 at4
    try simp only [List.set_cons_zero, List.set_cons_succ, List.eraseIdx_zero, List.eraseIdx_cons_zero, List.eraseIdx_cons_succ, List.setIfInBounds_toArray, List.tail_cons] at h
    replace h := h.pick 7 at7
    try simp only [List.set_cons_zero, List.set_cons_succ, List.eraseIdx_zero, List.eraseIdx_cons_zero, List.eraseIdx_cons_succ, List.setIfInBounds_toArray, List.tail_cons] at h
    replace h := h.pick 5 at5
    try simp only [List.set_cons_zero, List.set_cons_succ, List.eraseIdx_zero, List.eraseIdx_cons_zero, List.eraseIdx_cons_succ, List.setIfInBounds_toArray, List.tail_cons] at h
    replace h := h.pick 7 at7
    try simp only [List.set_cons_zero, List.set_cons_succ, List.eraseIdx_zero, List.eraseIdx_cons_zero, List.eraseIdx_cons_succ, List.setIfInBounds_toArray, List.tail_cons] at h
    replace h := h.pick 6 at6
    try simp only [List.set_cons_zero, List.set_cons_succ, List.eraseIdx_zero, List.eraseIdx_cons_zero, List.eraseIdx_cons_succ, List.setIfInBounds_toArray, List.tail_cons] at h
    replace h := h.pick 7 at7
    try simp only [List.set_cons_zero, List.set_cons_succ, List.eraseIdx_zero, List.eraseIdx_cons_zero, List.eraseIdx_cons_succ, List.setIfInBounds_toArray, List.tail_cons] at h
    replace h := h.del 8 at8
    try simp only [List.set_cons_zero, List.set_cons_succ, List.eraseIdx_zero, List.eraseIdx_cons_zero, List.eraseIdx_cons_succ, List.setIfInBounds_toArray, List.tail_cons] at h
    refine SameBsR (by omega) h fun w h => ?_
    rw [decide_eq_true rfl]
    refine r_ite_f rfl ?_
    replace h := h.pick 7 at7
    try simp only [List.set_cons_zero, List.set_cons_succ, List.eraseIdx_zero, List.eraseIdx_cons_zero, List.eraseIdx_cons_succ, List.setIfInBounds_toArray, List.tail_cons] at h
    replace h := h.pick 7 at7
    try simp only [List.set_cons_zero, List.set_cons_succ, List.eraseIdx_zero, List.eraseIdx_cons_zero, List.eraseIdx_cons_succ, List.setIfInBounds_toArray, List.tail_cons] at h
    replace h := h.pick 7 at7
    try simp only [List.set_cons_zero, List.set_cons_succ, List.eraseIdx_zero, List.eraseIdx_cons_zero, List.eraseIdx_cons_succ, List.setIfInBounds_toArray, List.tail_cons] at h
    replace h := h.pick 7 at7
    try simp only [List.set_cons_zero, List.set_cons_succ, List.eraseIdx_zero, List.eraseIdx_cons_zero, List.eraseIdx_cons_succ, List.setIfInBounds_toArray, List.tail_cons] at h
    replace h := h.pick 7 at7
    try simp only [List.set_cons_zero, List.set_cons_succ, List.eraseIdx_zero, List.eraseIdx_cons_zero, List.eraseIdx_cons_succ, List.setIfInBounds_toArray, List.tail_cons] at h
    replace h := h.pick 7 at7
    try simp only [List.set_cons_zero, List.set_cons_succ, List.eraseIdx_zero, List.eraseIdx_cons_zero, List.eraseIdx_cons_succ, List.setIfInBounds_toArray, List.tail_cons] at h
    replace h := h.del 6 at6
    try simp only [List.set_cons_zero, List.set_cons_succ, List.eraseIdx_zero, List.eraseIdx_cons_zero, List.eraseIdx_cons_succ, List.setIfInBounds_toArray, List.tail_cons] at h
    replace h := h.del 6 at6
    try simp only [List.set_cons_zero, List.set_cons_succ, List.eraseIdx_zero, List.eraseIdx_cons_zero, List.eraseIdx_cons_succ, List.setIfInBounds_toArray, List.tail_cons] at h
    refine SamePkR (by omega) h fun w h => ?_
    rw [decide_eq_true rfl]
    unfold law19_LinkPlays.s7
    refine r_ite_f rfl ?_
    try simp only [add_mk, Nat.zero_add, Nat.reduceAdd]
    refine r_ld (x := t67) h rfl (by first | (with_reducible exact List.mem_cons_self) | (with_reducible exact List.mem_cons_of_mem _ (List.mem_cons_self)) | (with_reducible exact List.mem_cons_of_mem _ (List.mem_cons_of_mem _ (List.mem_cons_self))) | (with_reducible exact List.mem_cons_of_mem _ (List.mem_cons_of_mem _ (List.mem_cons_of_mem _ (List.mem_cons_self)))) | (with_reducible exact List.mem_cons_of_mem _ (List.mem_cons_of_mem _ (List.mem_cons_of_mem _ (List.mem_cons_of_mem _ (List.mem_cons_self))))) | (with_reducible exact List.mem_cons_of_mem _ (List.mem_cons_of_mem _ (List.mem_cons_of_mem _ (List.mem_cons_of_mem _ (List.mem_cons_of_mem _ (List.mem_cons_self)))))) | (with_reducible exact List.mem_cons_of_mem _ (List.mem_cons_of_mem _ (List.mem_cons_of_mem _ (List.mem_cons_of_mem _ (List.mem_cons_of_mem _ (List.mem_cons_of_mem _ (List.mem_cons_self))))))) | (with_reducible exact List.mem_cons_of_mem _ (List.mem_cons_of_mem _ (List.mem_cons_of_mem _ (List.mem_cons_of_mem _ (List.mem_cons_of_mem _ (List.mem_cons_of_mem _ (List.mem_cons_of_mem _ (List.mem_cons_self)))))))) | (with_reducible exact List.mem_cons_of_mem _ (List.mem_cons_of_mem _ (List.mem_cons_of_mem _ (List.mem_cons_of_mem _ (List.mem_cons_of_mem _ (List.mem_cons_of_mem _ (List.mem_cons_of_mem _ (List.mem_cons_of_mem _ (List.mem_cons_self)))))))))) ?_ ?_
    · exact rfl
    replace h := h.pick 3 at3
    try simp only [List.set_cons_zero, List.set_cons_succ, List.eraseIdx_zero, List.eraseIdx_cons_zero, List.eraseIdx_cons_succ, List.setIfInBounds_toArray, List.tail_cons] at h
    replace h := h.pick 3 at3
    try simp only [List.set_cons_zero, List.set_cons_succ, List.eraseIdx_zero, List.eraseIdx_cons_zero, List.eraseIdx_cons_succ, List.setIfInBounds_toArray, List.tail_cons] at h
    replace h := h.pick 5 at5
    try simp only [List.set_cons_zero, List.set_cons_succ, List.eraseIdx_zero, List.eraseIdx_cons_zero, List.eraseIdx_cons_succ, List.setIfInBounds_toArray, List.tail_cons] at h
    replace h := h.pick 5 at5
    try simp only [List.set_cons_zero, List.set_cons_succ, List.eraseIdx_zero, List.eraseIdx_cons_zero, List.eraseIdx_cons_succ, List.setIfInBounds_toArray, List.tail_cons] at h
    replace h := h.del 4 at4
    try simp only [List.set_cons_zero, List.set_cons_succ, List.eraseIdx_zero, List.eraseIdx_cons_zero, List.eraseIdx_cons_succ, List.setIfInBounds_toArray, List.tail_cons] at h
    replace h := h.del 4 at4
    try simp only [List.set_cons_zero, List.set_cons_succ, List.eraseIdx_zero, List.eraseIdx_cons_zero, List.eraseIdx_cons_succ, List.setIfInBounds_toArray, List.tail_cons] at h
    refine LoopK.of (fun t w => ∃ c : Nat, t = (c : Int) ∧ c ≤ t67.n ∧ Holds B (anyB t67 :: blk p11 (.cells (pkV x.1.p t67) 36 (0, 0)) :: LinkR l (d.receive x.1.p).1 :: RefR m (d.receive x.1.p).1 :: Γ) w) (fun t _ => ((t67.n : Int) - t).toNat) ⟨0, rfl, by omega, anyB.shuts h⟩ ?_
    clear h
    rintro t w ⟨c, rfl, hc, h⟩
    unfold law19_LinkPlays.b8
    try simp only [add_mk, Nat.zero_add, Nat.reduceAdd]
    refine r_ite (fun hb => ?_) (fun hb => ?_)
    · simp only [decide_eq_true_eq] at hb
      refine r_ld (x := t67) h rfl (by first | (with_reducible exact List.mem_cons_self) | (with_reducible exact List.mem_cons_of_mem _ (List.mem_cons_self)) | (with_reducible exact List.mem_cons_of_mem _ (List.mem_cons_of_mem _ (List.mem_cons_self))) | (with_reducible exact List.mem_cons_of_mem _ (List.mem_cons_of_mem _ (List.mem_cons_of_mem _ (List.mem_cons_self)))) | (with_reducible exact List.mem_cons_of_mem _ (List.mem_cons_of_mem _ (List.mem_cons_of_mem _ (List.mem_cons_of_mem _ (List.mem_cons_self))))) | (with_reducible exact List.mem_cons_of_mem _ (List.mem_cons_of_mem _ (List.mem_cons_of_mem _ (List.mem_cons_of_mem _ (List.mem_cons_of_mem _ (List.mem_cons_self)))))) | (with_reducible exact List.mem_cons_of_mem _ (List.mem_cons_of_mem _ (List.mem_cons_of_mem _ (List.mem_cons_of_mem _ (List.mem_cons_of_mem _ (List.mem_cons_of_mem _ (List.mem_cons_self))))))) | (with_reducible exact List.mem_cons_of_mem _ (List.mem_cons_of_mem _ (List.mem_cons_of_mem _ (List.mem_cons_of_mem _ (List.mem_cons_of_mem _ (List.mem_cons_of_mem _ (List.mem_cons_of_mem _ (List.mem_cons_self)))))))) | (with_reducible exact List.mem_cons_of_mem _ (List.mem_cons_of_mem _ (List.mem_cons_of_mem _ (List.mem_cons_of_mem _ (List.mem_cons_of_mem _ (List.mem_cons_of_mem _ (List.mem_cons_of_mem _ (List.mem_cons_of_mem _ (List.mem_cons_self)))))))))) ?_ ?_
      · exact rfl
      obtain ⟨vs, h⟩ := anyB.opens h
      refine r_idxSt h (by omega) rfl fun w h => ?_
      refine r_add64 (by omega) (by omega) ?_
      exact ⟨⟨c + 1, by omega, by omega, anyB.shuts h⟩, by omega⟩
    · replace h := h.pick 3 at3
      try simp only [List.set_cons_zero, List.set_cons_succ, List.eraseIdx_zero, List.eraseIdx_cons_zero, List.eraseIdx_cons_succ, List.setIfInBounds_toArray, List.tail_cons] at h
      replace h := h.pick 3 at3
      try simp only [List.set_cons_zero, List.set_cons_succ, List.eraseIdx_zero, List.eraseIdx_cons_zero, List.eraseIdx_cons_succ, List.setIfInBounds_toArray, List.tail_cons] at h
      replace h := h.del 2 at2
      try simp only [List.set_cons_zero, List.set_cons_succ, List.eraseIdx_zero, List.eraseIdx_cons_zero, List.eraseIdx_cons_succ, List.setIfInBounds_toArray, List.tail_cons] at h
      replace h := h.del 2 at2
      try simp only [List.set_cons_zero, List.set_cons_succ, List.eraseIdx_zero, List.eraseIdx_cons_zero, List.eraseIdx_cons_succ, List.setIfInBounds_toArray, List.tail_cons] at h
      exact lplays_s2 ⟨_, hokr.mono (by omega), by omega, h⟩ (by omega) next
end
end
end Go.Proofs.Ytilejcnbacmdnaa

namespace Go.Proofs.Ytilejcnbacmdnaa
open Go Go.Sep Go.RowKit
theorem rdy_opl {w : World} {cs : List Value} (hc : cs.length = 7) (y : Rdy w (.fld 0 1 (.int .i64) (.fld 1 1 (.sl (.int .u8) 1) (.fld 2 5 (.fld 0 1 (.int .u64) (.fld 1 1 (.int .u64) (.fld 2 1 (.int .u64) (.fld 3 1 (.int .u64) (.fld 4 1 (.sl (.int .u8) 1) .nil))))) .nil))) cs) :
    ∃ x : OpL × Sl × Sl, cs = olF x ∧ OlOk w x := by
  match cs, hc with
  | [a, b, c, d, e, f, g], _ =>
    obtain ⟨⟨x0, e0, _⟩, ⟨s0, e1, _, _, h3, h4⟩, ⟨⟨y0, f0, _⟩, ⟨y1, f1, _⟩, ⟨y2, f2, w2⟩, ⟨y3, f3, _⟩, ⟨s, f4, _, _, h1, h2⟩, _⟩, _⟩ := y
    cases e0; cases e1; cases f0; cases f1; cases f2; cases f3; cases f4
    obtain ⟨xs, _, g1⟩ := rd_bytes h1 h2
    obtain ⟨ys, _, g2⟩ := rd_bytes h3 h4
    simp [Lit.wf, IntKind.min, IntKind.max, IntKind.signed, IntKind.bits] at w2
    exact ⟨(⟨x0, ys, ⟨y0, y1, y2, y3, xs⟩⟩, s0, s), rfl, ⟨g2, g1, w2.1, by simp only; omega⟩⟩
theorem LinkPlays_walk (W : World) (x : Int) (_ : (Lit.int .u64 x).wf = true) (s : Sl) (y0 : Rdy W Sh_ty_s_argosylaw19_Op (Sl.val s).cells.toList) :
    Calls Try.prog 11 #[.int .u64 x, s.val] W (Ret fun v w' => v = .bool true ∧ Below W.heap.size W w') := by
  obtain ⟨h1, h2⟩ := rdy_sl y0
  obtain ⟨L, _, hL, hd⟩ := rd_list olF (fun x => OlOk W x) olF_len h1 h2 fun cs hc hr => rdy_opl hc hr
  exact law_call (law19_LinkPlays_spec hL hd (Holds.start W) fun w h => ⟨rfl, h⟩)
end Go.Proofs.Ytilejcnbacmdnaa
