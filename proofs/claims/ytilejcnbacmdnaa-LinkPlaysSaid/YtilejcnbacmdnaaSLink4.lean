/- LinkLives: a packet of an elder life, or for another life, brings nothing. -/
import Derived.Test.YtilejcnbacmdnaaSLink3
import Derived.Test.YtilejcnbacmdnaaIRLaw192
import Derived.Test.YtilejcnbacmdnaaShapes
namespace Go.Proofs.Ytilejcnbacmdnaa
open Go Go.Sep
set_option linter.unusedSimpArgs false
set_option linter.unusedVariables false
set_option maxRecDepth 100000

structure RecvF (d : LinkD) (p : PacketD) : Prop where
  came : (d.receive p).2.1 ≠ [] → d.pe ≤ p.ep ∧ p.pe = d.ep ∧ p.ep ≠ 0
  ans1 : (d.receive p).2.2.length ≤ 1
  ep : (d.receive p).1.ep = d.ep
  pe : (d.receive p).1.pe = max d.pe p.ep ∨ (p.ep = 0 ∧ (d.receive p).1.pe = d.pe)
  ans : ∀ a ∈ (d.receive p).2.2, a.ep = d.ep ∧ a.pe = (d.receive p).1.pe ∧ a.sq = 0 ∧ a.da = []
  few : (d.receive p).1.early.length ≤ d.early.length + 1

theorem meet_facts (d : LinkD) (e : Int) (h : ¬ (e = 0 ∨ e < d.pe)) : (d.meet e).ep = d.ep ∧ (d.meet e).pe = e ∧ (d.meet e).early.length ≤ d.early.length := by
  unfold LinkD.meet
  split
  · exact ⟨rfl, rfl, by simp⟩
  · exact ⟨rfl, by omega, Nat.le_refl _⟩
theorem keep_facts (d : LinkD) (p : PacketD) : (d.keep p).ep = d.ep ∧ (d.keep p).pe = d.pe ∧ (d.keep p).early.length ≤ d.early.length + 1 := by
  unfold LinkD.keep
  split
  · exact ⟨rfl, rfl, by simp⟩
  · exact ⟨rfl, rfl, by omega⟩
theorem drained_few (d : LinkD) : d.drained.1.early.length ≤ d.early.length := by
  obtain ⟨h1, h2⟩ := drain_len d.early.length d.ex d.early
  simp only [LinkD.drained]; omega
theorem recvF (d : LinkD) (p : PacketD) : RecvF d p := by
  by_cases h1 : p.ep = 0 ∨ p.ep < d.pe
  · have e : d.receive p = (d, [], []) := by unfold LinkD.receive; rw [if_pos h1]
    refine ⟨by rw [e]; simp, by rw [e]; simp, by rw [e], ?_, by rw [e]; simp, by rw [e]; simp only; omega⟩
    rw [e]
    rcases h1 with h1 | h1
    · exact .inr ⟨h1, rfl⟩
    · exact .inl (by simp only; omega)
  obtain ⟨m1, m2, m3⟩ := meet_facts d p.ep h1
  by_cases h2 : p.pe ≠ (d.meet p.ep).ep
  · have e : d.receive p = (d.meet p.ep, [], [(d.meet p.ep).helloP]) := by unfold LinkD.receive; rw [if_neg h1]; simp only; rw [if_pos h2]
    refine ⟨by rw [e]; simp, by rw [e]; simp, by rw [e]; exact m1, .inl (by rw [e]; simp only; omega), ?_, by rw [e]; simp only; omega⟩
    rw [e]
    intro a ha
    simp only [List.mem_singleton] at ha
    subst ha
    exact ⟨m1, rfl, rfl, rfl⟩
  by_cases h3 : p.sq = 0
  · have e : d.receive p = ((d.meet p.ep).ack p.ak, [], []) := by unfold LinkD.receive; rw [if_neg h1]; simp only; rw [if_neg h2, if_pos h3]
    exact ⟨by rw [e]; simp, by rw [e]; simp, by rw [e]; exact m1, .inl (by rw [e]; simp only [LinkD.ack]; omega), by rw [e]; simp, by rw [e]; simp only [LinkD.ack]; omega⟩
  have e : d.receive p = ((((d.meet p.ep).ack p.ak).keep p).drained.1, (((d.meet p.ep).ack p.ak).keep p).drained.2, [(((d.meet p.ep).ack p.ak).keep p).drained.1.helloP]) := by
    unfold LinkD.receive; rw [if_neg h1]; simp only; rw [if_neg h2, if_neg h3]
  obtain ⟨k1, k2, k3⟩ := keep_facts ((d.meet p.ep).ack p.ak) p
  have f := drained_few (((d.meet p.ep).ack p.ak).keep p)
  have e1 : (((d.meet p.ep).ack p.ak).keep p).drained.1.ep = d.ep := k1.trans m1
  have e2 : (((d.meet p.ep).ack p.ak).keep p).drained.1.pe = p.ep := k2.trans m2
  refine ⟨fun _ => ⟨by omega, by simpa [m1] using h2, by omega⟩, by rw [e]; simp, by rw [e]; exact e1, .inl (by rw [e]; simp only; omega), ?_, ?_⟩
  · rw [e]
    intro a ha
    simp only [List.mem_singleton] at ha
    subst ha
    exact ⟨e1, rfl, rfl, rfl⟩
  · rw [e]
    have : ((d.meet p.ep).ack p.ak).early = (d.meet p.ep).early := rfl
    rw [this] at k3
    simp only; omega

section
variable {B w : World} {Γ : List HProp}

/-- A packet of the arguments. -/
def PkOk (B : World) (x : PacketD × Sl) : Prop := RdB B x.2 x.1.da ∧ 0 ≤ x.1.ep ∧ 0 ≤ x.1.sq ∧ x.1.sq ≤ 18446744073709551615

theorem BsR.len {s : Sl} {l : List (List UInt8)} (h : Holds B (BsR s l :: Γ) w) : s.n = l.length := by
  obtain ⟨ls, hl, h⟩ := BsR.opens h
  have h1 := h.slCap.1
  have h2 := congrArg List.length hl
  simp at h1 h2; omega
theorem PkR.len {s : Sl} {l : List PacketD} (h : Holds B (PkR s l :: Γ) w) : s.n = l.length := by
  obtain ⟨ls, hl, h⟩ := PkR.opens h
  have h1 := h.slCap.1
  have h2 := congrArg List.length hl
  rw [flatMap_len pkF 5 pkF_len] at h1
  simp at h2; omega

theorem law19_LinkLives_spec {k : Bool → K} {ep : Int} {s : Sl} {L : List (PacketD × Sl)} (hs : RdC B s 5 (L.flatMap pkF)) (hL : ∀ x ∈ L, PkOk B x)
    (h : Holds B Γ w) (hk : ∀ w, Holds B Γ w → k true w) : law19_LinkLives.call ep s k w := by
  have hsn : L.length = s.n := by have := hs.len; rw [flatMap_len pkF 5 pkF_len] at this; omega
  refine law19_LinkLives_ok _ _ _ _ ?_
  unfold law19_LinkLives
  refine law19_speaks_spec h fun w h => ?_
  refine r_ite_f rfl ?_
  refine r_ite (fun hb => hk _ h) (fun hb => ?_)
  simp only [decide_eq_false_iff_not] at hb
  refine link_New_spec h fun b w h => ?_
  refine r_ite_f rfl ?_
  refine LoopK.of (α := Int × Int) (fun t w => ∃ (j : Nat) (d : LinkD), t.2 = (j : Int) ∧ j ≤ L.length ∧ t.1 = d.pe ∧ d.ep = ep ∧ 0 ≤ d.pe ∧ d.ok (100 + j) ∧ d.early.length ≤ j ∧ Holds B (LinkR b d :: Γ) w)
    (fun t _ => ((s.n : Int) - t.2).toNat) ⟨0, _, rfl, by omega, rfl, rfl, by simp, new_ok ep, by simp, h⟩ ?_
  clear h
  rintro ⟨peer, t⟩ w ⟨j, d, ht, hj, hpe, hep, hp0, hok, hfew, h⟩
  simp only at ht hpe
  subst ht; subst hpe
  unfold law19_LinkLives.b1
  refine r_ite (fun hb => ?_) (fun hb => hk _ h.tail)
  simp only [decide_eq_true_eq] at hb
  have hjl : j < L.length := by omega
  have hx : L[j]? = some L[j] := List.getElem?_eq_getElem hjl
  generalize L[j] = x at hx
  obtain ⟨hxd, hxe, hs0, hs1⟩ := hL x (List.mem_of_getElem? hx)
  have hxn : x.1.da.length = x.2.n := by have := hxd.len; simpa using this
  refine r_idxN pkF pkF_len (by decide) (hs.old h) hx (cs := pkV x.1 x.2) rfl fun t26 => ?_
  refine r_new h ?_
  clear h
  intro p8 w h
  try simp only [add_mk, Nat.zero_add, Nat.reduceAdd]
  first | refine r_stN 0 h rfl (by with_reducible exact at0) ?_ ?_ (fun _ _ => nofz _) ?_ ?_ | refine r_stN 1 h rfl (by with_reducible exact at1) ?_ ?_ (fun _ _ => nofz _) ?_ ?_ | refine r_stN 2 h rfl (by with_reducible exact at2) ?_ ?_ (fun _ _ => nofz _) ?_ ?_ | refine r_stN 3 h rfl (by with_reducible exact at3) ?_ ?_ (fun _ _ => nofz _) ?_ ?_ | refine r_stN 4 h rfl (by with_reducible exact at4) ?_ ?_ (fun _ _ => nofz _) ?_ ?_ | refine r_stN 5 h rfl (by with_reducible exact at5) ?_ ?_ (fun _ _ => nofz _) ?_ ?_ | refine r_stN 6 h rfl (by with_reducible exact at6) ?_ ?_ (fun _ _ => nofz _) ?_ ?_ | refine r_stN 7 h rfl (by with_reducible exact at7) ?_ ?_ (fun _ _ => nofz _) ?_ ?_
  · rfl
  · rfl
  · simp [flatV]
  clear h
  intro w h
  try simp only [List.set_cons_zero, List.set_cons_succ, List.eraseIdx_zero, List.eraseIdx_cons_zero, List.eraseIdx_cons_succ, List.setIfInBounds_toArray, List.tail_cons] at h
  refine r_ld (x := x.2) h rfl (by first | (with_reducible exact List.mem_cons_self) | (with_reducible exact List.mem_cons_of_mem _ (List.mem_cons_self)) | (with_reducible exact List.mem_cons_of_mem _ (List.mem_cons_of_mem _ (List.mem_cons_self))) | (with_reducible exact List.mem_cons_of_mem _ (List.mem_cons_of_mem _ (List.mem_cons_of_mem _ (List.mem_cons_self)))) | (with_reducible exact List.mem_cons_of_mem _ (List.mem_cons_of_mem _ (List.mem_cons_of_mem _ (List.mem_cons_of_mem _ (List.mem_cons_self))))) | (with_reducible exact List.mem_cons_of_mem _ (List.mem_cons_of_mem _ (List.mem_cons_of_mem _ (List.mem_cons_of_mem _ (List.mem_cons_of_mem _ (List.mem_cons_self)))))) | (with_reducible exact List.mem_cons_of_mem _ (List.mem_cons_of_mem _ (List.mem_cons_of_mem _ (List.mem_cons_of_mem _ (List.mem_cons_of_mem _ (List.mem_cons_of_mem _ (List.mem_cons_self))))))) | (with_reducible exact List.mem_cons_of_mem _ (List.mem_cons_of_mem _ (List.mem_cons_of_mem _ (List.mem_cons_of_mem _ (List.mem_cons_of_mem _ (List.mem_cons_of_mem _ (List.mem_cons_of_mem _ (List.mem_cons_self)))))))) | (with_reducible exact List.mem_cons_of_mem _ (List.mem_cons_of_mem _ (List.mem_cons_of_mem _ (List.mem_cons_of_mem _ (List.mem_cons_of_mem _ (List.mem_cons_of_mem _ (List.mem_cons_of_mem _ (List.mem_cons_of_mem _ (List.mem_cons_self)))))))))) ?_ ?_
  · exact rfl
  refine r_ite (fun hb5 => hk _ h.tail.tail) (fun hb5 => ?_)
  simp only [decide_eq_false_iff_not] at hb5
  refine r_ldN h rfl (by first | (with_reducible exact List.mem_cons_self) | (with_reducible exact List.mem_cons_of_mem _ (List.mem_cons_self)) | (with_reducible exact List.mem_cons_of_mem _ (List.mem_cons_of_mem _ (List.mem_cons_self))) | (with_reducible exact List.mem_cons_of_mem _ (List.mem_cons_of_mem _ (List.mem_cons_of_mem _ (List.mem_cons_self)))) | (with_reducible exact List.mem_cons_of_mem _ (List.mem_cons_of_mem _ (List.mem_cons_of_mem _ (List.mem_cons_of_mem _ (List.mem_cons_self))))) | (with_reducible exact List.mem_cons_of_mem _ (List.mem_cons_of_mem _ (List.mem_cons_of_mem _ (List.mem_cons_of_mem _ (List.mem_cons_of_mem _ (List.mem_cons_self)))))) | (with_reducible exact List.mem_cons_of_mem _ (List.mem_cons_of_mem _ (List.mem_cons_of_mem _ (List.mem_cons_of_mem _ (List.mem_cons_of_mem _ (List.mem_cons_of_mem _ (List.mem_cons_self))))))) | (with_reducible exact List.mem_cons_of_mem _ (List.mem_cons_of_mem _ (List.mem_cons_of_mem _ (List.mem_cons_of_mem _ (List.mem_cons_of_mem _ (List.mem_cons_of_mem _ (List.mem_cons_of_mem _ (List.mem_cons_self)))))))) | (with_reducible exact List.mem_cons_of_mem _ (List.mem_cons_of_mem _ (List.mem_cons_of_mem _ (List.mem_cons_of_mem _ (List.mem_cons_of_mem _ (List.mem_cons_of_mem _ (List.mem_cons_of_mem _ (List.mem_cons_of_mem _ (List.mem_cons_self)))))))))) ?_ ?_
  · rfl
  refine link_Receive_spec (p := x.1) (data := x.2) (hok.mono (by omega)) (by omega) (by omega) hs0 hs1 h.swap (fun w h => hxd.old h) fun c a w h => ?_
  have hF := recvF d x.1
  have hokr := LinkD.ok_receive (p := x.1) hok (by omega)
  have hcn := BsR.len h
  have han := PkR.len h.swap
  have hd1 := hF.ans1
  have hpe : ¬ (d.receive x.1).1.pe < d.pe ∧ (d.receive x.1).1.pe = (if x.1.ep > d.pe then x.1.ep else d.pe) := by
    rcases hF.pe with e | ⟨e1, e2⟩
    · rw [e]; split <;> omega
    · rw [e2]; split <;> omega
  refine r_dr h ?_
  clear h
  intro w h
  refine r_withS h ?_
  have rest : ∀ w, Holds B (BsR c (d.receive x.1).2.1 :: PkR a (d.receive x.1).2.2 :: LinkR b (d.receive x.1).1 :: blk p8 (.cells (pkV x.1 x.2) 36 (0, 0)) :: Γ) w →
      law19_LinkLives.s2 k (fun peer t w' => (∃ (j : Nat) (d : LinkD), t = (j : Int) ∧ j ≤ L.length ∧ peer = d.pe ∧ d.ep = ep ∧ 0 ≤ d.pe ∧ d.ok (100 + j) ∧ d.early.length ≤ j ∧ Holds B (LinkR b d :: Γ) w') ∧ ((s.n : Int) - t).toNat < ((s.n : Int) - (j : Int)).toNat) ep (some ⟨b, 0, none⟩) a s s.n j false w := by
    clear h
    intro w h
    unfold law19_LinkLives.s2
    refine r_ite_f rfl ?_
    obtain ⟨ls, hls, h⟩ := PkR.opens h.swap
    have hln : ls.length = a.n := by have := congrArg List.length hls; simp at this; omega
    refine LoopK.of (fun t w => ∃ i : Nat, t = (i : Int) ∧ i ≤ ls.length ∧ Holds B (SlC ty_api_Packet 5 a (ls.flatMap pkF) :: stars (ls.map pkB) :: BsR c (d.receive x.1).2.1 :: LinkR b (d.receive x.1).1 :: blk p8 (.cells (pkV x.1 x.2) 36 (0, 0)) :: Γ) w)
      (fun t _ => ((a.n : Int) - t).toNat) ⟨0, rfl, by omega, h⟩ ?_
    clear h
    rintro t w ⟨i, rfl, hi, h⟩
    unfold law19_LinkLives.b3
    refine r_ite (fun hb => ?_) (fun hb => ?_)
    · simp only [decide_eq_true_eq] at hb
      have hil : i < ls.length := by omega
      have hy : ls[i]? = some ls[i] := List.getElem?_eq_getElem hil
      generalize ls[i] = y at hy
      have hya : y.1 ∈ (d.receive x.1).2.2 := by rw [← hls]; exact List.mem_map_of_mem (List.mem_of_getElem? hy)
      obtain ⟨a1, a2, a3, a4⟩ := hF.ans _ hya
      have hyb := stars_rd (f := pkB) 1 h rfl (List.mem_of_getElem? hy) rfl
      have hyn : y.2.n = 0 := by have := hyb.len; rw [a4] at this; simp at this; omega
      refine r_idxN pkF pkF_len (by decide) (h.rdC List.mem_cons_self) hy (cs := pkV y.1 y.2) rfl fun t82 => ?_
      refine r_new h ?_
      clear h
      intro a12 w h
      try simp only [add_mk, Nat.zero_add, Nat.reduceAdd]
      first | refine r_stN 0 h rfl (by with_reducible exact at0) ?_ ?_ (fun _ _ => nofz _) ?_ ?_ | refine r_stN 1 h rfl (by with_reducible exact at1) ?_ ?_ (fun _ _ => nofz _) ?_ ?_ | refine r_stN 2 h rfl (by with_reducible exact at2) ?_ ?_ (fun _ _ => nofz _) ?_ ?_ | refine r_stN 3 h rfl (by with_reducible exact at3) ?_ ?_ (fun _ _ => nofz _) ?_ ?_ | refine r_stN 4 h rfl (by with_reducible exact at4) ?_ ?_ (fun _ _ => nofz _) ?_ ?_ | refine r_stN 5 h rfl (by with_reducible exact at5) ?_ ?_ (fun _ _ => nofz _) ?_ ?_ | refine r_stN 6 h rfl (by with_reducible exact at6) ?_ ?_ (fun _ _ => nofz _) ?_ ?_ | refine r_stN 7 h rfl (by with_reducible exact at7) ?_ ?_ (fun _ _ => nofz _) ?_ ?_
      · rfl
      · rfl
      · simp [flatV]
      clear h
      intro w h
      try simp only [List.set_cons_zero, List.set_cons_succ, List.eraseIdx_zero, List.eraseIdx_cons_zero, List.eraseIdx_cons_succ, List.setIfInBounds_toArray, List.tail_cons] at h
      refine r_dr h ?_
      clear h
      intro w h
      refine r_withS h ?_
      try simp only [add_mk, Nat.zero_add, Nat.reduceAdd]
      refine r_ldS (x := y.1.ep) rfl (by first | (with_reducible exact List.mem_cons_self) | (with_reducible exact List.mem_cons_of_mem _ (List.mem_cons_self)) | (with_reducible exact List.mem_cons_of_mem _ (List.mem_cons_of_mem _ (List.mem_cons_self))) | (with_reducible exact List.mem_cons_of_mem _ (List.mem_cons_of_mem _ (List.mem_cons_of_mem _ (List.mem_cons_self)))) | (with_reducible exact List.mem_cons_of_mem _ (List.mem_cons_of_mem _ (List.mem_cons_of_mem _ (List.mem_cons_of_mem _ (List.mem_cons_self))))) | (with_reducible exact List.mem_cons_of_mem _ (List.mem_cons_of_mem _ (List.mem_cons_of_mem _ (List.mem_cons_of_mem _ (List.mem_cons_of_mem _ (List.mem_cons_self)))))) | (with_reducible exact List.mem_cons_of_mem _ (List.mem_cons_of_mem _ (List.mem_cons_of_mem _ (List.mem_cons_of_mem _ (List.mem_cons_of_mem _ (List.mem_cons_of_mem _ (List.mem_cons_self))))))) | (with_reducible exact List.mem_cons_of_mem _ (List.mem_cons_of_mem _ (List.mem_cons_of_mem _ (List.mem_cons_of_mem _ (List.mem_cons_of_mem _ (List.mem_cons_of_mem _ (List.mem_cons_of_mem _ (List.mem_cons_self)))))))) | (with_reducible exact List.mem_cons_of_mem _ (List.mem_cons_of_mem _ (List.mem_cons_of_mem _ (List.mem_cons_of_mem _ (List.mem_cons_of_mem _ (List.mem_cons_of_mem _ (List.mem_cons_of_mem _ (List.mem_cons_of_mem _ (List.mem_cons_self)))))))))) ?_ ?_
      · exact rfl
      unfold law19_LinkLives.s4
      refine r_ite_f (by simp [a1, hep]) ?_
      refine r_ldS (x := y.1.pe) rfl (by first | (with_reducible exact List.mem_cons_self) | (with_reducible exact List.mem_cons_of_mem _ (List.mem_cons_self)) | (with_reducible exact List.mem_cons_of_mem _ (List.mem_cons_of_mem _ (List.mem_cons_self))) | (with_reducible exact List.mem_cons_of_mem _ (List.mem_cons_of_mem _ (List.mem_cons_of_mem _ (List.mem_cons_self)))) | (with_reducible exact List.mem_cons_of_mem _ (List.mem_cons_of_mem _ (List.mem_cons_of_mem _ (List.mem_cons_of_mem _ (List.mem_cons_self))))) | (with_reducible exact List.mem_cons_of_mem _ (List.mem_cons_of_mem _ (List.mem_cons_of_mem _ (List.mem_cons_of_mem _ (List.mem_cons_of_mem _ (List.mem_cons_self)))))) | (with_reducible exact List.mem_cons_of_mem _ (List.mem_cons_of_mem _ (List.mem_cons_of_mem _ (List.mem_cons_of_mem _ (List.mem_cons_of_mem _ (List.mem_cons_of_mem _ (List.mem_cons_self))))))) | (with_reducible exact List.mem_cons_of_mem _ (List.mem_cons_of_mem _ (List.mem_cons_of_mem _ (List.mem_cons_of_mem _ (List.mem_cons_of_mem _ (List.mem_cons_of_mem _ (List.mem_cons_of_mem _ (List.mem_cons_self)))))))) | (with_reducible exact List.mem_cons_of_mem _ (List.mem_cons_of_mem _ (List.mem_cons_of_mem _ (List.mem_cons_of_mem _ (List.mem_cons_of_mem _ (List.mem_cons_of_mem _ (List.mem_cons_of_mem _ (List.mem_cons_of_mem _ (List.mem_cons_self)))))))))) ?_ ?_
      · exact rfl
      refine link_Peer_spec (h.pick 4 at4) fun w h => ?_
      try simp only [List.set_cons_zero, List.set_cons_succ, List.eraseIdx_zero, List.eraseIdx_cons_zero, List.eraseIdx_cons_succ, List.setIfInBounds_toArray, List.tail_cons] at h
      replace h := h.pick 5 at5
      try simp only [List.set_cons_zero, List.set_cons_succ, List.eraseIdx_zero, List.eraseIdx_cons_zero, List.eraseIdx_cons_succ, List.setIfInBounds_toArray, List.tail_cons] at h
      replace h := h.pick 1 at1
      try simp only [List.set_cons_zero, List.set_cons_succ, List.eraseIdx_zero, List.eraseIdx_cons_zero, List.eraseIdx_cons_succ, List.setIfInBounds_toArray, List.tail_cons] at h
      replace h := h.pick 5 at5
      try simp only [List.set_cons_zero, List.set_cons_succ, List.eraseIdx_zero, List.eraseIdx_cons_zero, List.eraseIdx_cons_succ, List.setIfInBounds_toArray, List.tail_cons] at h
      replace h := h.pick 5 at5
      try simp only [List.set_cons_zero, List.set_cons_succ, List.eraseIdx_zero, List.eraseIdx_cons_zero, List.eraseIdx_cons_succ, List.setIfInBounds_toArray, List.tail_cons] at h
      replace h := h.pick 5 at5
      try simp only [List.set_cons_zero, List.set_cons_succ, List.eraseIdx_zero, List.eraseIdx_cons_zero, List.eraseIdx_cons_succ, List.setIfInBounds_toArray, List.tail_cons] at h
      replace h := h.pick 5 at5
      try simp only [List.set_cons_zero, List.set_cons_succ, List.eraseIdx_zero, List.eraseIdx_cons_zero, List.eraseIdx_cons_succ, List.setIfInBounds_toArray, List.tail_cons] at h
      refine r_sv h ?_
      refine r_ite_f (by simp [a2]) ?_
      refine r_ldS (x := y.1.sq) rfl (by first | (with_reducible exact List.mem_cons_self) | (with_reducible exact List.mem_cons_of_mem _ (List.mem_cons_self)) | (with_reducible exact List.mem_cons_of_mem _ (List.mem_cons_of_mem _ (List.mem_cons_self))) | (with_reducible exact List.mem_cons_of_mem _ (List.mem_cons_of_mem _ (List.mem_cons_of_mem _ (List.mem_cons_self)))) | (with_reducible exact List.mem_cons_of_mem _ (List.mem_cons_of_mem _ (List.mem_cons_of_mem _ (List.mem_cons_of_mem _ (List.mem_cons_self))))) | (with_reducible exact List.mem_cons_of_mem _ (List.mem_cons_of_mem _ (List.mem_cons_of_mem _ (List.mem_cons_of_mem _ (List.mem_cons_of_mem _ (List.mem_cons_self)))))) | (with_reducible exact List.mem_cons_of_mem _ (List.mem_cons_of_mem _ (List.mem_cons_of_mem _ (List.mem_cons_of_mem _ (List.mem_cons_of_mem _ (List.mem_cons_of_mem _ (List.mem_cons_self))))))) | (with_reducible exact List.mem_cons_of_mem _ (List.mem_cons_of_mem _ (List.mem_cons_of_mem _ (List.mem_cons_of_mem _ (List.mem_cons_of_mem _ (List.mem_cons_of_mem _ (List.mem_cons_of_mem _ (List.mem_cons_self)))))))) | (with_reducible exact List.mem_cons_of_mem _ (List.mem_cons_of_mem _ (List.mem_cons_of_mem _ (List.mem_cons_of_mem _ (List.mem_cons_of_mem _ (List.mem_cons_of_mem _ (List.mem_cons_of_mem _ (List.mem_cons_of_mem _ (List.mem_cons_self)))))))))) ?_ ?_
      · exact rfl
      refine r_ite_f (by simp [a3]) ?_
      refine r_ldS (x := y.2) rfl (by first | (with_reducible exact List.mem_cons_self) | (with_reducible exact List.mem_cons_of_mem _ (List.mem_cons_self)) | (with_reducible exact List.mem_cons_of_mem _ (List.mem_cons_of_mem _ (List.mem_cons_self))) | (with_reducible exact List.mem_cons_of_mem _ (List.mem_cons_of_mem _ (List.mem_cons_of_mem _ (List.mem_cons_self)))) | (with_reducible exact List.mem_cons_of_mem _ (List.mem_cons_of_mem _ (List.mem_cons_of_mem _ (List.mem_cons_of_mem _ (List.mem_cons_self))))) | (with_reducible exact List.mem_cons_of_mem _ (List.mem_cons_of_mem _ (List.mem_cons_of_mem _ (List.mem_cons_of_mem _ (List.mem_cons_of_mem _ (List.mem_cons_self)))))) | (with_reducible exact List.mem_cons_of_mem _ (List.mem_cons_of_mem _ (List.mem_cons_of_mem _ (List.mem_cons_of_mem _ (List.mem_cons_of_mem _ (List.mem_cons_of_mem _ (List.mem_cons_self))))))) | (with_reducible exact List.mem_cons_of_mem _ (List.mem_cons_of_mem _ (List.mem_cons_of_mem _ (List.mem_cons_of_mem _ (List.mem_cons_of_mem _ (List.mem_cons_of_mem _ (List.mem_cons_of_mem _ (List.mem_cons_self)))))))) | (with_reducible exact List.mem_cons_of_mem _ (List.mem_cons_of_mem _ (List.mem_cons_of_mem _ (List.mem_cons_of_mem _ (List.mem_cons_of_mem _ (List.mem_cons_of_mem _ (List.mem_cons_of_mem _ (List.mem_cons_of_mem _ (List.mem_cons_self)))))))))) ?_ ?_
      · exact rfl
      refine r_ite_f (by simp [hyn]) ?_
      refine r_add64 (by omega) (by omega) ?_
      exact ⟨⟨i + 1, by omega, by omega, h.tail⟩, by omega⟩
    · refine link_Peer_spec (h.pick 3 at3) fun w h => ?_
      refine r_add64 (by omega) (by omega) ?_
      refine ⟨⟨j + 1, (d.receive x.1).1, by omega, by omega, rfl, by rw [hF.ep, hep], by omega, hokr.mono (by omega), by have := hF.few; omega, ?_⟩, by omega⟩
      try simp only [List.set_cons_zero, List.set_cons_succ, List.eraseIdx_zero, List.eraseIdx_cons_zero, List.eraseIdx_cons_succ, List.setIfInBounds_toArray, List.tail_cons] at h
      replace h := h.del 1 at1
      try simp only [List.set_cons_zero, List.set_cons_succ, List.eraseIdx_zero, List.eraseIdx_cons_zero, List.eraseIdx_cons_succ, List.setIfInBounds_toArray, List.tail_cons] at h
      replace h := h.del 1 at1
      try simp only [List.set_cons_zero, List.set_cons_succ, List.eraseIdx_zero, List.eraseIdx_cons_zero, List.eraseIdx_cons_succ, List.setIfInBounds_toArray, List.tail_cons] at h
      replace h := h.del 1 at1
      try simp only [List.set_cons_zero, List.set_cons_succ, List.eraseIdx_zero, List.eraseIdx_cons_zero, List.eraseIdx_cons_succ, List.setIfInBounds_toArray, List.tail_cons] at h
      replace h := h.del 1 at1
      try simp only [List.set_cons_zero, List.set_cons_succ, List.eraseIdx_zero, List.eraseIdx_cons_zero, List.eraseIdx_cons_succ, List.setIfInBounds_toArray, List.tail_cons] at h
      exact h
  have rest2 : Ite (decide ((1 : Int) < (a.n : Int)))
          (law19_LinkLives.s2 k (fun peer t w' => (∃ (j : Nat) (d : LinkD), t = (j : Int) ∧ j ≤ L.length ∧ peer = d.pe ∧ d.ep = ep ∧ 0 ≤ d.pe ∧ d.ok (100 + j) ∧ d.early.length ≤ j ∧ Holds B (LinkR b d :: Γ) w') ∧ ((s.n : Int) - t).toNat < ((s.n : Int) - (j : Int)).toNat) ep (some ⟨b, 0, none⟩) a s s.n j true)
          (link_Link_Peer.call (some ⟨b, 0, none⟩) fun t65 =>
          Sv (Holds B (BsR c (d.receive x.1).2.1 :: PkR a (d.receive x.1).2.2 :: LinkR b (d.receive x.1).1 :: blk p8 (.cells (pkV x.1 x.2) 36 (0, 0)) :: Γ)) <|
          Ite (decide (t65 < d.pe))
            (law19_LinkLives.s2 k (fun peer t w' => (∃ (j : Nat) (d : LinkD), t = (j : Int) ∧ j ≤ L.length ∧ peer = d.pe ∧ d.ep = ep ∧ 0 ≤ d.pe ∧ d.ok (100 + j) ∧ d.early.length ≤ j ∧ Holds B (LinkR b d :: Γ) w') ∧ ((s.n : Int) - t).toNat < ((s.n : Int) - (j : Int)).toNat) ep (some ⟨b, 0, none⟩) a s s.n j true)
            (LdS (Holds B (BsR c (d.receive x.1).2.1 :: PkR a (d.receive x.1).2.2 :: LinkR b (d.receive x.1).1 :: blk p8 (.cells (pkV x.1 x.2) 36 (0, 0)) :: Γ)) ⟨p8, 0, none⟩ (Value.int .u64) fun t74 =>
            Ar (if (t74 : Int) > d.pe then t74 else d.pe) fun t75 =>
            link_Link_Peer.call (some ⟨b, 0, none⟩) fun t71 =>
            Sv (Holds B (BsR c (d.receive x.1).2.1 :: PkR a (d.receive x.1).2.2 :: LinkR b (d.receive x.1).1 :: blk p8 (.cells (pkV x.1 x.2) 36 (0, 0)) :: Γ)) <|
            law19_LinkLives.s2 k (fun peer t w' => (∃ (j : Nat) (d : LinkD), t = (j : Int) ∧ j ≤ L.length ∧ peer = d.pe ∧ d.ep = ep ∧ 0 ≤ d.pe ∧ d.ok (100 + j) ∧ d.early.length ≤ j ∧ Holds B (LinkR b d :: Γ) w') ∧ ((s.n : Int) - t).toNat < ((s.n : Int) - (j : Int)).toNat) ep (some ⟨b, 0, none⟩) a s s.n j (decide (t71 ≠ t75)))) w := by
    refine r_ite_f (by simp; omega) ?_
    refine link_Peer_spec (h.pick 2 at2) fun w h => ?_
    try simp only [List.set_cons_zero, List.set_cons_succ, List.eraseIdx_zero, List.eraseIdx_cons_zero, List.eraseIdx_cons_succ, List.setIfInBounds_toArray, List.tail_cons] at h
    replace h := h.pick 3 at3
    try simp only [List.set_cons_zero, List.set_cons_succ, List.eraseIdx_zero, List.eraseIdx_cons_zero, List.eraseIdx_cons_succ, List.setIfInBounds_toArray, List.tail_cons] at h
    replace h := h.pick 1 at1
    try simp only [List.set_cons_zero, List.set_cons_succ, List.eraseIdx_zero, List.eraseIdx_cons_zero, List.eraseIdx_cons_succ, List.setIfInBounds_toArray, List.tail_cons] at h
    replace h := h.pick 3 at3
    try simp only [List.set_cons_zero, List.set_cons_succ, List.eraseIdx_zero, List.eraseIdx_cons_zero, List.eraseIdx_cons_succ, List.setIfInBounds_toArray, List.tail_cons] at h
    replace h := h.pick 3 at3
    try simp only [List.set_cons_zero, List.set_cons_succ, List.eraseIdx_zero, List.eraseIdx_cons_zero, List.eraseIdx_cons_succ, List.setIfInBounds_toArray, List.tail_cons] at h
    refine r_sv h ?_
    refine r_ite_f (by simp; omega) ?_
    refine r_ldS (x := x.1.ep) rfl (by first | (with_reducible exact List.mem_cons_self) | (with_reducible exact List.mem_cons_of_mem _ (List.mem_cons_self)) | (with_reducible exact List.mem_cons_of_mem _ (List.mem_cons_of_mem _ (List.mem_cons_self))) | (with_reducible exact List.mem_cons_of_mem _ (List.mem_cons_of_mem _ (List.mem_cons_of_mem _ (List.mem_cons_self)))) | (with_reducible exact List.mem_cons_of_mem _ (List.mem_cons_of_mem _ (List.mem_cons_of_mem _ (List.mem_cons_of_mem _ (List.mem_cons_self))))) | (with_reducible exact List.mem_cons_of_mem _ (List.mem_cons_of_mem _ (List.mem_cons_of_mem _ (List.mem_cons_of_mem _ (List.mem_cons_of_mem _ (List.mem_cons_self)))))) | (with_reducible exact List.mem_cons_of_mem _ (List.mem_cons_of_mem _ (List.mem_cons_of_mem _ (List.mem_cons_of_mem _ (List.mem_cons_of_mem _ (List.mem_cons_of_mem _ (List.mem_cons_self))))))) | (with_reducible exact List.mem_cons_of_mem _ (List.mem_cons_of_mem _ (List.mem_cons_of_mem _ (List.mem_cons_of_mem _ (List.mem_cons_of_mem _ (List.mem_cons_of_mem _ (List.mem_cons_of_mem _ (List.mem_cons_self)))))))) | (with_reducible exact List.mem_cons_of_mem _ (List.mem_cons_of_mem _ (List.mem_cons_of_mem _ (List.mem_cons_of_mem _ (List.mem_cons_of_mem _ (List.mem_cons_of_mem _ (List.mem_cons_of_mem _ (List.mem_cons_of_mem _ (List.mem_cons_self)))))))))) ?_ ?_
    · exact rfl
    refine r_ar rfl ?_
    refine link_Peer_spec (h.pick 2 at2) fun w h => ?_
    try simp only [List.set_cons_zero, List.set_cons_succ, List.eraseIdx_zero, List.eraseIdx_cons_zero, List.eraseIdx_cons_succ, List.setIfInBounds_toArray, List.tail_cons] at h
    replace h := h.pick 3 at3
    try simp only [List.set_cons_zero, List.set_cons_succ, List.eraseIdx_zero, List.eraseIdx_cons_zero, List.eraseIdx_cons_succ, List.setIfInBounds_toArray, List.tail_cons] at h
    replace h := h.pick 1 at1
    try simp only [List.set_cons_zero, List.set_cons_succ, List.eraseIdx_zero, List.eraseIdx_cons_zero, List.eraseIdx_cons_succ, List.setIfInBounds_toArray, List.tail_cons] at h
    replace h := h.pick 3 at3
    try simp only [List.set_cons_zero, List.set_cons_succ, List.eraseIdx_zero, List.eraseIdx_cons_zero, List.eraseIdx_cons_succ, List.setIfInBounds_toArray, List.tail_cons] at h
    replace h := h.pick 3 at3
    try simp only [List.set_cons_zero, List.set_cons_succ, List.eraseIdx_zero, List.eraseIdx_cons_zero, List.eraseIdx_cons_succ, List.setIfInBounds_toArray, List.tail_cons] at h
    refine r_sv h ?_
    rw [decide_eq_false (by rw [hpe.2]; simp)]
    exact rest w h
  refine r_ite (fun hb6 => ?_) (fun _ => rest2)
  simp only [decide_eq_true_eq] at hb6
  obtain ⟨g1, g2, g3⟩ := hF.came (by intro e; rw [e] at hcn; simp at hcn; omega)
  try simp only [add_mk, Nat.zero_add, Nat.reduceAdd]
  refine r_ldS (x := x.1.ep) rfl (by first | (with_reducible exact List.mem_cons_self) | (with_reducible exact List.mem_cons_of_mem _ (List.mem_cons_self)) | (with_reducible exact List.mem_cons_of_mem _ (List.mem_cons_of_mem _ (List.mem_cons_self))) | (with_reducible exact List.mem_cons_of_mem _ (List.mem_cons_of_mem _ (List.mem_cons_of_mem _ (List.mem_cons_self)))) | (with_reducible exact List.mem_cons_of_mem _ (List.mem_cons_of_mem _ (List.mem_cons_of_mem _ (List.mem_cons_of_mem _ (List.mem_cons_self))))) | (with_reducible exact List.mem_cons_of_mem _ (List.mem_cons_of_mem _ (List.mem_cons_of_mem _ (List.mem_cons_of_mem _ (List.mem_cons_of_mem _ (List.mem_cons_self)))))) | (with_reducible exact List.mem_cons_of_mem _ (List.mem_cons_of_mem _ (List.mem_cons_of_mem _ (List.mem_cons_of_mem _ (List.mem_cons_of_mem _ (List.mem_cons_of_mem _ (List.mem_cons_self))))))) | (with_reducible exact List.mem_cons_of_mem _ (List.mem_cons_of_mem _ (List.mem_cons_of_mem _ (List.mem_cons_of_mem _ (List.mem_cons_of_mem _ (List.mem_cons_of_mem _ (List.mem_cons_of_mem _ (List.mem_cons_self)))))))) | (with_reducible exact List.mem_cons_of_mem _ (List.mem_cons_of_mem _ (List.mem_cons_of_mem _ (List.mem_cons_of_mem _ (List.mem_cons_of_mem _ (List.mem_cons_of_mem _ (List.mem_cons_of_mem _ (List.mem_cons_of_mem _ (List.mem_cons_self)))))))))) ?_ ?_
  · exact rfl
  refine r_ite_f (by simp; omega) ?_
  refine r_ldS (x := x.1.pe) rfl (by first | (with_reducible exact List.mem_cons_self) | (with_reducible exact List.mem_cons_of_mem _ (List.mem_cons_self)) | (with_reducible exact List.mem_cons_of_mem _ (List.mem_cons_of_mem _ (List.mem_cons_self))) | (with_reducible exact List.mem_cons_of_mem _ (List.mem_cons_of_mem _ (List.mem_cons_of_mem _ (List.mem_cons_self)))) | (with_reducible exact List.mem_cons_of_mem _ (List.mem_cons_of_mem _ (List.mem_cons_of_mem _ (List.mem_cons_of_mem _ (List.mem_cons_self))))) | (with_reducible exact List.mem_cons_of_mem _ (List.mem_cons_of_mem _ (List.mem_cons_of_mem _ (List.mem_cons_of_mem _ (List.mem_cons_of_mem _ (List.mem_cons_self)))))) | (with_reducible exact List.mem_cons_of_mem _ (List.mem_cons_of_mem _ (List.mem_cons_of_mem _ (List.mem_cons_of_mem _ (List.mem_cons_of_mem _ (List.mem_cons_of_mem _ (List.mem_cons_self))))))) | (with_reducible exact List.mem_cons_of_mem _ (List.mem_cons_of_mem _ (List.mem_cons_of_mem _ (List.mem_cons_of_mem _ (List.mem_cons_of_mem _ (List.mem_cons_of_mem _ (List.mem_cons_of_mem _ (List.mem_cons_self)))))))) | (with_reducible exact List.mem_cons_of_mem _ (List.mem_cons_of_mem _ (List.mem_cons_of_mem _ (List.mem_cons_of_mem _ (List.mem_cons_of_mem _ (List.mem_cons_of_mem _ (List.mem_cons_of_mem _ (List.mem_cons_of_mem _ (List.mem_cons_self)))))))))) ?_ ?_
  · exact rfl
  refine r_ite_f (by simp [g2, hep]) ?_
  refine r_ldS (x := x.1.ep) rfl (by first | (with_reducible exact List.mem_cons_self) | (with_reducible exact List.mem_cons_of_mem _ (List.mem_cons_self)) | (with_reducible exact List.mem_cons_of_mem _ (List.mem_cons_of_mem _ (List.mem_cons_self))) | (with_reducible exact List.mem_cons_of_mem _ (List.mem_cons_of_mem _ (List.mem_cons_of_mem _ (List.mem_cons_self)))) | (with_reducible exact List.mem_cons_of_mem _ (List.mem_cons_of_mem _ (List.mem_cons_of_mem _ (List.mem_cons_of_mem _ (List.mem_cons_self))))) | (with_reducible exact List.mem_cons_of_mem _ (List.mem_cons_of_mem _ (List.mem_cons_of_mem _ (List.mem_cons_of_mem _ (List.mem_cons_of_mem _ (List.mem_cons_self)))))) | (with_reducible exact List.mem_cons_of_mem _ (List.mem_cons_of_mem _ (List.mem_cons_of_mem _ (List.mem_cons_of_mem _ (List.mem_cons_of_mem _ (List.mem_cons_of_mem _ (List.mem_cons_self))))))) | (with_reducible exact List.mem_cons_of_mem _ (List.mem_cons_of_mem _ (List.mem_cons_of_mem _ (List.mem_cons_of_mem _ (List.mem_cons_of_mem _ (List.mem_cons_of_mem _ (List.mem_cons_of_mem _ (List.mem_cons_self)))))))) | (with_reducible exact List.mem_cons_of_mem _ (List.mem_cons_of_mem _ (List.mem_cons_of_mem _ (List.mem_cons_of_mem _ (List.mem_cons_of_mem _ (List.mem_cons_of_mem _ (List.mem_cons_of_mem _ (List.mem_cons_of_mem _ (List.mem_cons_self)))))))))) ?_ ?_
  · exact rfl
  refine r_ite_f (by simp [g3]) ?_
  exact rest2
end
end Go.Proofs.Ytilejcnbacmdnaa

namespace Go.Proofs.Ytilejcnbacmdnaa
open Go Go.Sep Go.RowKit
theorem rdy_packet {w : World} {cs : List Value} (hc : cs.length = 5) (y : Rdy w (.fld 0 1 (.int .u64) (.fld 1 1 (.int .u64) (.fld 2 1 (.int .u64) (.fld 3 1 (.int .u64) (.fld 4 1 (.sl (.int .u8) 1) .nil))))) cs) :
    ∃ x : PacketD × Sl, cs = pkF x ∧ PkOk w x := by
  match cs, hc with
  | [c, d, e, f, g], _ =>
    obtain ⟨⟨y0, f0, w0⟩, ⟨y1, f1, _⟩, ⟨y2, f2, w2⟩, ⟨y3, f3, _⟩, ⟨s, f4, _, _, h1, h2⟩, _⟩ := y
    cases f0; cases f1; cases f2; cases f3; cases f4
    obtain ⟨xs, _, h3⟩ := rd_bytes h1 h2
    simp [Lit.wf, IntKind.min, IntKind.max, IntKind.signed, IntKind.bits] at w0 w2
    exact ⟨(⟨y0, y1, y2, y3, xs⟩, s), rfl, h3, w0.1, w2.1, by simp only; omega⟩
theorem LinkLives_walk (W : World) (x : Int) (_ : (Lit.int .u64 x).wf = true) (s : Sl) (y0 : Rdy W Sh_ty_s_api_Packet (Sl.val s).cells.toList) :
    Calls Try.prog 9 #[.int .u64 x, s.val] W (Ret fun v w' => v = .bool true ∧ Below W.heap.size W w') := by
  obtain ⟨h1, h2⟩ := rdy_sl y0
  obtain ⟨L, _, hL, hd⟩ := rd_list pkF (fun x => PkOk W x) pkF_len h1 h2 fun cs hc hr => rdy_packet hc hr
  exact law_call (law19_LinkLives_spec hL hd (Holds.start W) fun w h => ⟨rfl, h⟩)
end Go.Proofs.Ytilejcnbacmdnaa
