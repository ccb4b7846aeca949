/- LinkAgain: packets that come again bring nothing again. -/
import Derived.Test.YtilejcnbacmdnaaSLinkP
import Derived.Test.YtilejcnbacmdnaaIRLaw19
namespace Go.Proofs.Ytilejcnbacmdnaa
open Go Go.Sep
set_option linter.unusedSimpArgs false
set_option linter.unusedVariables false
set_option maxRecDepth 100000
section
variable {B w : World} {Γ : List HProp}

theorem stars_cat {L M : List HProp} (h : Holds B (stars L :: stars M :: Γ) w) : Holds B (stars (L ++ M) :: Γ) w := by
  have h1 : Holds B (L ++ (stars M :: Γ)) w := Holds.flat.1 h
  have h2 : Holds B (stars M :: (L ++ Γ)) w := h1.perm List.perm_middle
  have h3 : Holds B (M ++ (L ++ Γ)) w := Holds.flat.1 h2
  refine Holds.flat.2 (h3.perm ?_)
  rw [← List.append_assoc]
  exact List.perm_append_comm.append_right Γ

theorem r_appBs {g c : Sl} {l m : List (List UInt8)} {k : Sl → K} (h : Holds B (BsR g l :: BsR c m :: Γ) w) (hroom : l.length + m.length ≤ 1000000000) (hk : ∀ s w, Holds B (BsR s (l ++ m) :: Γ) w → k s w) :
    Do Try.prog (Builtin.append_ #[56, 56] 56 #[g.val, c.val]) Sl.val k w := by
  obtain ⟨gl, hgl, h⟩ := BsR.opens h
  replace h := h.pick 2 at2
  try simp only [List.set_cons_zero, List.set_cons_succ, List.eraseIdx_zero, List.eraseIdx_cons_zero, List.eraseIdx_cons_succ, List.setIfInBounds_toArray, List.tail_cons] at h
  obtain ⟨cl, hcl, h⟩ := BsR.opens h
  have h1 := h.slCap.1
  have h2 := (h.pick 2 at2).slCap.1
  have h3 := congrArg List.length hgl
  have h4 := congrArg List.length hcl
  simp only [List.length_map, Nat.mul_one] at h1 h2 h3 h4
  refine r_append (h.pick 2 at2) (by kernel_rfl) (by kernel_rfl) (by' := 24) (by kernel_rfl) zero_ty_s_uint8 rfl (h.rdC List.mem_cons_self) (bsV_flat _) (by omega) (by decide) fun s' w h _ _ => ?_
  try simp only [List.set_cons_zero, List.set_cons_succ, List.eraseIdx_zero, List.eraseIdx_cons_zero, List.eraseIdx_cons_succ, List.setIfInBounds_toArray, List.tail_cons] at h
  replace h := h.pick 2 at2
  try simp only [List.set_cons_zero, List.set_cons_succ, List.eraseIdx_zero, List.eraseIdx_cons_zero, List.eraseIdx_cons_succ, List.setIfInBounds_toArray, List.tail_cons] at h
  replace h := h.pick 3 at3
  try simp only [List.set_cons_zero, List.set_cons_succ, List.eraseIdx_zero, List.eraseIdx_cons_zero, List.eraseIdx_cons_succ, List.setIfInBounds_toArray, List.tail_cons] at h
  replace h := h.del 3 at3
  try simp only [List.set_cons_zero, List.set_cons_succ, List.eraseIdx_zero, List.eraseIdx_cons_zero, List.eraseIdx_cons_succ, List.setIfInBounds_toArray, List.tail_cons] at h
  have h5 := stars_cat h
  rw [← List.map_append] at h5
  replace h5 := h5.swap
  rw [← List.map_append] at h5
  exact hk _ _ (BsR.shuts (by simp [hgl, hcl]) h5)

theorem BsR.empty {b : Nat} (h : Holds B (blk b (.cells #[] ty_s_uint8 (0, 0)) :: Γ) w) : Holds B (BsR ⟨some ⟨b, 0, none⟩, 0, 0⟩ [] :: Γ) w := by
  have h1 : Holds B (SlC ty_s_uint8 1 ⟨some ⟨b, 0, none⟩, 0, 0⟩ ([] : List Value) :: Γ) w := h.imp (blk_SlC rfl rfl)
  exact BsR.shuts (ls := []) rfl h1.starsNil.swap

theorem recv_eq {d : LinkD} {p : PacketD} (hep : p.ep = d.pe) (hne : p.ep ≠ 0) (hpe : p.pe = d.ep) (hack : d.ack p.ak = d) (hsq : p.sq ≠ 0) :
    d.receive p = ((d.keep p).drained.1, (d.keep p).drained.2, [(d.keep p).drained.1.helloP]) := by
  have hm : d.meet p.ep = d := by unfold LinkD.meet; rw [if_neg (by omega)]
  unfold LinkD.receive
  rw [if_neg (by omega)]
  simp only
  rw [hm, if_neg (by rw [hpe]; simp), hack, if_neg hsq]

theorem ack_nil {d : LinkD} (h : d.out = []) (a : Int) : d.ack a = d := by
  obtain ⟨a1, a2, a3, a4, a5, a6⟩ := d
  cases h
  rfl

structure againI (S got : List (List UInt8)) (d : LinkD) (i : Nat) : Prop where
  ep : d.ep = 9
  pe : d.pe = 2
  ba : d.ba = 1
  out : d.out = []
  ai : AI S got d
  ok : d.ok (100 + i)
  few : d.early.length ≤ i

theorem againI.recv {S got : List (List UInt8)} {d : LinkD} {i k : Nat} {x : List UInt8} (h : againI S got d i) (hS : S.length ≤ 16) (hx : S[k]? = some x) :
    againI S (got ++ (d.receive ⟨2, 9, 1 + k, 0, x⟩).2.1) (d.receive ⟨2, 9, 1 + k, 0, x⟩).1 (i + 1) ∧ (∀ q, hasCome d q → hasCome (d.receive ⟨2, 9, 1 + k, 0, x⟩).1 q) ∧ hasCome (d.receive ⟨2, 9, 1 + k, 0, x⟩).1 (1 + k) := by
  have hk : k < S.length := (List.getElem?_eq_some_iff.1 hx).1
  have hsq : ((1 : Int) + k - 1).toNat = k := by omega
  have hokr := LinkD.ok_receive (p := ⟨2, 9, 1 + k, 0, x⟩) h.ok (by omega)
  have hF := recvF d ⟨2, 9, 1 + k, 0, x⟩
  have e := recv_eq (d := d) (p := ⟨2, 9, 1 + k, 0, x⟩) (by rw [h.pe]) (by simp) (by rw [h.ep]) (ack_nil h.out _) (by simp only; omega)
  obtain ⟨g1, g2, g3, g4⟩ := h.ai.recv (p := ⟨2, 9, 1 + k, 0, x⟩) (fun _ => by simp only; rw [hsq]; exact hx) (by simp only; omega)
  have hfew := hF.few
  rw [e] at hokr hfew ⊢
  have hk' : (d.keep ⟨2, 9, 1 + k, 0, x⟩).ep = d.ep ∧ (d.keep ⟨2, 9, 1 + k, 0, x⟩).pe = d.pe ∧ (d.keep ⟨2, 9, 1 + k, 0, x⟩).ba = d.ba ∧ (d.keep ⟨2, 9, 1 + k, 0, x⟩).out = d.out := by
    unfold LinkD.keep; split <;> exact ⟨rfl, rfl, rfl, rfl⟩
  have hx1 := h.ai.ex1
  refine ⟨⟨hk'.1.trans h.ep, hk'.2.1.trans h.pe, hk'.2.2.1.trans h.ba, hk'.2.2.2.trans h.out, g1, hokr.mono (by omega), by have := h.few; simp only at hfew ⊢; omega⟩, g2, g3 (by simp only; omega)⟩

theorem law19_LinkAgain_spec {k : Bool → K} {s c : Sl} {L : List BS} {C : List Int} (hs : RdC B s 1 (L.map bsV)) (hL : ∀ x ∈ L, RdB B x.2 x.1) (hc : RdC B c 1 (C.map (Value.int .i64)))
    (h : Holds B Γ w) (hk : ∀ w, Holds B Γ w → k true w) : law19_LinkAgain.call s c k w := by
  have hsn : L.length = s.n := by have := hs.len; simpa using this
  have hcn : C.length = c.n := by have := hc.len; simpa using this
  refine law19_LinkAgain_ok _ _ _ _ ?_
  unfold law19_LinkAgain
  refine law19_speaks_spec h fun w h => ?_
  refine r_ite_f rfl ?_
  suffices hh : s.n ≤ 30 → law19_LinkAgain.s1 k s c (decide ((100 : Int) < (c.n : Int))) w by
    refine r_ite (fun hb => ?_) (fun hb => ?_)
    · unfold law19_LinkAgain.s1
      exact r_ite_t rfl (hk _ h)
    · simp only [decide_eq_false_iff_not] at hb
      exact hh (by omega)
  intro hb
  unfold law19_LinkAgain.s1
  refine r_ite (fun hb2 => hk _ h) (fun hb2 => ?_)
  simp only [decide_eq_false_iff_not] at hb2
  refine link_New_spec h fun a w h => ?_
  refine link_New_spec h fun b w h => ?_
  refine r_ite_f rfl ?_
  unfold law19_LinkAgain.s2
  refine r_ite_f rfl ?_
  refine r_new h ?_
  clear h
  intro t38 w h
  try simp only [add_mk, Nat.zero_add, Nat.reduceAdd]
  have h1 : Holds B (SlC ty_s_uint8 1 ⟨some ⟨t38, 0, none⟩, 0, 0⟩ (([] : List BS).map bsV) :: LinkR b ⟨9, 0, 1, 1, [], []⟩ :: LinkR a ⟨2, 0, 1, 1, [], []⟩ :: Γ) w := h.imp (blk_SlC rfl rfl)
  clear h
  refine LoopK.of (α := Sl × Int) (fun t w => ∃ (j : Nat) (sl : List BS), t.2 = (j : Int) ∧ j ≤ L.length ∧ sl.length ≤ 16 ∧ (∀ x ∈ sl, RdB B x.2 x.1 ∧ x.1.length ≤ 500) ∧
      Holds B (SlC ty_s_uint8 1 t.1 (sl.map bsV) :: LinkR b ⟨9, 0, 1, 1, [], []⟩ :: LinkR a ⟨2, 0, 1, 1, sl.map Prod.fst, []⟩ :: Γ) w)
    (fun t _ => ((s.n : Int) - t.2).toNat) ⟨0, [], rfl, by omega, by simp, by simp, h1⟩ ?_
  clear h1
  rintro ⟨sent, t⟩ w ⟨j, sl, ht, hj, hsl, hsx, h⟩
  simp only at ht h
  subst ht
  dsimp only
  have hsnt := h.slCap.1
  simp only [List.length_map, Nat.mul_one] at hsnt
  unfold law19_LinkAgain.b3 law19_LinkAgain.s4
  refine r_ite (fun hb => ?_) (fun hb => ?_)
  · simp only [decide_eq_true_eq] at hb
    have hjl : j < L.length := by omega
    have hx : L[j]? = some L[j] := List.getElem?_eq_getElem hjl
    generalize L[j] = x at hx
    have hxd := hL x (List.mem_of_getElem? hx)
    have hxn : x.1.length = x.2.n := by have := hxd.len; simpa using this
    refine r_idx1 (c := Sl.val) (L := L.map Prod.snd) (x := x.2) (by rw [List.map_map]; exact hs.old h) (by simp [hx]) ?_
    refine r_ite (fun hb5 => hk _ h.tail.tail.tail) (fun hb5 => ?_)
    simp only [decide_eq_false_iff_not] at hb5
    refine link_Send_spec (xs := x.1) (h.pick 2 at2) (fun w h => hxd.old h) (by omega) (fun hfull w h => ?_) (fun hroom w h => ?_)
    · refine r_ite_f rfl ?_
      refine r_add64 (by omega) (by omega) ?_
      try simp only [List.set_cons_zero, List.set_cons_succ, List.eraseIdx_zero, List.eraseIdx_cons_zero, List.eraseIdx_cons_succ, List.setIfInBounds_toArray, List.tail_cons] at h
      replace h := h.pick 2 at2
      try simp only [List.set_cons_zero, List.set_cons_succ, List.eraseIdx_zero, List.eraseIdx_cons_zero, List.eraseIdx_cons_succ, List.setIfInBounds_toArray, List.tail_cons] at h
      replace h := h.pick 2 at2
      try simp only [List.set_cons_zero, List.set_cons_succ, List.eraseIdx_zero, List.eraseIdx_cons_zero, List.eraseIdx_cons_succ, List.setIfInBounds_toArray, List.tail_cons] at h
      exact ⟨⟨j + 1, sl, by simp, by omega, hsl, hsx, h⟩, by omega⟩
    · refine r_ite_t rfl ?_
      try simp only [List.set_cons_zero, List.set_cons_succ, List.eraseIdx_zero, List.eraseIdx_cons_zero, List.eraseIdx_cons_succ, List.setIfInBounds_toArray, List.tail_cons] at h
      refine r_new h ?_
      clear h
      intro t54 w h
      try simp only [add_mk, Nat.zero_add, Nat.reduceAdd]
      have hr := RdC.of_blk (n := 1) (esz := 1) h List.mem_cons_self (vs := [x.2.val]) rfl rfl 1
      refine r_append (h.pick 2 at2) (by kernel_rfl) (by kernel_rfl) (by' := 24) (by kernel_rfl) zero_ty_s_uint8 rfl hr (flat_all rfl) (by simp only; omega) (by decide) fun s' w h _ _ => ?_
      refine r_add64 (by omega) (by omega) ?_
      try simp only [List.set_cons_zero, List.set_cons_succ, List.eraseIdx_zero, List.eraseIdx_cons_zero, List.eraseIdx_cons_succ, List.setIfInBounds_toArray, List.tail_cons] at h
      replace h := h.pick 2 at2
      try simp only [List.set_cons_zero, List.set_cons_succ, List.eraseIdx_zero, List.eraseIdx_cons_zero, List.eraseIdx_cons_succ, List.setIfInBounds_toArray, List.tail_cons] at h
      replace h := h.pick 3 at3
      try simp only [List.set_cons_zero, List.set_cons_succ, List.eraseIdx_zero, List.eraseIdx_cons_zero, List.eraseIdx_cons_succ, List.setIfInBounds_toArray, List.tail_cons] at h
      replace h := h.pick 2 at2
      try simp only [List.set_cons_zero, List.set_cons_succ, List.eraseIdx_zero, List.eraseIdx_cons_zero, List.eraseIdx_cons_succ, List.setIfInBounds_toArray, List.tail_cons] at h
      replace h := h.del 3 at3
      try simp only [List.set_cons_zero, List.set_cons_succ, List.eraseIdx_zero, List.eraseIdx_cons_zero, List.eraseIdx_cons_succ, List.setIfInBounds_toArray, List.tail_cons] at h
      have hroom2 : sl.length < 16 := by simpa using hroom
      refine ⟨⟨j + 1, sl ++ [x], by simp, by omega, by simp; omega, ?_, ?_⟩, by omega⟩
      · intro y hy
        rcases List.mem_append.1 hy with hy | hy
        · exact hsx y hy
        · simp only [List.mem_singleton] at hy; subst hy; exact ⟨hxd, by omega⟩
      · rw [List.map_append, List.map_append]; exact h
  · clear hb hL hj
    generalize hS : sl.map Prod.fst = S at h
    have hSl : S.length = sl.length := by rw [← hS]; simp
    have hSx : ∀ x ∈ S, x.length ≤ 500 := by
      intro x hx
      rw [← hS] at hx
      obtain ⟨y, hy, rfl⟩ := List.mem_map.1 hx
      exact (hsx y hy).2
    have hS16 : S.length ≤ 16 := by omega
    have hoka : (LinkD.mk 2 0 1 1 S []).ok 100 := ⟨by simp, by simp only; omega, by simp, by simp, fun x hx => by have := hSx x hx; omega, by omega⟩
    have hokb : (LinkD.mk 2 9 1 1 S []).ok 100 := ⟨by simp, by simp only; omega, by simp, by simp, fun x hx => by have := hSx x hx; omega, by omega⟩
    refine link_Receive_spec (p := ⟨9, 0, 0, 0, []⟩) (data := ⟨none, 0, 0⟩) (hoka.mono (by decide)) (by simp) (by simp) (by simp) (by simp) (h.pick 2 at2) (fun w h => RdC.none') fun c1 a1 w h => ?_
    rw [show LinkD.receive ⟨2, 0, 1, 1, S, []⟩ ⟨9, 0, 0, 0, []⟩ = (⟨2, 9, 1, 1, S, []⟩, [], [⟨2, 9, 0, 0, []⟩]) by simp [LinkD.receive, LinkD.meet, LinkD.helloP]] at h
    simp only at h
    try simp only [List.set_cons_zero, List.set_cons_succ, List.eraseIdx_zero, List.eraseIdx_cons_zero, List.eraseIdx_cons_succ, List.setIfInBounds_toArray, List.tail_cons] at h
    replace h := h.pick 3 at3
    try simp only [List.set_cons_zero, List.set_cons_succ, List.eraseIdx_zero, List.eraseIdx_cons_zero, List.eraseIdx_cons_succ, List.setIfInBounds_toArray, List.tail_cons] at h
    replace h := h.pick 3 at3
    try simp only [List.set_cons_zero, List.set_cons_succ, List.eraseIdx_zero, List.eraseIdx_cons_zero, List.eraseIdx_cons_succ, List.setIfInBounds_toArray, List.tail_cons] at h
    replace h := h.pick 4 at4
    try simp only [List.set_cons_zero, List.set_cons_succ, List.eraseIdx_zero, List.eraseIdx_cons_zero, List.eraseIdx_cons_succ, List.setIfInBounds_toArray, List.tail_cons] at h
    replace h := h.del 3 at3
    try simp only [List.set_cons_zero, List.set_cons_succ, List.eraseIdx_zero, List.eraseIdx_cons_zero, List.eraseIdx_cons_succ, List.setIfInBounds_toArray, List.tail_cons] at h
    replace h := h.del 3 at3
    try simp only [List.set_cons_zero, List.set_cons_succ, List.eraseIdx_zero, List.eraseIdx_cons_zero, List.eraseIdx_cons_succ, List.setIfInBounds_toArray, List.tail_cons] at h
    refine link_Receive_spec (p := ⟨2, 0, 0, 0, []⟩) (data := ⟨none, 0, 0⟩) ((new_ok 9).mono (by decide)) (by simp) (by simp) (by simp) (by simp) h (fun w h => RdC.none') fun c1 a1 w h => ?_
    rw [show LinkD.receive ⟨9, 0, 1, 1, [], []⟩ ⟨2, 0, 0, 0, []⟩ = (⟨9, 2, 1, 1, [], []⟩, [], [⟨9, 2, 0, 0, []⟩]) by simp [LinkD.receive, LinkD.meet, LinkD.helloP]] at h
    simp only at h
    replace h := h.pick 4 at4
    try simp only [List.set_cons_zero, List.set_cons_succ, List.eraseIdx_zero, List.eraseIdx_cons_zero, List.eraseIdx_cons_succ, List.setIfInBounds_toArray, List.tail_cons] at h
    replace h := h.pick 3 at3
    try simp only [List.set_cons_zero, List.set_cons_succ, List.eraseIdx_zero, List.eraseIdx_cons_zero, List.eraseIdx_cons_succ, List.setIfInBounds_toArray, List.tail_cons] at h
    replace h := h.pick 4 at4
    try simp only [List.set_cons_zero, List.set_cons_succ, List.eraseIdx_zero, List.eraseIdx_cons_zero, List.eraseIdx_cons_succ, List.setIfInBounds_toArray, List.tail_cons] at h
    replace h := h.del 3 at3
    try simp only [List.set_cons_zero, List.set_cons_succ, List.eraseIdx_zero, List.eraseIdx_cons_zero, List.eraseIdx_cons_succ, List.setIfInBounds_toArray, List.tail_cons] at h
    replace h := h.del 3 at3
    try simp only [List.set_cons_zero, List.set_cons_succ, List.eraseIdx_zero, List.eraseIdx_cons_zero, List.eraseIdx_cons_succ, List.setIfInBounds_toArray, List.tail_cons] at h
    refine link_Packets_spec (hokb.mono (by decide)) h fun p10 w h => ?_
    have hpk : (LinkD.mk 2 9 1 1 S []).packets = S.zipIdx.map fun x => ⟨2, 9, 1 + x.2, 0, x.1⟩ := by
      unfold LinkD.packets; rw [if_neg (by simp)]; rfl
    rw [hpk] at h
    have hpl := PkR.len h
    simp only [List.length_map, List.length_zipIdx] at hpl
    obtain ⟨ls, hls, h⟩ := PkR.opens h
    have hln : ls.length = S.length := by have := congrArg List.length hls; simpa using this
    refine r_new h ?_
    clear h
    intro t65 w h
    try simp only [add_mk, Nat.zero_add, Nat.reduceAdd]
    refine r_ite_f (by simp only [decide_eq_false_iff_not]; omega) ?_
    replace h := BsR.empty h
    replace h := h.pick 5 at5
    try simp only [List.set_cons_zero, List.set_cons_succ, List.eraseIdx_zero, List.eraseIdx_cons_zero, List.eraseIdx_cons_succ, List.setIfInBounds_toArray, List.tail_cons] at h
    replace h := h.pick 3 at3
    try simp only [List.set_cons_zero, List.set_cons_succ, List.eraseIdx_zero, List.eraseIdx_cons_zero, List.eraseIdx_cons_succ, List.setIfInBounds_toArray, List.tail_cons] at h
    replace h := h.pick 3 at3
    try simp only [List.set_cons_zero, List.set_cons_succ, List.eraseIdx_zero, List.eraseIdx_cons_zero, List.eraseIdx_cons_succ, List.setIfInBounds_toArray, List.tail_cons] at h
    replace h := h.pick 5 at5
    try simp only [List.set_cons_zero, List.set_cons_succ, List.eraseIdx_zero, List.eraseIdx_cons_zero, List.eraseIdx_cons_succ, List.setIfInBounds_toArray, List.tail_cons] at h
    replace h := h.pick 4 at4
    try simp only [List.set_cons_zero, List.set_cons_succ, List.eraseIdx_zero, List.eraseIdx_cons_zero, List.eraseIdx_cons_succ, List.setIfInBounds_toArray, List.tail_cons] at h
    replace h := h.del 5 at5
    try simp only [List.set_cons_zero, List.set_cons_succ, List.eraseIdx_zero, List.eraseIdx_cons_zero, List.eraseIdx_cons_succ, List.setIfInBounds_toArray, List.tail_cons] at h
    have hat : ∀ (i : Nat) (y : PacketD × Sl), ls[i]? = some y → ∃ x, S[i]? = some x ∧ y.1 = ⟨2, 9, 1 + i, 0, x⟩ := by
      intro i y hy
      have := congrArg (·[i]?) hls
      simp only [List.getElem?_map, hy, Option.map_some] at this
      cases hSi : S[i]? with
      | none => simp [hSi] at this
      | some x =>
        refine ⟨x, rfl, ?_⟩
        have h3 : S.zipIdx[i]? = some (x, i) := by simp [List.getElem?_zipIdx, hSi]
        rw [h3] at this
        simpa using this
    have h0 : againI S [] ⟨9, 2, 1, 1, [], []⟩ 0 := ⟨rfl, rfl, rfl, rfl, ⟨by simp, by simp, by simp, ⟨by simp, by simp⟩, rfl⟩, ⟨by simp, by simp, by simp, by simp, by simp, by simp⟩, by simp⟩
    refine LoopK.of (α := Sl × Int) (fun t w => ∃ (i : Nat) (d : LinkD) (got : List (List UInt8)), t.2 = (i : Int) ∧ i ≤ C.length + S.length ∧ againI S got d i ∧ (∀ q : Nat, q + C.length < i → hasCome d (1 + q)) ∧
        Holds B (BsR t.1 got :: LinkR b d :: SlC ty_api_Packet 5 p10 (ls.flatMap pkF) :: stars (ls.map pkB) :: SlC ty_s_uint8 1 sent (sl.map bsV) :: Γ) w)
      (fun t _ => ((C.length + S.length : Int) - t.2).toNat) ⟨0, _, [], rfl, by omega, h0, by omega, h⟩ ?_
    clear h h0
    rintro ⟨got, t⟩ w ⟨i, d, gl, ht, hi, hI, hcome, h⟩
    simp only at ht h
    subst ht
    dsimp only
    have hfew := hI.few
    unfold law19_LinkAgain.b5
    refine r_add64 (by omega) (by omega) ?_
    refine r_ite (fun hb => ?_) (fun hb => ?_)
    · simp only [decide_eq_true_eq] at hb
      -- one step, at a number that may lie outside
      have step : ∀ q : Int, (C.length ≤ i → q = i - C.length) → law19_LinkAgain.s7 k (fun _ _ _ => True) (fun g t w' => (∃ (i : Nat) (d : LinkD) (got : List (List UInt8)), t = (i : Int) ∧ i ≤ C.length + S.length ∧ againI S got d i ∧ (∀ q : Nat, q + C.length < i → hasCome d (1 + q)) ∧
        Holds B (BsR g got :: LinkR b d :: SlC ty_api_Packet 5 p10 (ls.flatMap pkF) :: stars (ls.map pkB) :: SlC ty_s_uint8 1 sent (sl.map bsV) :: Γ) w') ∧ ((C.length + S.length : Int) - t).toNat < ((C.length + S.length : Int) - (i : Int)).toNat) c (some ⟨b, 0, none⟩) sent p10 got i q w := by
        intro q hq
        unfold law19_LinkAgain.s7 law19_LinkAgain.s8 law19_LinkAgain.s6
        have skip : ¬ (0 ≤ q ∧ q < (p10.n : Int)) → Ar (IntKind.wrap .i64 ((i : Int) + 1)) (fun t w' => (∃ (i : Nat) (d : LinkD) (g : List (List UInt8)), t = (i : Int) ∧ i ≤ C.length + S.length ∧ againI S g d i ∧ (∀ q : Nat, q + C.length < i → hasCome d (1 + q)) ∧
            Holds B (BsR got g :: LinkR b d :: SlC ty_api_Packet 5 p10 (ls.flatMap pkF) :: stars (ls.map pkB) :: SlC ty_s_uint8 1 sent (sl.map bsV) :: Γ) w') ∧ ((C.length + S.length : Int) - t).toNat < ((C.length + S.length : Int) - (i : Int)).toNat) w := by
          intro hno
          refine r_add64 (by omega) (by omega) ?_
          refine ⟨⟨i + 1, d, gl, by omega, by omega, ⟨hI.ep, hI.pe, hI.ba, hI.out, hI.ai, hI.ok.mono (by omega), by omega⟩, fun q' hq' => ?_, h⟩, by omega⟩
          by_cases hci : C.length ≤ i
          · have := hq hci
            omega
          · omega
        refine r_ite (fun hq0 => ?_) (fun hq0 => ?_)
        · simp only [decide_eq_true_eq] at hq0
          exact r_ite_t rfl (skip (by omega))
        · simp only [decide_eq_false_iff_not] at hq0
          refine r_ite (fun hq1 => ?_) (fun hq1 => ?_)
          · simp only [decide_eq_true_eq] at hq1
            exact skip (by omega)
          · simp only [decide_eq_false_iff_not] at hq1
            obtain ⟨n, rfl⟩ := Int.eq_ofNat_of_zero_le (show 0 ≤ q by omega)
            have hnl : n < ls.length := by omega
            have hy : ls[n]? = some ls[n] := List.getElem?_eq_getElem hnl
            generalize ls[n] = y at hy
            obtain ⟨x, hSx1, hyx⟩ := hat n y hy
            obtain ⟨g1, g2, g3⟩ := hI.recv (by omega) hSx1
            refine r_idxN pkF pkF_len (by decide) (h.rdC (List.mem_cons_of_mem _ (List.mem_cons_of_mem _ List.mem_cons_self))) hy (cs := pkV y.1 y.2) rfl fun t102 => ?_
            refine link_Receive_spec (p := y.1) (data := y.2) (hI.ok.mono (by omega)) (by omega) (by rw [hyx]; have := hSx x (List.mem_of_getElem? hSx1); simp only; omega) (by rw [hyx]; simp only; omega) (by rw [hyx]; simp only; omega) h.swap
              (fun w h => stars_rd (f := pkB) 2 h rfl (List.mem_of_getElem? hy) rfl) fun c2 a2 w h => ?_
            rw [hyx] at h
            replace h := h.pick 6 at6
            try simp only [List.set_cons_zero, List.set_cons_succ, List.eraseIdx_zero, List.eraseIdx_cons_zero, List.eraseIdx_cons_succ, List.setIfInBounds_toArray, List.tail_cons] at h
            replace h := h.pick 6 at6
            try simp only [List.set_cons_zero, List.set_cons_succ, List.eraseIdx_zero, List.eraseIdx_cons_zero, List.eraseIdx_cons_succ, List.setIfInBounds_toArray, List.tail_cons] at h
            replace h := h.pick 6 at6
            try simp only [List.set_cons_zero, List.set_cons_succ, List.eraseIdx_zero, List.eraseIdx_cons_zero, List.eraseIdx_cons_succ, List.setIfInBounds_toArray, List.tail_cons] at h
            replace h := h.pick 5 at5
            try simp only [List.set_cons_zero, List.set_cons_succ, List.eraseIdx_zero, List.eraseIdx_cons_zero, List.eraseIdx_cons_succ, List.setIfInBounds_toArray, List.tail_cons] at h
            replace h := h.pick 4 at4
            try simp only [List.set_cons_zero, List.set_cons_succ, List.eraseIdx_zero, List.eraseIdx_cons_zero, List.eraseIdx_cons_succ, List.setIfInBounds_toArray, List.tail_cons] at h
            replace h := h.pick 6 at6
            try simp only [List.set_cons_zero, List.set_cons_succ, List.eraseIdx_zero, List.eraseIdx_cons_zero, List.eraseIdx_cons_succ, List.setIfInBounds_toArray, List.tail_cons] at h
            replace h := h.del 6 at6
            try simp only [List.set_cons_zero, List.set_cons_succ, List.eraseIdx_zero, List.eraseIdx_cons_zero, List.eraseIdx_cons_succ, List.setIfInBounds_toArray, List.tail_cons] at h
            have hgl : gl.length ≤ S.length := by rw [hI.ai.got]; simp; omega
            have hgl2 := congrArg List.length g1.ai.got
            rw [List.length_append, List.length_take] at hgl2
            refine r_appBs h (by omega) fun g' w h => ?_
            refine r_add64 (by omega) (by omega) ?_
            refine ⟨⟨i + 1, _, _, by omega, by omega, g1, fun q' hq' => ?_, h⟩, by omega⟩
            by_cases hci : C.length ≤ i
            · have := hq hci
              by_cases hqn : q' = n
              · subst hqn; exact g3
              · exact g2 _ (hcome q' (by omega))
            · omega
      refine r_add64 (by omega) (by omega) ?_
      refine r_ite (fun hb3 => ?_) (fun hb3 => ?_)
      · simp only [decide_eq_true_eq] at hb3
        have hic : i < C.length := by omega
        refine r_idx1 (x := C[i]) (hc.old h) (List.getElem?_eq_getElem hic) ?_
        have := step C[i] (fun hh => by omega)
        unfold law19_LinkAgain.s7 law19_LinkAgain.s8 law19_LinkAgain.s6 at this ⊢
        exact this
      · simp only [decide_eq_false_iff_not] at hb3
        have := step ((i : Int) - (c.n : Int)) (fun hh => by omega)
        unfold law19_LinkAgain.s7 law19_LinkAgain.s8 law19_LinkAgain.s6 at this ⊢
        exact this
    · simp only [decide_eq_false_iff_not] at hb
      have hiC : i = C.length + S.length := by omega
      obtain ⟨hgS, hex, _⟩ := hI.ai.all (fun q hq1 hq2 => by
        have := hcome (q - 1).toNat (by omega)
        rwa [show (1 : Int) + ((q - 1).toNat : Nat) = q by omega] at this)
      rw [hgS] at h hI
      refine LoopK.of (fun t w => ∃ (j : Nat) (d : LinkD), t = (j : Int) ∧ j ≤ ls.length ∧ againI S S d (i + j) ∧ d.ex = S.length + 1 ∧
          Holds B (BsR got S :: LinkR b d :: SlC ty_api_Packet 5 p10 (ls.flatMap pkF) :: stars (ls.map pkB) :: SlC ty_s_uint8 1 sent (sl.map bsV) :: Γ) w)
        (fun t _ => ((p10.n : Int) - t).toNat) ⟨0, d, rfl, by omega, hI, by omega, h⟩ ?_
      clear h hI hcome hex
      rintro t w ⟨j, d, rfl, hj, hI, hex, h⟩
      unfold law19_LinkAgain.b9
      refine r_ite (fun hb => ?_) (fun hb => ?_)
      · simp only [decide_eq_true_eq] at hb
        have hjl : j < ls.length := by omega
        have hy : ls[j]? = some ls[j] := List.getElem?_eq_getElem hjl
        generalize ls[j] = y at hy
        obtain ⟨x, hSx1, hyx⟩ := hat j y hy
        obtain ⟨g1, g2, g3⟩ := hI.recv (by omega) hSx1
        have hfew := hI.few
        refine r_idxN pkF pkF_len (by decide) (h.rdC (List.mem_cons_of_mem _ (List.mem_cons_of_mem _ List.mem_cons_self))) hy (cs := pkV y.1 y.2) rfl fun t114 => ?_
        refine r_new h ?_
        clear h
        intro p17 w h
        try simp only [add_mk, Nat.zero_add, Nat.reduceAdd]
        first | refine r_stN 0 h rfl (by with_reducible exact at0) ?_ ?_ (fun _ _ => nofz _) ?_ ?_ | refine r_stN 1 h rfl (by with_reducible exact at1) ?_ ?_ (fun _ _ => nofz _) ?_ ?_ | refine r_stN 2 h rfl (by with_reducible exact at2) ?_ ?_ (fun _ _ => nofz _) ?_ ?_ | refine r_stN 3 h rfl (by with_reducible exact at3) ?_ ?_ (fun _ _ => nofz _) ?_ ?_ | refine r_stN 4 h rfl (by with_reducible exact at4) ?_ ?_ (fun _ _ => nofz _) ?_ ?_ | refine r_stN 5 h rfl (by with_reducible exact at5) ?_ ?_ (fun _ _ => nofz _) ?_ ?_ | refine r_stN 6 h rfl (by with_reducible exact at6) ?_ ?_ (fun _ _ => nofz _) ?_ ?_ | refine r_stN 7 h rfl (by with_reducible exact at7) ?_ ?_ (fun _ _ => nofz _) ?_ ?_
        · rfl
        · rfl
        · simp [flatV]
        clear h
        intro w h
        try simp only [List.set_cons_zero, List.set_cons_succ, List.eraseIdx_zero, List.eraseIdx_cons_zero, List.eraseIdx_cons_succ, List.setIfInBounds_toArray, List.tail_cons] at h
        refine r_ldN h rfl (by first | (with_reducible exact List.mem_cons_self) | (with_reducible exact List.mem_cons_of_mem _ (List.mem_cons_self)) | (with_reducible exact List.mem_cons_of_mem _ (List.mem_cons_of_mem _ (List.mem_cons_self))) | (with_reducible exact List.mem_cons_of_mem _ (List.mem_cons_of_mem _ (List.mem_cons_of_mem _ (List.mem_cons_self)))) | (with_reducible exact List.mem_cons_of_mem _ (List.mem_cons_of_mem _ (List.mem_cons_of_mem _ (List.mem_cons_of_mem _ (List.mem_cons_self))))) | (with_reducible exact List.mem_cons_of_mem _ (List.mem_cons_of_mem _ (List.mem_cons_of_mem _ (List.mem_cons_of_mem _ (List.mem_cons_of_mem _ (List.mem_cons_self)))))) | (with_reducible exact List.mem_cons_of_mem _ (List.mem_cons_of_mem _ (List.mem_cons_of_mem _ (List.mem_cons_of_mem _ (List.mem_cons_of_mem _ (List.mem_cons_of_mem _ (List.mem_cons_self))))))) | (with_reducible exact List.mem_cons_of_mem _ (List.mem_cons_of_mem _ (List.mem_cons_of_mem _ (List.mem_cons_of_mem _ (List.mem_cons_of_mem _ (List.mem_cons_of_mem _ (List.mem_cons_of_mem _ (List.mem_cons_self)))))))) | (with_reducible exact List.mem_cons_of_mem _ (List.mem_cons_of_mem _ (List.mem_cons_of_mem _ (List.mem_cons_of_mem _ (List.mem_cons_of_mem _ (List.mem_cons_of_mem _ (List.mem_cons_of_mem _ (List.mem_cons_of_mem _ (List.mem_cons_self)))))))))) ?_ ?_
        · rfl
        refine link_Receive_spec (p := y.1) (data := y.2) (hI.ok.mono (by omega)) (by omega) (by rw [hyx]; have := hSx x (List.mem_of_getElem? hSx1); simp only; omega) (by rw [hyx]; simp only; omega) (by rw [hyx]; simp only; omega) (h.pick 2 at2)
          (fun w h => stars_rd (f := pkB) 3 h rfl (List.mem_of_getElem? hy) rfl) fun c2 a2 w h => ?_
        rw [hyx] at h
        have hcl := BsR.len h
        have hgot := g1.ai.got
        have hz : (d.receive ⟨2, 9, 1 + j, 0, x⟩).2.1 = [] := by
          have h5 := congrArg List.length hgot
          rw [List.length_append, List.length_take] at h5
          exact List.length_eq_zero_iff.1 (by omega)
        rw [hz] at hcl g1
        simp only [List.length_nil, List.append_nil] at hcl g1
        have hex2 : (d.receive ⟨2, 9, 1 + j, 0, x⟩).1.ex = S.length + 1 := by
          have h5 := congrArg List.length g1.ai.got
          rw [List.length_take] at h5
          have := g1.ai.top
          have := g1.ai.ex1
          omega
        refine r_ite_f (by rw [hcl]; simp) ?_
        refine r_add64 (by omega) (by omega) ?_
        try simp only [List.set_cons_zero, List.set_cons_succ, List.eraseIdx_zero, List.eraseIdx_cons_zero, List.eraseIdx_cons_succ, List.setIfInBounds_toArray, List.tail_cons] at h
        replace h := h.pick 7 at7
        try simp only [List.set_cons_zero, List.set_cons_succ, List.eraseIdx_zero, List.eraseIdx_cons_zero, List.eraseIdx_cons_succ, List.setIfInBounds_toArray, List.tail_cons] at h
        replace h := h.pick 7 at7
        try simp only [List.set_cons_zero, List.set_cons_succ, List.eraseIdx_zero, List.eraseIdx_cons_zero, List.eraseIdx_cons_succ, List.setIfInBounds_toArray, List.tail_cons] at h
        replace h := h.pick 7 at7
        try simp only [List.set_cons_zero, List.set_cons_succ, List.eraseIdx_zero, List.eraseIdx_cons_zero, List.eraseIdx_cons_succ, List.setIfInBounds_toArray, List.tail_cons] at h
        replace h := h.pick 5 at5
        try simp only [List.set_cons_zero, List.set_cons_succ, List.eraseIdx_zero, List.eraseIdx_cons_zero, List.eraseIdx_cons_succ, List.setIfInBounds_toArray, List.tail_cons] at h
        replace h := h.pick 7 at7
        try simp only [List.set_cons_zero, List.set_cons_succ, List.eraseIdx_zero, List.eraseIdx_cons_zero, List.eraseIdx_cons_succ, List.setIfInBounds_toArray, List.tail_cons] at h
        replace h := h.del 5 at5
        try simp only [List.set_cons_zero, List.set_cons_succ, List.eraseIdx_zero, List.eraseIdx_cons_zero, List.eraseIdx_cons_succ, List.setIfInBounds_toArray, List.tail_cons] at h
        replace h := h.del 5 at5
        try simp only [List.set_cons_zero, List.set_cons_succ, List.eraseIdx_zero, List.eraseIdx_cons_zero, List.eraseIdx_cons_succ, List.setIfInBounds_toArray, List.tail_cons] at h
        replace h := h.del 5 at5
        try simp only [List.set_cons_zero, List.set_cons_succ, List.eraseIdx_zero, List.eraseIdx_cons_zero, List.eraseIdx_cons_succ, List.setIfInBounds_toArray, List.tail_cons] at h
        exact ⟨⟨j + 1, _, by omega, by omega, g1, hex2, h⟩, by omega⟩
      · obtain ⟨gls, hgls, h⟩ := BsR.opens h
        refine SameData_spec (la := gls) (lb := sl) (by have := congrArg List.length hgls; simp at this; omega) h (fun w h => h.rdC List.mem_cons_self) (fun w h => h.rdC (List.mem_cons_of_mem _ (List.mem_cons_of_mem _ (List.mem_cons_of_mem _ (List.mem_cons_of_mem _ (List.mem_cons_of_mem _ List.mem_cons_self))))))
          (fun x hx w h => stars_rd (f := bsB) 1 h rfl hx rfl) (fun x hx w h => (hsx x hx).1.old h) fun w h => ?_
        rw [hgls, hS, decide_eq_true rfl]
        exact hk _ h.tail.tail.tail.tail.tail.tail
end
end Go.Proofs.Ytilejcnbacmdnaa

namespace Go.Proofs.Ytilejcnbacmdnaa
open Go Go.Sep Go.RowKit
theorem LinkAgain_walk (W : World) (s : Sl) (y0 : Rdy W Sh_ty_s_s_uint8 (Sl.val s).cells.toList) (d : Sl) (y1 : Rdy W Sh_ty_s_int (Sl.val d).cells.toList) :
    Calls Try.prog 7 #[s.val, d.val] W (Ret fun v w' => v = .bool true ∧ Below W.heap.size W w') := by
  obtain ⟨h1, h2⟩ := rdy_sl y0
  obtain ⟨L, _, hL, hd⟩ := rd_list (fun x : BS => [bsV x]) (fun x => RdB W x.2 x.1) (fun _ => rfl) h1 h2 fun cs hc hr => by
    obtain ⟨s, e, _, _, g1, g2⟩ := hr
    subst e
    obtain ⟨xs, _, h3⟩ := rd_bytes g1 g2
    exact ⟨(xs, s), rfl, h3⟩
  rw [flat1] at hL
  obtain ⟨D, hD, _⟩ := rdy_ints y1
  exact law_call (law19_LinkAgain_spec hL hd hD (Holds.start W) fun w h => ⟨rfl, h⟩)
end Go.Proofs.Ytilejcnbacmdnaa
