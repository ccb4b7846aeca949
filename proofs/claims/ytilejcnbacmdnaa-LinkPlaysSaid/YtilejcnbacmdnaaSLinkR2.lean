/- The document's side of a link: Packets, Receive. -/
import Derived.Test.YtilejcnbacmdnaaSLinkR
namespace Go.Proofs.Ytilejcnbacmdnaa
open Go Go.Sep
set_option linter.unusedSimpArgs false
set_option linter.unusedVariables false
set_option maxRecDepth 100000
section
variable {B w : World} {Γ : List HProp}

theorem rlink_Packets_spec {b : Nat} {d : LinkD} {so sx : Sl} {outs : List BS} {es : List (Int × BS)} {k : Sl → K} (hok : d.ok 1000000000000) (h1 : outs.map Prod.fst = d.out)
    (h : Holds B (blk b (.cells (rlA d so sx) ty_argosyref19_Link (0, 0)) :: SlC ty_s_uint8 1 so (outs.map bsV) :: stars (outs.map bsB) :: SlC ty_argosyref19_Early 2 sx (es.flatMap earF) :: stars (es.map earB) :: Γ) w)
    (hk : ∀ (s : Sl) (ls : List (PacketD × Sl)) w, ls.map Prod.fst = d.packets → (∀ y ∈ ls, (y.2 = ⟨none, 0, 0⟩ ∧ y.1.da = []) ∨ ∃ x ∈ outs, y.2 = x.2 ∧ y.1.da = x.1) →
      Holds B (SlC ty_api_Packet 5 s (ls.flatMap pkF) :: blk b (.cells (rlA d so sx) ty_argosyref19_Link (0, 0)) :: SlC ty_s_uint8 1 so (outs.map bsV) :: stars (outs.map bsB) :: SlC ty_argosyref19_Early 2 sx (es.flatMap earF) :: stars (es.map earB) :: Γ) w → k s w) :
    ref19_Link_Packets.call (some ⟨b, 0, none⟩) k w := by
  obtain ⟨hba1, hbaN, hex1, hexN, hsz, hfew⟩ := hok
  refine ref19_Link_Packets_ok _ _ _ ?_
  unfold ref19_Link_Packets
  refine r_new h ?_
  clear h
  intro t5 w h
  try simp only [add_mk, Nat.zero_add, Nat.reduceAdd]
  refine r_nn rfl ?_
  simp only [add_mk, Nat.zero_add]
  have hn := h.tail.tail.slCap.1
  have hd := congrArg List.length h1
  simp only [List.length_map, Nat.mul_one] at hn hd
  have key : ¬ (d.out ≠ [] ∧ d.pe = 0) → ref19_Link_Packets.s1 k (some ⟨b, 0, none⟩) (Sl.mk (some ⟨t5, 0, none⟩) 0 0) false w := by
    intro hne
    have hp : d.packets = pksOf d d.out := by unfold LinkD.packets pksOf; rw [if_neg hne]
    unfold ref19_Link_Packets.s1
    refine r_ite_f rfl ?_
    have h0 : Holds B (SlC ty_api_Packet 5 ⟨some ⟨t5, 0, none⟩, 0, 0⟩ (([] : List (PacketD × Sl)).flatMap pkF) :: blk b (.cells (rlA d so sx) ty_argosyref19_Link (0, 0)) :: SlC ty_s_uint8 1 so (outs.map bsV) :: stars (outs.map bsB) :: SlC ty_argosyref19_Early 2 sx (es.flatMap earF) :: stars (es.map earB) :: Γ) w := h.imp (blk_SlC rfl rfl)
    clear h
    refine LoopK.of (α := Sl × Int) (fun t w => ∃ j : Nat, t.2 = (j : Int) ∧ j ≤ outs.length ∧ ∃ ls : List (PacketD × Sl), ls.map Prod.fst = pksOf d (d.out.take j) ∧ (∀ y ∈ ls, (y.2 = ⟨none, 0, 0⟩ ∧ y.1.da = []) ∨ ∃ x ∈ outs, y.2 = x.2 ∧ y.1.da = x.1) ∧
        Holds B (SlC ty_api_Packet 5 t.1 (ls.flatMap pkF) :: blk b (.cells (rlA d so sx) ty_argosyref19_Link (0, 0)) :: SlC ty_s_uint8 1 so (outs.map bsV) :: stars (outs.map bsB) :: SlC ty_argosyref19_Early 2 sx (es.flatMap earF) :: stars (es.map earB) :: Γ) w)
      (fun t _ => ((so.n : Int) - t.2).toNat) ⟨0, rfl, by omega, [], rfl, by simp, h0⟩ ?_
    clear h0
    rintro ⟨o2, t⟩ w ⟨j, ht, hj, ls, hls, hly, h⟩
    simp only at ht h
    subst ht
    dsimp only
    have hlsn : ls.length = j := by
      have := congrArg List.length hls
      simp [pksOf] at this; omega
    have hon : o2.n = j := by
      have := h.slCap.1
      rw [flatMap_len pkF 5 pkF_len] at this
      omega
    unfold ref19_Link_Packets.b2
    refine r_nn rfl ?_
    simp only [add_mk, Nat.zero_add]
    refine r_ld (x := so) h rfl (by first | (with_reducible exact List.mem_cons_self) | (with_reducible exact List.mem_cons_of_mem _ (List.mem_cons_self)) | (with_reducible exact List.mem_cons_of_mem _ (List.mem_cons_of_mem _ (List.mem_cons_self))) | (with_reducible exact List.mem_cons_of_mem _ (List.mem_cons_of_mem _ (List.mem_cons_of_mem _ (List.mem_cons_self)))) | (with_reducible exact List.mem_cons_of_mem _ (List.mem_cons_of_mem _ (List.mem_cons_of_mem _ (List.mem_cons_of_mem _ (List.mem_cons_self))))) | (with_reducible exact List.mem_cons_of_mem _ (List.mem_cons_of_mem _ (List.mem_cons_of_mem _ (List.mem_cons_of_mem _ (List.mem_cons_of_mem _ (List.mem_cons_self)))))) | (with_reducible exact List.mem_cons_of_mem _ (List.mem_cons_of_mem _ (List.mem_cons_of_mem _ (List.mem_cons_of_mem _ (List.mem_cons_of_mem _ (List.mem_cons_of_mem _ (List.mem_cons_self))))))) | (with_reducible exact List.mem_cons_of_mem _ (List.mem_cons_of_mem _ (List.mem_cons_of_mem _ (List.mem_cons_of_mem _ (List.mem_cons_of_mem _ (List.mem_cons_of_mem _ (List.mem_cons_of_mem _ (List.mem_cons_self)))))))) | (with_reducible exact List.mem_cons_of_mem _ (List.mem_cons_of_mem _ (List.mem_cons_of_mem _ (List.mem_cons_of_mem _ (List.mem_cons_of_mem _ (List.mem_cons_of_mem _ (List.mem_cons_of_mem _ (List.mem_cons_of_mem _ (List.mem_cons_self)))))))))) ?_ ?_
    · exact rfl
    refine r_ite (fun hb => ?_) (fun hb => ?_)
    · simp only [decide_eq_true_eq] at hb
      have hjl : j < outs.length := by omega
      have hx : outs[j]? = some outs[j] := List.getElem?_eq_getElem hjl
      generalize outs[j] = x at hx
      have hdo : d.out[j]? = some x.1 := by rw [← h1, List.getElem?_map, hx]; rfl
      refine r_dr h ?_
      clear h
      intro w h
      refine r_ar (wrapU64 (by omega) (by omega)) ?_
      refine r_ld (x := d.ep) h rfl (by first | (with_reducible exact List.mem_cons_self) | (with_reducible exact List.mem_cons_of_mem _ (List.mem_cons_self)) | (with_reducible exact List.mem_cons_of_mem _ (List.mem_cons_of_mem _ (List.mem_cons_self))) | (with_reducible exact List.mem_cons_of_mem _ (List.mem_cons_of_mem _ (List.mem_cons_of_mem _ (List.mem_cons_self)))) | (with_reducible exact List.mem_cons_of_mem _ (List.mem_cons_of_mem _ (List.mem_cons_of_mem _ (List.mem_cons_of_mem _ (List.mem_cons_self))))) | (with_reducible exact List.mem_cons_of_mem _ (List.mem_cons_of_mem _ (List.mem_cons_of_mem _ (List.mem_cons_of_mem _ (List.mem_cons_of_mem _ (List.mem_cons_self)))))) | (with_reducible exact List.mem_cons_of_mem _ (List.mem_cons_of_mem _ (List.mem_cons_of_mem _ (List.mem_cons_of_mem _ (List.mem_cons_of_mem _ (List.mem_cons_of_mem _ (List.mem_cons_self))))))) | (with_reducible exact List.mem_cons_of_mem _ (List.mem_cons_of_mem _ (List.mem_cons_of_mem _ (List.mem_cons_of_mem _ (List.mem_cons_of_mem _ (List.mem_cons_of_mem _ (List.mem_cons_of_mem _ (List.mem_cons_self)))))))) | (with_reducible exact List.mem_cons_of_mem _ (List.mem_cons_of_mem _ (List.mem_cons_of_mem _ (List.mem_cons_of_mem _ (List.mem_cons_of_mem _ (List.mem_cons_of_mem _ (List.mem_cons_of_mem _ (List.mem_cons_of_mem _ (List.mem_cons_self)))))))))) ?_ ?_
      · exact rfl
      refine r_ld (x := d.pe) h rfl (by first | (with_reducible exact List.mem_cons_self) | (with_reducible exact List.mem_cons_of_mem _ (List.mem_cons_self)) | (with_reducible exact List.mem_cons_of_mem _ (List.mem_cons_of_mem _ (List.mem_cons_self))) | (with_reducible exact List.mem_cons_of_mem _ (List.mem_cons_of_mem _ (List.mem_cons_of_mem _ (List.mem_cons_self)))) | (with_reducible exact List.mem_cons_of_mem _ (List.mem_cons_of_mem _ (List.mem_cons_of_mem _ (List.mem_cons_of_mem _ (List.mem_cons_self))))) | (with_reducible exact List.mem_cons_of_mem _ (List.mem_cons_of_mem _ (List.mem_cons_of_mem _ (List.mem_cons_of_mem _ (List.mem_cons_of_mem _ (List.mem_cons_self)))))) | (with_reducible exact List.mem_cons_of_mem _ (List.mem_cons_of_mem _ (List.mem_cons_of_mem _ (List.mem_cons_of_mem _ (List.mem_cons_of_mem _ (List.mem_cons_of_mem _ (List.mem_cons_self))))))) | (with_reducible exact List.mem_cons_of_mem _ (List.mem_cons_of_mem _ (List.mem_cons_of_mem _ (List.mem_cons_of_mem _ (List.mem_cons_of_mem _ (List.mem_cons_of_mem _ (List.mem_cons_of_mem _ (List.mem_cons_self)))))))) | (with_reducible exact List.mem_cons_of_mem _ (List.mem_cons_of_mem _ (List.mem_cons_of_mem _ (List.mem_cons_of_mem _ (List.mem_cons_of_mem _ (List.mem_cons_of_mem _ (List.mem_cons_of_mem _ (List.mem_cons_of_mem _ (List.mem_cons_self)))))))))) ?_ ?_
      · exact rfl
      refine r_ld (x := d.ba) h rfl (by first | (with_reducible exact List.mem_cons_self) | (with_reducible exact List.mem_cons_of_mem _ (List.mem_cons_self)) | (with_reducible exact List.mem_cons_of_mem _ (List.mem_cons_of_mem _ (List.mem_cons_self))) | (with_reducible exact List.mem_cons_of_mem _ (List.mem_cons_of_mem _ (List.mem_cons_of_mem _ (List.mem_cons_self)))) | (with_reducible exact List.mem_cons_of_mem _ (List.mem_cons_of_mem _ (List.mem_cons_of_mem _ (List.mem_cons_of_mem _ (List.mem_cons_self))))) | (with_reducible exact List.mem_cons_of_mem _ (List.mem_cons_of_mem _ (List.mem_cons_of_mem _ (List.mem_cons_of_mem _ (List.mem_cons_of_mem _ (List.mem_cons_self)))))) | (with_reducible exact List.mem_cons_of_mem _ (List.mem_cons_of_mem _ (List.mem_cons_of_mem _ (List.mem_cons_of_mem _ (List.mem_cons_of_mem _ (List.mem_cons_of_mem _ (List.mem_cons_self))))))) | (with_reducible exact List.mem_cons_of_mem _ (List.mem_cons_of_mem _ (List.mem_cons_of_mem _ (List.mem_cons_of_mem _ (List.mem_cons_of_mem _ (List.mem_cons_of_mem _ (List.mem_cons_of_mem _ (List.mem_cons_self)))))))) | (with_reducible exact List.mem_cons_of_mem _ (List.mem_cons_of_mem _ (List.mem_cons_of_mem _ (List.mem_cons_of_mem _ (List.mem_cons_of_mem _ (List.mem_cons_of_mem _ (List.mem_cons_of_mem _ (List.mem_cons_of_mem _ (List.mem_cons_self)))))))))) ?_ ?_
      · exact rfl
      refine r_ar (wrapU64 (by omega) (by omega)) ?_
      refine r_ld (x := d.ex) h rfl (by first | (with_reducible exact List.mem_cons_self) | (with_reducible exact List.mem_cons_of_mem _ (List.mem_cons_self)) | (with_reducible exact List.mem_cons_of_mem _ (List.mem_cons_of_mem _ (List.mem_cons_self))) | (with_reducible exact List.mem_cons_of_mem _ (List.mem_cons_of_mem _ (List.mem_cons_of_mem _ (List.mem_cons_self)))) | (with_reducible exact List.mem_cons_of_mem _ (List.mem_cons_of_mem _ (List.mem_cons_of_mem _ (List.mem_cons_of_mem _ (List.mem_cons_self))))) | (with_reducible exact List.mem_cons_of_mem _ (List.mem_cons_of_mem _ (List.mem_cons_of_mem _ (List.mem_cons_of_mem _ (List.mem_cons_of_mem _ (List.mem_cons_self)))))) | (with_reducible exact List.mem_cons_of_mem _ (List.mem_cons_of_mem _ (List.mem_cons_of_mem _ (List.mem_cons_of_mem _ (List.mem_cons_of_mem _ (List.mem_cons_of_mem _ (List.mem_cons_self))))))) | (with_reducible exact List.mem_cons_of_mem _ (List.mem_cons_of_mem _ (List.mem_cons_of_mem _ (List.mem_cons_of_mem _ (List.mem_cons_of_mem _ (List.mem_cons_of_mem _ (List.mem_cons_of_mem _ (List.mem_cons_self)))))))) | (with_reducible exact List.mem_cons_of_mem _ (List.mem_cons_of_mem _ (List.mem_cons_of_mem _ (List.mem_cons_of_mem _ (List.mem_cons_of_mem _ (List.mem_cons_of_mem _ (List.mem_cons_of_mem _ (List.mem_cons_of_mem _ (List.mem_cons_self)))))))))) ?_ ?_
      · exact rfl
      refine r_ar (wrapU64 (by omega) (by omega)) ?_
      refine r_ld (x := so) h rfl (by first | (with_reducible exact List.mem_cons_self) | (with_reducible exact List.mem_cons_of_mem _ (List.mem_cons_self)) | (with_reducible exact List.mem_cons_of_mem _ (List.mem_cons_of_mem _ (List.mem_cons_self))) | (with_reducible exact List.mem_cons_of_mem _ (List.mem_cons_of_mem _ (List.mem_cons_of_mem _ (List.mem_cons_self)))) | (with_reducible exact List.mem_cons_of_mem _ (List.mem_cons_of_mem _ (List.mem_cons_of_mem _ (List.mem_cons_of_mem _ (List.mem_cons_self))))) | (with_reducible exact List.mem_cons_of_mem _ (List.mem_cons_of_mem _ (List.mem_cons_of_mem _ (List.mem_cons_of_mem _ (List.mem_cons_of_mem _ (List.mem_cons_self)))))) | (with_reducible exact List.mem_cons_of_mem _ (List.mem_cons_of_mem _ (List.mem_cons_of_mem _ (List.mem_cons_of_mem _ (List.mem_cons_of_mem _ (List.mem_cons_of_mem _ (List.mem_cons_self))))))) | (with_reducible exact List.mem_cons_of_mem _ (List.mem_cons_of_mem _ (List.mem_cons_of_mem _ (List.mem_cons_of_mem _ (List.mem_cons_of_mem _ (List.mem_cons_of_mem _ (List.mem_cons_of_mem _ (List.mem_cons_self)))))))) | (with_reducible exact List.mem_cons_of_mem _ (List.mem_cons_of_mem _ (List.mem_cons_of_mem _ (List.mem_cons_of_mem _ (List.mem_cons_of_mem _ (List.mem_cons_of_mem _ (List.mem_cons_of_mem _ (List.mem_cons_of_mem _ (List.mem_cons_self)))))))))) ?_ ?_
      · exact rfl
      refine r_idx1 (c := Sl.val) (L := outs.map Prod.snd) (x := x.2) (by rw [List.map_map]; exact h.rdC (List.mem_cons_of_mem _ (List.mem_cons_of_mem _ List.mem_cons_self))) (by simp [hx]) ?_
      refine r_bld1 rfl rfl ?_
      refine r_new h ?_
      clear h
      intro t63 w h
      try simp only [add_mk, Nat.zero_add, Nat.reduceAdd]
      have hr := RdC.of_blk (n := 1) (esz := 5) h List.mem_cons_self (vs := pkF ((⟨d.ep, d.pe, d.ba + j, d.ex - 1, x.1⟩ : PacketD), x.2)) rfl rfl 1
      refine r_append (h.pick 1 at1) (by kernel_rfl) (by kernel_rfl) (by' := 56) (by kernel_rfl) zero_ty_api_Packet rfl hr (by simpa using pkF_flat [((⟨d.ep, d.pe, d.ba + j, d.ex - 1, x.1⟩ : PacketD), x.2)]) (by simp only; omega) (by decide) fun s' w h _ _ => ?_
      refine r_add64 (by omega) (by omega) ?_
      try simp only [List.set_cons_zero, List.set_cons_succ, List.eraseIdx_zero, List.eraseIdx_cons_zero, List.eraseIdx_cons_succ, List.setIfInBounds_toArray, List.tail_cons] at h
      replace h := h.pick 6 at6
      try simp only [List.set_cons_zero, List.set_cons_succ, List.eraseIdx_zero, List.eraseIdx_cons_zero, List.eraseIdx_cons_succ, List.setIfInBounds_toArray, List.tail_cons] at h
      replace h := h.pick 6 at6
      try simp only [List.set_cons_zero, List.set_cons_succ, List.eraseIdx_zero, List.eraseIdx_cons_zero, List.eraseIdx_cons_succ, List.setIfInBounds_toArray, List.tail_cons] at h
      replace h := h.pick 6 at6
      try simp only [List.set_cons_zero, List.set_cons_succ, List.eraseIdx_zero, List.eraseIdx_cons_zero, List.eraseIdx_cons_succ, List.setIfInBounds_toArray, List.tail_cons] at h
      replace h := h.pick 6 at6
      try simp only [List.set_cons_zero, List.set_cons_succ, List.eraseIdx_zero, List.eraseIdx_cons_zero, List.eraseIdx_cons_succ, List.setIfInBounds_toArray, List.tail_cons] at h
      replace h := h.pick 6 at6
      try simp only [List.set_cons_zero, List.set_cons_succ, List.eraseIdx_zero, List.eraseIdx_cons_zero, List.eraseIdx_cons_succ, List.setIfInBounds_toArray, List.tail_cons] at h
      replace h := h.pick 5 at5
      try simp only [List.set_cons_zero, List.set_cons_succ, List.eraseIdx_zero, List.eraseIdx_cons_zero, List.eraseIdx_cons_succ, List.setIfInBounds_toArray, List.tail_cons] at h
      replace h := h.del 6 at6
      try simp only [List.set_cons_zero, List.set_cons_succ, List.eraseIdx_zero, List.eraseIdx_cons_zero, List.eraseIdx_cons_succ, List.setIfInBounds_toArray, List.tail_cons] at h
      have e : (ls ++ [((⟨d.ep, d.pe, d.ba + j, d.ex - 1, x.1⟩ : PacketD), x.2)]).flatMap pkF = ls.flatMap pkF ++ pkF ((⟨d.ep, d.pe, d.ba + j, d.ex - 1, x.1⟩ : PacketD), x.2) := by simp
      refine ⟨⟨j + 1, by omega, by omega, ls ++ [((⟨d.ep, d.pe, d.ba + j, d.ex - 1, x.1⟩ : PacketD), x.2)], ?_, ?_, ?_⟩, by omega⟩
      · have hjd : j < d.out.length := by omega
        have hxe : d.out[j] = x.1 := by
          rw [List.getElem?_eq_getElem hjd] at hdo
          exact Option.some.inj hdo
        rw [List.take_succ_eq_append_getElem hjd, pksOf_snoc, List.map_append, hls, hxe, List.length_take]
        simp only [List.map_cons, List.map_nil]
        congr 4
        have : min j d.out.length = j := by omega
        rw [this]
      · intro y hy
        rcases List.mem_append.1 hy with hy | hy
        · exact hly y hy
        · simp only [List.mem_singleton] at hy
          subst hy
          exact .inr ⟨x, List.mem_of_getElem? hx, rfl, rfl⟩
      · rw [e]; exact h
    · simp only [decide_eq_false_iff_not] at hb
      have hjl : d.out.take j = d.out := List.take_of_length_le (by omega)
      rw [hjl, ← hp] at hls
      exact hk _ ls _ hls hly h
  have hlen : (0 : Int) < so.n ↔ d.out ≠ [] := by
    rw [← List.length_pos_iff]; omega
  refine r_ld (x := so) h rfl (by first | (with_reducible exact List.mem_cons_self) | (with_reducible exact List.mem_cons_of_mem _ (List.mem_cons_self)) | (with_reducible exact List.mem_cons_of_mem _ (List.mem_cons_of_mem _ (List.mem_cons_self))) | (with_reducible exact List.mem_cons_of_mem _ (List.mem_cons_of_mem _ (List.mem_cons_of_mem _ (List.mem_cons_self)))) | (with_reducible exact List.mem_cons_of_mem _ (List.mem_cons_of_mem _ (List.mem_cons_of_mem _ (List.mem_cons_of_mem _ (List.mem_cons_self))))) | (with_reducible exact List.mem_cons_of_mem _ (List.mem_cons_of_mem _ (List.mem_cons_of_mem _ (List.mem_cons_of_mem _ (List.mem_cons_of_mem _ (List.mem_cons_self)))))) | (with_reducible exact List.mem_cons_of_mem _ (List.mem_cons_of_mem _ (List.mem_cons_of_mem _ (List.mem_cons_of_mem _ (List.mem_cons_of_mem _ (List.mem_cons_of_mem _ (List.mem_cons_self))))))) | (with_reducible exact List.mem_cons_of_mem _ (List.mem_cons_of_mem _ (List.mem_cons_of_mem _ (List.mem_cons_of_mem _ (List.mem_cons_of_mem _ (List.mem_cons_of_mem _ (List.mem_cons_of_mem _ (List.mem_cons_self)))))))) | (with_reducible exact List.mem_cons_of_mem _ (List.mem_cons_of_mem _ (List.mem_cons_of_mem _ (List.mem_cons_of_mem _ (List.mem_cons_of_mem _ (List.mem_cons_of_mem _ (List.mem_cons_of_mem _ (List.mem_cons_of_mem _ (List.mem_cons_self)))))))))) ?_ ?_
  · exact rfl
  refine r_ite (fun hb => ?_) (fun hb => ?_)
  · simp only [decide_eq_true_eq] at hb
    refine r_ld (x := d.pe) h rfl (by first | (with_reducible exact List.mem_cons_self) | (with_reducible exact List.mem_cons_of_mem _ (List.mem_cons_self)) | (with_reducible exact List.mem_cons_of_mem _ (List.mem_cons_of_mem _ (List.mem_cons_self))) | (with_reducible exact List.mem_cons_of_mem _ (List.mem_cons_of_mem _ (List.mem_cons_of_mem _ (List.mem_cons_self)))) | (with_reducible exact List.mem_cons_of_mem _ (List.mem_cons_of_mem _ (List.mem_cons_of_mem _ (List.mem_cons_of_mem _ (List.mem_cons_self))))) | (with_reducible exact List.mem_cons_of_mem _ (List.mem_cons_of_mem _ (List.mem_cons_of_mem _ (List.mem_cons_of_mem _ (List.mem_cons_of_mem _ (List.mem_cons_self)))))) | (with_reducible exact List.mem_cons_of_mem _ (List.mem_cons_of_mem _ (List.mem_cons_of_mem _ (List.mem_cons_of_mem _ (List.mem_cons_of_mem _ (List.mem_cons_of_mem _ (List.mem_cons_self))))))) | (with_reducible exact List.mem_cons_of_mem _ (List.mem_cons_of_mem _ (List.mem_cons_of_mem _ (List.mem_cons_of_mem _ (List.mem_cons_of_mem _ (List.mem_cons_of_mem _ (List.mem_cons_of_mem _ (List.mem_cons_self)))))))) | (with_reducible exact List.mem_cons_of_mem _ (List.mem_cons_of_mem _ (List.mem_cons_of_mem _ (List.mem_cons_of_mem _ (List.mem_cons_of_mem _ (List.mem_cons_of_mem _ (List.mem_cons_of_mem _ (List.mem_cons_of_mem _ (List.mem_cons_self)))))))))) ?_ ?_
    · exact rfl
    by_cases hp : d.pe = 0
    · rw [decide_eq_true hp]
      unfold ref19_Link_Packets.s1
      refine r_ite_t rfl ?_
      refine r_nn rfl ?_
      refine r_ld (x := d.ep) h rfl (by first | (with_reducible exact List.mem_cons_self) | (with_reducible exact List.mem_cons_of_mem _ (List.mem_cons_self)) | (with_reducible exact List.mem_cons_of_mem _ (List.mem_cons_of_mem _ (List.mem_cons_self))) | (with_reducible exact List.mem_cons_of_mem _ (List.mem_cons_of_mem _ (List.mem_cons_of_mem _ (List.mem_cons_self)))) | (with_reducible exact List.mem_cons_of_mem _ (List.mem_cons_of_mem _ (List.mem_cons_of_mem _ (List.mem_cons_of_mem _ (List.mem_cons_self))))) | (with_reducible exact List.mem_cons_of_mem _ (List.mem_cons_of_mem _ (List.mem_cons_of_mem _ (List.mem_cons_of_mem _ (List.mem_cons_of_mem _ (List.mem_cons_self)))))) | (with_reducible exact List.mem_cons_of_mem _ (List.mem_cons_of_mem _ (List.mem_cons_of_mem _ (List.mem_cons_of_mem _ (List.mem_cons_of_mem _ (List.mem_cons_of_mem _ (List.mem_cons_self))))))) | (with_reducible exact List.mem_cons_of_mem _ (List.mem_cons_of_mem _ (List.mem_cons_of_mem _ (List.mem_cons_of_mem _ (List.mem_cons_of_mem _ (List.mem_cons_of_mem _ (List.mem_cons_of_mem _ (List.mem_cons_self)))))))) | (with_reducible exact List.mem_cons_of_mem _ (List.mem_cons_of_mem _ (List.mem_cons_of_mem _ (List.mem_cons_of_mem _ (List.mem_cons_of_mem _ (List.mem_cons_of_mem _ (List.mem_cons_of_mem _ (List.mem_cons_of_mem _ (List.mem_cons_self)))))))))) ?_ ?_
      · exact rfl
      refine r_bld1 rfl rfl ?_
      refine r_new h ?_
      clear h
      intro t24 w h
      try simp only [add_mk, Nat.zero_add, Nat.reduceAdd]
      have hpk : d.packets = [⟨d.ep, 0, 0, 0, []⟩] := by unfold LinkD.packets; rw [if_pos ⟨hlen.1 hb, hp⟩]
      refine hk _ [(⟨d.ep, 0, 0, 0, []⟩, ⟨none, 0, 0⟩)] _ (by rw [hpk]; rfl) (by simp) ?_
      replace h := h.pick 6 at6
      try simp only [List.set_cons_zero, List.set_cons_succ, List.eraseIdx_zero, List.eraseIdx_cons_zero, List.eraseIdx_cons_succ, List.setIfInBounds_toArray, List.tail_cons] at h
      replace h := h.pick 6 at6
      try simp only [List.set_cons_zero, List.set_cons_succ, List.eraseIdx_zero, List.eraseIdx_cons_zero, List.eraseIdx_cons_succ, List.setIfInBounds_toArray, List.tail_cons] at h
      replace h := h.pick 6 at6
      try simp only [List.set_cons_zero, List.set_cons_succ, List.eraseIdx_zero, List.eraseIdx_cons_zero, List.eraseIdx_cons_succ, List.setIfInBounds_toArray, List.tail_cons] at h
      replace h := h.pick 6 at6
      try simp only [List.set_cons_zero, List.set_cons_succ, List.eraseIdx_zero, List.eraseIdx_cons_zero, List.eraseIdx_cons_succ, List.setIfInBounds_toArray, List.tail_cons] at h
      replace h := h.pick 6 at6
      try simp only [List.set_cons_zero, List.set_cons_succ, List.eraseIdx_zero, List.eraseIdx_cons_zero, List.eraseIdx_cons_succ, List.setIfInBounds_toArray, List.tail_cons] at h
      replace h := h.pick 5 at5
      try simp only [List.set_cons_zero, List.set_cons_succ, List.eraseIdx_zero, List.eraseIdx_cons_zero, List.eraseIdx_cons_succ, List.setIfInBounds_toArray, List.tail_cons] at h
      replace h := h.del 6 at6
      try simp only [List.set_cons_zero, List.set_cons_succ, List.eraseIdx_zero, List.eraseIdx_cons_zero, List.eraseIdx_cons_succ, List.setIfInBounds_toArray, List.tail_cons] at h
      exact h.imp (blk_SlC rfl rfl)
    · rw [decide_eq_false hp]
      exact key (fun hh => hp hh.2)
  · simp only [decide_eq_false_iff_not] at hb
    exact key (fun hh => hb (hlen.2 hh.1))

/-! ### what came in its turn -/
theorem rlink_s5_spec {b : Nat} {d : LinkD} {so sx came : Sl} {outs : List BS} {es : List (Int × BS)} {X3 : K} {k : Sl → Sl → K} (hex : 1 ≤ d.ex) (hN : d.ex + d.early.length ≤ 1000000000000) (hfew : d.early.length ≤ 100000)
    (h1 : outs.map Prod.fst = d.out) (h2 : (es.map fun p => (p.1, p.2.1)) = d.early)
    (h : Holds B (BsR came [] :: blk b (.cells (rlA d so sx) ty_argosyref19_Link (0, 0)) :: SlC ty_s_uint8 1 so (outs.map bsV) :: stars (outs.map bsB) :: SlC ty_argosyref19_Early 2 sx (es.flatMap earF) :: stars (es.map earB) :: Γ) w)
    (hk : ∀ c a w, Holds B (BsR c d.drained.2 :: PkR a [d.drained.1.helloP] :: RefR b d.drained.1 :: Γ) w → k c a w) : ref19_Link_Receive.s5 k X3 ⟨b, 0, none⟩ came w := by
  unfold ref19_Link_Receive.s5
  generalize hD : drain d.early.length d.ex d.early = D at *
  have hdr : d.drained = ({ d with ex := D.1, early := D.2.1 }, D.2.2) := by unfold LinkD.drained; rw [hD]
  rw [hdr] at hk
  have hc0 := BsR.len h
  refine LoopK.of (fun (came : Sl) w => ∃ (cl : List (List UInt8)) (sx : Sl) (es : List (Int × BS)) (ex : Int) (e : List (Int × List UInt8)), (es.map fun p => (p.1, p.2.1)) = e ∧ (drain e.length ex e).1 = D.1 ∧ (drain e.length ex e).2.1 = D.2.1 ∧
      cl ++ (drain e.length ex e).2.2 = D.2.2 ∧ 1 ≤ ex ∧ ex + e.length ≤ 1000000000000 ∧ cl.length + e.length = d.early.length ∧ came.n = cl.length ∧
      Holds B (BsR came cl :: blk b (.cells (rlA { d with ex := ex } so sx) ty_argosyref19_Link (0, 0)) :: SlC ty_s_uint8 1 so (outs.map bsV) :: stars (outs.map bsB) :: SlC ty_argosyref19_Early 2 sx (es.flatMap earF) :: stars (es.map earB) :: Γ) w)
    (fun came _ => d.early.length - came.n) ⟨[], sx, es, d.ex, d.early, h2, by rw [hD], by rw [hD], by rw [hD]; rfl, hex, hN, by simp, hc0, h⟩ ?_
  clear h h2 es hD hdr hc0 sx came
  rintro came w ⟨cl, sx, es, ex, e, h2, hd1, hd2, hd3, hex, hexN, hcl, hcn, h⟩
  have hel : es.length = e.length := by rw [← h2]; simp
  unfold ref19_Link_Receive.b6
  simp only [add_mk, Nat.zero_add]
  refine r_ld (x := ex) h rfl (by first | (with_reducible exact List.mem_cons_self) | (with_reducible exact List.mem_cons_of_mem _ (List.mem_cons_self)) | (with_reducible exact List.mem_cons_of_mem _ (List.mem_cons_of_mem _ (List.mem_cons_self))) | (with_reducible exact List.mem_cons_of_mem _ (List.mem_cons_of_mem _ (List.mem_cons_of_mem _ (List.mem_cons_self)))) | (with_reducible exact List.mem_cons_of_mem _ (List.mem_cons_of_mem _ (List.mem_cons_of_mem _ (List.mem_cons_of_mem _ (List.mem_cons_self))))) | (with_reducible exact List.mem_cons_of_mem _ (List.mem_cons_of_mem _ (List.mem_cons_of_mem _ (List.mem_cons_of_mem _ (List.mem_cons_of_mem _ (List.mem_cons_self)))))) | (with_reducible exact List.mem_cons_of_mem _ (List.mem_cons_of_mem _ (List.mem_cons_of_mem _ (List.mem_cons_of_mem _ (List.mem_cons_of_mem _ (List.mem_cons_of_mem _ (List.mem_cons_self))))))) | (with_reducible exact List.mem_cons_of_mem _ (List.mem_cons_of_mem _ (List.mem_cons_of_mem _ (List.mem_cons_of_mem _ (List.mem_cons_of_mem _ (List.mem_cons_of_mem _ (List.mem_cons_of_mem _ (List.mem_cons_self)))))))) | (with_reducible exact List.mem_cons_of_mem _ (List.mem_cons_of_mem _ (List.mem_cons_of_mem _ (List.mem_cons_of_mem _ (List.mem_cons_of_mem _ (List.mem_cons_of_mem _ (List.mem_cons_of_mem _ (List.mem_cons_of_mem _ (List.mem_cons_self)))))))))) ?_ ?_
  · exact rfl
  have hmg : mget ex e = (mget ex es).map Prod.fst := by rw [← h2]; exact mget_map Prod.fst ex es
  refine rlink_at_spec (d := { d with ex := ex }) h (List.mem_cons_of_mem _ List.mem_cons_self) (List.mem_cons_of_mem _ (List.mem_cons_of_mem _ (List.mem_cons_of_mem _ (List.mem_cons_of_mem _ List.mem_cons_self)))) (by omega) (fun hm w h => ?_) (fun j x hx hm hdel w h => ?_)
  · rw [hm] at hmg
    have hdn := drain_none hmg e.length
    rw [hdn] at hd1 hd2 hd3
    simp only [List.append_nil] at hd1 hd2 hd3
    refine r_ite_f rfl ?_
    refine r_dr h ?_
    clear h
    intro w h
    refine r_ld (x := d.ep) h rfl (by first | (with_reducible exact List.mem_cons_self) | (with_reducible exact List.mem_cons_of_mem _ (List.mem_cons_self)) | (with_reducible exact List.mem_cons_of_mem _ (List.mem_cons_of_mem _ (List.mem_cons_self))) | (with_reducible exact List.mem_cons_of_mem _ (List.mem_cons_of_mem _ (List.mem_cons_of_mem _ (List.mem_cons_self)))) | (with_reducible exact List.mem_cons_of_mem _ (List.mem_cons_of_mem _ (List.mem_cons_of_mem _ (List.mem_cons_of_mem _ (List.mem_cons_self))))) | (with_reducible exact List.mem_cons_of_mem _ (List.mem_cons_of_mem _ (List.mem_cons_of_mem _ (List.mem_cons_of_mem _ (List.mem_cons_of_mem _ (List.mem_cons_self)))))) | (with_reducible exact List.mem_cons_of_mem _ (List.mem_cons_of_mem _ (List.mem_cons_of_mem _ (List.mem_cons_of_mem _ (List.mem_cons_of_mem _ (List.mem_cons_of_mem _ (List.mem_cons_self))))))) | (with_reducible exact List.mem_cons_of_mem _ (List.mem_cons_of_mem _ (List.mem_cons_of_mem _ (List.mem_cons_of_mem _ (List.mem_cons_of_mem _ (List.mem_cons_of_mem _ (List.mem_cons_of_mem _ (List.mem_cons_self)))))))) | (with_reducible exact List.mem_cons_of_mem _ (List.mem_cons_of_mem _ (List.mem_cons_of_mem _ (List.mem_cons_of_mem _ (List.mem_cons_of_mem _ (List.mem_cons_of_mem _ (List.mem_cons_of_mem _ (List.mem_cons_of_mem _ (List.mem_cons_self)))))))))) ?_ ?_
    · exact rfl
    refine r_ld (x := d.pe) h rfl (by first | (with_reducible exact List.mem_cons_self) | (with_reducible exact List.mem_cons_of_mem _ (List.mem_cons_self)) | (with_reducible exact List.mem_cons_of_mem _ (List.mem_cons_of_mem _ (List.mem_cons_self))) | (with_reducible exact List.mem_cons_of_mem _ (List.mem_cons_of_mem _ (List.mem_cons_of_mem _ (List.mem_cons_self)))) | (with_reducible exact List.mem_cons_of_mem _ (List.mem_cons_of_mem _ (List.mem_cons_of_mem _ (List.mem_cons_of_mem _ (List.mem_cons_self))))) | (with_reducible exact List.mem_cons_of_mem _ (List.mem_cons_of_mem _ (List.mem_cons_of_mem _ (List.mem_cons_of_mem _ (List.mem_cons_of_mem _ (List.mem_cons_self)))))) | (with_reducible exact List.mem_cons_of_mem _ (List.mem_cons_of_mem _ (List.mem_cons_of_mem _ (List.mem_cons_of_mem _ (List.mem_cons_of_mem _ (List.mem_cons_of_mem _ (List.mem_cons_self))))))) | (with_reducible exact List.mem_cons_of_mem _ (List.mem_cons_of_mem _ (List.mem_cons_of_mem _ (List.mem_cons_of_mem _ (List.mem_cons_of_mem _ (List.mem_cons_of_mem _ (List.mem_cons_of_mem _ (List.mem_cons_self)))))))) | (with_reducible exact List.mem_cons_of_mem _ (List.mem_cons_of_mem _ (List.mem_cons_of_mem _ (List.mem_cons_of_mem _ (List.mem_cons_of_mem _ (List.mem_cons_of_mem _ (List.mem_cons_of_mem _ (List.mem_cons_of_mem _ (List.mem_cons_self)))))))))) ?_ ?_
    · exact rfl
    refine r_ld (x := ex) h rfl (by first | (with_reducible exact List.mem_cons_self) | (with_reducible exact List.mem_cons_of_mem _ (List.mem_cons_self)) | (with_reducible exact List.mem_cons_of_mem _ (List.mem_cons_of_mem _ (List.mem_cons_self))) | (with_reducible exact List.mem_cons_of_mem _ (List.mem_cons_of_mem _ (List.mem_cons_of_mem _ (List.mem_cons_self)))) | (with_reducible exact List.mem_cons_of_mem _ (List.mem_cons_of_mem _ (List.mem_cons_of_mem _ (List.mem_cons_of_mem _ (List.mem_cons_self))))) | (with_reducible exact List.mem_cons_of_mem _ (List.mem_cons_of_mem _ (List.mem_cons_of_mem _ (List.mem_cons_of_mem _ (List.mem_cons_of_mem _ (List.mem_cons_self)))))) | (with_reducible exact List.mem_cons_of_mem _ (List.mem_cons_of_mem _ (List.mem_cons_of_mem _ (List.mem_cons_of_mem _ (List.mem_cons_of_mem _ (List.mem_cons_of_mem _ (List.mem_cons_self))))))) | (with_reducible exact List.mem_cons_of_mem _ (List.mem_cons_of_mem _ (List.mem_cons_of_mem _ (List.mem_cons_of_mem _ (List.mem_cons_of_mem _ (List.mem_cons_of_mem _ (List.mem_cons_of_mem _ (List.mem_cons_self)))))))) | (with_reducible exact List.mem_cons_of_mem _ (List.mem_cons_of_mem _ (List.mem_cons_of_mem _ (List.mem_cons_of_mem _ (List.mem_cons_of_mem _ (List.mem_cons_of_mem _ (List.mem_cons_of_mem _ (List.mem_cons_of_mem _ (List.mem_cons_self)))))))))) ?_ ?_
    · exact rfl
    refine r_ar (wrapU64 (by omega) (by omega)) ?_
    refine r_bld1 rfl rfl ?_
    refine r_new h ?_
    clear h
    intro t211 w h
    try simp only [add_mk, Nat.zero_add, Nat.reduceAdd]
    replace h := PkR.one (p := LinkD.helloP { d with ex := ex, early := e }) rfl h
    replace h := h.pick 1 at1
    try simp only [List.set_cons_zero, List.set_cons_succ, List.eraseIdx_zero, List.eraseIdx_cons_zero, List.eraseIdx_cons_succ, List.setIfInBounds_toArray, List.tail_cons] at h
    replace h := h.pick 1 at1
    try simp only [List.set_cons_zero, List.set_cons_succ, List.eraseIdx_zero, List.eraseIdx_cons_zero, List.eraseIdx_cons_succ, List.setIfInBounds_toArray, List.tail_cons] at h
    replace h := h.pick 6 at6
    try simp only [List.set_cons_zero, List.set_cons_succ, List.eraseIdx_zero, List.eraseIdx_cons_zero, List.eraseIdx_cons_succ, List.setIfInBounds_toArray, List.tail_cons] at h
    replace h := h.pick 6 at6
    try simp only [List.set_cons_zero, List.set_cons_succ, List.eraseIdx_zero, List.eraseIdx_cons_zero, List.eraseIdx_cons_succ, List.setIfInBounds_toArray, List.tail_cons] at h
    replace h := h.pick 6 at6
    try simp only [List.set_cons_zero, List.set_cons_succ, List.eraseIdx_zero, List.eraseIdx_cons_zero, List.eraseIdx_cons_succ, List.setIfInBounds_toArray, List.tail_cons] at h
    replace h := h.pick 6 at6
    try simp only [List.set_cons_zero, List.set_cons_succ, List.eraseIdx_zero, List.eraseIdx_cons_zero, List.eraseIdx_cons_succ, List.setIfInBounds_toArray, List.tail_cons] at h
    replace h := h.pick 6 at6
    try simp only [List.set_cons_zero, List.set_cons_succ, List.eraseIdx_zero, List.eraseIdx_cons_zero, List.eraseIdx_cons_succ, List.setIfInBounds_toArray, List.tail_cons] at h
    replace h := RefR.shuts (d := { d with ex := ex, early := e }) h1 h2 h
    replace h := h.pick 1 at1
    try simp only [List.set_cons_zero, List.set_cons_succ, List.eraseIdx_zero, List.eraseIdx_cons_zero, List.eraseIdx_cons_succ, List.setIfInBounds_toArray, List.tail_cons] at h
    replace h := h.pick 2 at2
    try simp only [List.set_cons_zero, List.set_cons_succ, List.eraseIdx_zero, List.eraseIdx_cons_zero, List.eraseIdx_cons_succ, List.setIfInBounds_toArray, List.tail_cons] at h
    rw [hd3, hd1, hd2] at h
    exact hk _ _ _ h
  · rw [hm] at hmg
    have hds := drain_some hmg
    have hml := mdel_len hmg
    rw [hds] at hd1 hd2 hd3
    refine r_ite_t (by simp) ?_
    refine r_ld (x := ex) h rfl (by first | (with_reducible exact List.mem_cons_self) | (with_reducible exact List.mem_cons_of_mem _ (List.mem_cons_self)) | (with_reducible exact List.mem_cons_of_mem _ (List.mem_cons_of_mem _ (List.mem_cons_self))) | (with_reducible exact List.mem_cons_of_mem _ (List.mem_cons_of_mem _ (List.mem_cons_of_mem _ (List.mem_cons_self)))) | (with_reducible exact List.mem_cons_of_mem _ (List.mem_cons_of_mem _ (List.mem_cons_of_mem _ (List.mem_cons_of_mem _ (List.mem_cons_self))))) | (with_reducible exact List.mem_cons_of_mem _ (List.mem_cons_of_mem _ (List.mem_cons_of_mem _ (List.mem_cons_of_mem _ (List.mem_cons_of_mem _ (List.mem_cons_self)))))) | (with_reducible exact List.mem_cons_of_mem _ (List.mem_cons_of_mem _ (List.mem_cons_of_mem _ (List.mem_cons_of_mem _ (List.mem_cons_of_mem _ (List.mem_cons_of_mem _ (List.mem_cons_self))))))) | (with_reducible exact List.mem_cons_of_mem _ (List.mem_cons_of_mem _ (List.mem_cons_of_mem _ (List.mem_cons_of_mem _ (List.mem_cons_of_mem _ (List.mem_cons_of_mem _ (List.mem_cons_of_mem _ (List.mem_cons_self)))))))) | (with_reducible exact List.mem_cons_of_mem _ (List.mem_cons_of_mem _ (List.mem_cons_of_mem _ (List.mem_cons_of_mem _ (List.mem_cons_of_mem _ (List.mem_cons_of_mem _ (List.mem_cons_of_mem _ (List.mem_cons_of_mem _ (List.mem_cons_self)))))))))) ?_ ?_
    · exact rfl
    refine rlink_at_spec (d := { d with ex := ex }) h (List.mem_cons_of_mem _ List.mem_cons_self) (List.mem_cons_of_mem _ (List.mem_cons_of_mem _ (List.mem_cons_of_mem _ (List.mem_cons_of_mem _ List.mem_cons_self)))) (by omega) (fun hm' => by rw [hm] at hm'; cases hm') (fun j x' hx hm' hdel w h => ?_)
    obtain rfl : x = x' := Option.some.inj (hm.symm.trans hm')
    have hjl : j < es.length := (List.getElem?_eq_some_iff.1 hx).1
    refine r_ld (x := sx) h rfl (by first | (with_reducible exact List.mem_cons_self) | (with_reducible exact List.mem_cons_of_mem _ (List.mem_cons_self)) | (with_reducible exact List.mem_cons_of_mem _ (List.mem_cons_of_mem _ (List.mem_cons_self))) | (with_reducible exact List.mem_cons_of_mem _ (List.mem_cons_of_mem _ (List.mem_cons_of_mem _ (List.mem_cons_self)))) | (with_reducible exact List.mem_cons_of_mem _ (List.mem_cons_of_mem _ (List.mem_cons_of_mem _ (List.mem_cons_of_mem _ (List.mem_cons_self))))) | (with_reducible exact List.mem_cons_of_mem _ (List.mem_cons_of_mem _ (List.mem_cons_of_mem _ (List.mem_cons_of_mem _ (List.mem_cons_of_mem _ (List.mem_cons_self)))))) | (with_reducible exact List.mem_cons_of_mem _ (List.mem_cons_of_mem _ (List.mem_cons_of_mem _ (List.mem_cons_of_mem _ (List.mem_cons_of_mem _ (List.mem_cons_of_mem _ (List.mem_cons_self))))))) | (with_reducible exact List.mem_cons_of_mem _ (List.mem_cons_of_mem _ (List.mem_cons_of_mem _ (List.mem_cons_of_mem _ (List.mem_cons_of_mem _ (List.mem_cons_of_mem _ (List.mem_cons_of_mem _ (List.mem_cons_self)))))))) | (with_reducible exact List.mem_cons_of_mem _ (List.mem_cons_of_mem _ (List.mem_cons_of_mem _ (List.mem_cons_of_mem _ (List.mem_cons_of_mem _ (List.mem_cons_of_mem _ (List.mem_cons_of_mem _ (List.mem_cons_of_mem _ (List.mem_cons_self)))))))))) ?_ ?_
    · exact rfl
    have hsc := (h.pick 4 at4).slCap
    have hsn := hsc.1
    rw [flatMap_len earF 2 earF_len] at hsn
    have hrd := h.rdC (List.mem_cons_of_mem _ (List.mem_cons_of_mem _ (List.mem_cons_of_mem _ (List.mem_cons_of_mem _ List.mem_cons_self))))
    refine r_idxA earF earF_len (by decide) hrd hx fun t165 ht => ?_
    refine r_ldF (x := x.2) 1 (ht w hrd) (show 1 < 2 by decide) rfl ?_
    obtain ⟨cls, hcls, h⟩ := BsR.opens h
    replace h := stars_take j hx (h.pick 6 at6)
    try simp only [List.set_cons_zero, List.set_cons_succ, List.eraseIdx_zero, List.eraseIdx_cons_zero, List.eraseIdx_cons_succ, List.setIfInBounds_toArray, List.tail_cons] at h
    refine r_new h ?_
    clear h
    intro t168 w h
    try simp only [add_mk, Nat.zero_add, Nat.reduceAdd]
    have hr := RdC.of_blk (n := 1) (esz := 1) h List.mem_cons_self (vs := [x.2.val]) rfl rfl 1
    refine r_append (h.pick 3 at3) (by kernel_rfl) (by kernel_rfl) (by' := 24) (by kernel_rfl) zero_ty_s_uint8 rfl hr (flat_all rfl) (by simp only; omega) (by decide) fun c' w h hcs _ => ?_
    try simp only [List.set_cons_zero, List.set_cons_succ, List.eraseIdx_zero, List.eraseIdx_cons_zero, List.eraseIdx_cons_succ, List.setIfInBounds_toArray, List.tail_cons] at h
    have e1 : cls.map bsV ++ [x.2.val] = (cls ++ [x]).map bsV := by simp [bsV]
    rw [e1] at h
    have hcs2 : c'.n = came.n + 1 := by simpa using hcs
    -- c', t168, bytes, rest of early's bytes, cls' bytes, blk, so, outs, sx
    replace h := h.pick 3 at3
    try simp only [List.set_cons_zero, List.set_cons_succ, List.eraseIdx_zero, List.eraseIdx_cons_zero, List.eraseIdx_cons_succ, List.setIfInBounds_toArray, List.tail_cons] at h
    replace h := h.pick 8 at8
    try simp only [List.set_cons_zero, List.set_cons_succ, List.eraseIdx_zero, List.eraseIdx_cons_zero, List.eraseIdx_cons_succ, List.setIfInBounds_toArray, List.tail_cons] at h
    replace h := h.pick 8 at8
    try simp only [List.set_cons_zero, List.set_cons_succ, List.eraseIdx_zero, List.eraseIdx_cons_zero, List.eraseIdx_cons_succ, List.setIfInBounds_toArray, List.tail_cons] at h
    replace h := h.pick 8 at8
    try simp only [List.set_cons_zero, List.set_cons_succ, List.eraseIdx_zero, List.eraseIdx_cons_zero, List.eraseIdx_cons_succ, List.setIfInBounds_toArray, List.tail_cons] at h
    replace h := h.pick 8 at8
    try simp only [List.set_cons_zero, List.set_cons_succ, List.eraseIdx_zero, List.eraseIdx_cons_zero, List.eraseIdx_cons_succ, List.setIfInBounds_toArray, List.tail_cons] at h
    replace h := h.pick 5 at5
    try simp only [List.set_cons_zero, List.set_cons_succ, List.eraseIdx_zero, List.eraseIdx_cons_zero, List.eraseIdx_cons_succ, List.setIfInBounds_toArray, List.tail_cons] at h
    replace h := h.pick 7 at7
    try simp only [List.set_cons_zero, List.set_cons_succ, List.eraseIdx_zero, List.eraseIdx_cons_zero, List.eraseIdx_cons_succ, List.setIfInBounds_toArray, List.tail_cons] at h
    replace h := h.pick 8 at8
    try simp only [List.set_cons_zero, List.set_cons_succ, List.eraseIdx_zero, List.eraseIdx_cons_zero, List.eraseIdx_cons_succ, List.setIfInBounds_toArray, List.tail_cons] at h
    replace h := h.del 8 at8
    try simp only [List.set_cons_zero, List.set_cons_succ, List.eraseIdx_zero, List.eraseIdx_cons_zero, List.eraseIdx_cons_succ, List.setIfInBounds_toArray, List.tail_cons] at h
    have h3 : Holds B (stars ((cls ++ [x]).map bsB) :: SlC ty_s_uint8 1 c' ((cls ++ [x]).map bsV) :: blk b (.cells (rlA { d with ex := ex } so sx) ty_argosyref19_Link (0, 0)) :: SlC ty_s_uint8 1 so (outs.map bsV) :: stars (outs.map bsB) :: SlC ty_argosyref19_Early 2 sx (es.flatMap earF) :: stars ((es.eraseIdx j).map earB) :: Γ) w := stars_put h
    clear h
    have h := BsR.shuts (l := cl ++ [x.1]) (by simp [hcls]) h3.swap
    clear h3
    refine r_dr h ?_
    clear h
    intro w h
    refine r_withS h ?_
    refine r_add64 (by omega) (by omega) ?_
    refine r_ldS (x := sx) rfl (by first | (with_reducible exact List.mem_cons_self) | (with_reducible exact List.mem_cons_of_mem _ (List.mem_cons_self)) | (with_reducible exact List.mem_cons_of_mem _ (List.mem_cons_of_mem _ (List.mem_cons_self))) | (with_reducible exact List.mem_cons_of_mem _ (List.mem_cons_of_mem _ (List.mem_cons_of_mem _ (List.mem_cons_self)))) | (with_reducible exact List.mem_cons_of_mem _ (List.mem_cons_of_mem _ (List.mem_cons_of_mem _ (List.mem_cons_of_mem _ (List.mem_cons_self))))) | (with_reducible exact List.mem_cons_of_mem _ (List.mem_cons_of_mem _ (List.mem_cons_of_mem _ (List.mem_cons_of_mem _ (List.mem_cons_of_mem _ (List.mem_cons_self)))))) | (with_reducible exact List.mem_cons_of_mem _ (List.mem_cons_of_mem _ (List.mem_cons_of_mem _ (List.mem_cons_of_mem _ (List.mem_cons_of_mem _ (List.mem_cons_of_mem _ (List.mem_cons_self))))))) | (with_reducible exact List.mem_cons_of_mem _ (List.mem_cons_of_mem _ (List.mem_cons_of_mem _ (List.mem_cons_of_mem _ (List.mem_cons_of_mem _ (List.mem_cons_of_mem _ (List.mem_cons_of_mem _ (List.mem_cons_self)))))))) | (with_reducible exact List.mem_cons_of_mem _ (List.mem_cons_of_mem _ (List.mem_cons_of_mem _ (List.mem_cons_of_mem _ (List.mem_cons_of_mem _ (List.mem_cons_of_mem _ (List.mem_cons_of_mem _ (List.mem_cons_of_mem _ (List.mem_cons_self)))))))))) ?_ ?_
    · exact rfl
    refine ⟨_, by omega, by omega, by omega, by omega, rfl, ?_⟩
    refine r_ldS (x := sx) rfl (by first | (with_reducible exact List.mem_cons_self) | (with_reducible exact List.mem_cons_of_mem _ (List.mem_cons_self)) | (with_reducible exact List.mem_cons_of_mem _ (List.mem_cons_of_mem _ (List.mem_cons_self))) | (with_reducible exact List.mem_cons_of_mem _ (List.mem_cons_of_mem _ (List.mem_cons_of_mem _ (List.mem_cons_self)))) | (with_reducible exact List.mem_cons_of_mem _ (List.mem_cons_of_mem _ (List.mem_cons_of_mem _ (List.mem_cons_of_mem _ (List.mem_cons_self))))) | (with_reducible exact List.mem_cons_of_mem _ (List.mem_cons_of_mem _ (List.mem_cons_of_mem _ (List.mem_cons_of_mem _ (List.mem_cons_of_mem _ (List.mem_cons_self)))))) | (with_reducible exact List.mem_cons_of_mem _ (List.mem_cons_of_mem _ (List.mem_cons_of_mem _ (List.mem_cons_of_mem _ (List.mem_cons_of_mem _ (List.mem_cons_of_mem _ (List.mem_cons_self))))))) | (with_reducible exact List.mem_cons_of_mem _ (List.mem_cons_of_mem _ (List.mem_cons_of_mem _ (List.mem_cons_of_mem _ (List.mem_cons_of_mem _ (List.mem_cons_of_mem _ (List.mem_cons_of_mem _ (List.mem_cons_self)))))))) | (with_reducible exact List.mem_cons_of_mem _ (List.mem_cons_of_mem _ (List.mem_cons_of_mem _ (List.mem_cons_of_mem _ (List.mem_cons_of_mem _ (List.mem_cons_of_mem _ (List.mem_cons_of_mem _ (List.mem_cons_of_mem _ (List.mem_cons_self)))))))))) ?_ ?_
    · exact rfl
    refine ⟨_, by omega, by omega, by omega, by omega, rfl, ?_⟩
    have ht1 : (0 : Int).toNat = 0 := rfl
    have ht2 : ((j : Int)).toNat = j := Int.toNat_natCast j
    have ht3 : ((sx.c : Int)).toNat = sx.c := Int.toNat_natCast _
    have ht4 : ((sx.n : Int)).toNat = sx.n := Int.toNat_natCast _
    have ht5 : ((j : Int) + 1).toNat = j + 1 := by omega
    simp only [ht1, ht2, ht3, ht4, ht5, Nat.sub_zero, cut0 hsc.2.2.1]
    have hcap := hsc.2.1
    refine r_new h ?_
    clear h
    intro t171 w h
    try simp only [add_mk, Nat.zero_add, Nat.reduceAdd]
    refine r_sv h.tail ?_
    have cut : ∀ (i : Nat) (l : List (Int × BS)), (l.flatMap earF).take (i * 2) = (l.take i).flatMap earF ∧ (l.flatMap earF).drop (i * 2) = (l.drop i).flatMap earF := by
      intro i l
      induction l generalizing i with
      | nil => simp
      | cons x l ih =>
        cases i with
        | zero => simp
        | succ i =>
          have e1 : (i + 1) * 2 = (earF x).length + i * 2 := by rw [earF_len]; omega
          simp only [List.flatMap_cons, List.take_succ_cons, List.drop_succ_cons]
          rw [e1, List.take_length_add_append, List.drop_length_add_append, (ih i).1, (ih i).2]
          exact ⟨rfl, rfl⟩
    have hx1 := (h.rdC (List.mem_cons_of_mem _ (List.mem_cons_of_mem _ (List.mem_cons_of_mem _ (List.mem_cons_of_mem _ (List.mem_cons_of_mem _ List.mem_cons_self)))))).take (m := j) (c := sx.c) (by omega)
    rw [(cut j es).1] at hx1
    refine r_append (vs := []) (h.imp (blk_SlC rfl rfl)) (by kernel_rfl) (by kernel_rfl) (by' := 32) (by kernel_rfl) zero_ty_argosyref19_Early rfl hx1 (ears_flat _) (by simp only; omega) (by decide) fun s2 w h hs _ => ?_
    refine r_sv h.tail ?_
    have hx2 := (h.rdC (List.mem_cons_of_mem _ (List.mem_cons_of_mem _ (List.mem_cons_of_mem _ (List.mem_cons_of_mem _ (List.mem_cons_of_mem _ List.mem_cons_self)))))).drop (l := j + 1) (c := sx.c) (by omega) (by omega) hsc.2.2.1
    rw [(cut (j + 1) es).2] at hx2
    refine r_append h (by kernel_rfl) (by kernel_rfl) (by' := 32) (by kernel_rfl) zero_ty_argosyref19_Early rfl hx2 (ears_flat _) (by simp only at hs ⊢; omega) (by decide) fun s' w h _ _ => ?_
    have e2 : [] ++ (es.take j).flatMap earF ++ (es.drop (j + 1)).flatMap earF = (es.eraseIdx j).flatMap earF := by
      rw [List.nil_append, ← List.flatMap_append, List.eraseIdx_eq_take_drop_succ]
    rw [e2] at h
    try simp only [List.set_cons_zero, List.set_cons_succ, List.eraseIdx_zero, List.eraseIdx_cons_zero, List.eraseIdx_cons_succ, List.setIfInBounds_toArray, List.tail_cons] at h
    first | refine r_st 0 h rfl (by with_reducible exact at0) ?_ (nofz _) rfl ?_ | refine r_st 1 h rfl (by with_reducible exact at1) ?_ (nofz _) rfl ?_ | refine r_st 2 h rfl (by with_reducible exact at2) ?_ (nofz _) rfl ?_ | refine r_st 3 h rfl (by with_reducible exact at3) ?_ (nofz _) rfl ?_ | refine r_st 4 h rfl (by with_reducible exact at4) ?_ (nofz _) rfl ?_ | refine r_st 5 h rfl (by with_reducible exact at5) ?_ (nofz _) rfl ?_ | refine r_st 6 h rfl (by with_reducible exact at6) ?_ (nofz _) rfl ?_ | refine r_st 7 h rfl (by with_reducible exact at7) ?_ (nofz _) rfl ?_
    · first | exact Nat.lt_of_ble_eq_true rfl | (simp; done) | (simp; omega)
    clear h
    intro w h
    try simp only [List.set_cons_zero, List.set_cons_succ, List.eraseIdx_zero, List.eraseIdx_cons_zero, List.eraseIdx_cons_succ, List.setIfInBounds_toArray, List.tail_cons] at h
    refine r_ld (x := ex) h rfl (by first | (with_reducible exact List.mem_cons_self) | (with_reducible exact List.mem_cons_of_mem _ (List.mem_cons_self)) | (with_reducible exact List.mem_cons_of_mem _ (List.mem_cons_of_mem _ (List.mem_cons_self))) | (with_reducible exact List.mem_cons_of_mem _ (List.mem_cons_of_mem _ (List.mem_cons_of_mem _ (List.mem_cons_self)))) | (with_reducible exact List.mem_cons_of_mem _ (List.mem_cons_of_mem _ (List.mem_cons_of_mem _ (List.mem_cons_of_mem _ (List.mem_cons_self))))) | (with_reducible exact List.mem_cons_of_mem _ (List.mem_cons_of_mem _ (List.mem_cons_of_mem _ (List.mem_cons_of_mem _ (List.mem_cons_of_mem _ (List.mem_cons_self)))))) | (with_reducible exact List.mem_cons_of_mem _ (List.mem_cons_of_mem _ (List.mem_cons_of_mem _ (List.mem_cons_of_mem _ (List.mem_cons_of_mem _ (List.mem_cons_of_mem _ (List.mem_cons_self))))))) | (with_reducible exact List.mem_cons_of_mem _ (List.mem_cons_of_mem _ (List.mem_cons_of_mem _ (List.mem_cons_of_mem _ (List.mem_cons_of_mem _ (List.mem_cons_of_mem _ (List.mem_cons_of_mem _ (List.mem_cons_self)))))))) | (with_reducible exact List.mem_cons_of_mem _ (List.mem_cons_of_mem _ (List.mem_cons_of_mem _ (List.mem_cons_of_mem _ (List.mem_cons_of_mem _ (List.mem_cons_of_mem _ (List.mem_cons_of_mem _ (List.mem_cons_of_mem _ (List.mem_cons_self)))))))))) ?_ ?_
    · exact rfl
    refine r_ar (wrapU64 (by omega) (by omega)) ?_
    first | refine r_st 0 h rfl (by with_reducible exact at0) ?_ (nofz _) rfl ?_ | refine r_st 1 h rfl (by with_reducible exact at1) ?_ (nofz _) rfl ?_ | refine r_st 2 h rfl (by with_reducible exact at2) ?_ (nofz _) rfl ?_ | refine r_st 3 h rfl (by with_reducible exact at3) ?_ (nofz _) rfl ?_ | refine r_st 4 h rfl (by with_reducible exact at4) ?_ (nofz _) rfl ?_ | refine r_st 5 h rfl (by with_reducible exact at5) ?_ (nofz _) rfl ?_ | refine r_st 6 h rfl (by with_reducible exact at6) ?_ (nofz _) rfl ?_ | refine r_st 7 h rfl (by with_reducible exact at7) ?_ (nofz _) rfl ?_
    · first | exact Nat.lt_of_ble_eq_true rfl | (simp; done) | (simp; omega)
    clear h
    intro w h
    try simp only [List.set_cons_zero, List.set_cons_succ, List.eraseIdx_zero, List.eraseIdx_cons_zero, List.eraseIdx_cons_succ, List.setIfInBounds_toArray, List.tail_cons] at h
    replace h := h.pick 6 at6
    try simp only [List.set_cons_zero, List.set_cons_succ, List.eraseIdx_zero, List.eraseIdx_cons_zero, List.eraseIdx_cons_succ, List.setIfInBounds_toArray, List.tail_cons] at h
    replace h := h.pick 1 at1
    try simp only [List.set_cons_zero, List.set_cons_succ, List.eraseIdx_zero, List.eraseIdx_cons_zero, List.eraseIdx_cons_succ, List.setIfInBounds_toArray, List.tail_cons] at h
    replace h := h.pick 5 at5
    try simp only [List.set_cons_zero, List.set_cons_succ, List.eraseIdx_zero, List.eraseIdx_cons_zero, List.eraseIdx_cons_succ, List.setIfInBounds_toArray, List.tail_cons] at h
    replace h := h.pick 5 at5
    try simp only [List.set_cons_zero, List.set_cons_succ, List.eraseIdx_zero, List.eraseIdx_cons_zero, List.eraseIdx_cons_succ, List.setIfInBounds_toArray, List.tail_cons] at h
    replace h := h.pick 5 at5
    try simp only [List.set_cons_zero, List.set_cons_succ, List.eraseIdx_zero, List.eraseIdx_cons_zero, List.eraseIdx_cons_succ, List.setIfInBounds_toArray, List.tail_cons] at h
    replace h := h.pick 5 at5
    try simp only [List.set_cons_zero, List.set_cons_succ, List.eraseIdx_zero, List.eraseIdx_cons_zero, List.eraseIdx_cons_succ, List.setIfInBounds_toArray, List.tail_cons] at h
    replace h := h.del 6 at6
    try simp only [List.set_cons_zero, List.set_cons_succ, List.eraseIdx_zero, List.eraseIdx_cons_zero, List.eraseIdx_cons_succ, List.setIfInBounds_toArray, List.tail_cons] at h
    rw [← hdel] at h
    refine ⟨⟨cl ++ [x.1], s', mdel ex es, ex + 1, mdel ex e, ?_, hd1, hd2, ?_, by omega, by omega, by simp only [List.length_append, List.length_singleton]; omega, by simp only [List.length_append, List.length_singleton]; omega, h⟩, ?_⟩
    · rw [← h2]; exact (mdel_map Prod.fst ex es).symm
    · rw [← hd3]; simp
    · omega
end
end Go.Proofs.Ytilejcnbacmdnaa
