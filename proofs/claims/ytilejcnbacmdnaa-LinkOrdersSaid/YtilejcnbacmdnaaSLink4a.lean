/- Facts about what comes to a side. -/
import Derived.Test.YtilejcnbacmdnaaSLink3
namespace Go.Proofs.Ytilejcnbacmdnaa
open Go Go.Sep
set_option linter.unusedSimpArgs false
set_option linter.unusedVariables false
set_option maxRecDepth 100000

structure RecvF (d : LinkD) (p : PacketD) : Prop where
  came : (d.receive p).2.1 ≠ [] → d.pe ≤ p.ep ∧ p.pe = d.ep ∧ p.ep ≠ 0
  ans1 : (d.receive p).2.2.length ≤ 1
  ep : (d.receive p).1.ep = d.ep
  pe : (d.receive p).1.pe = max d.pe p.ep ∨ (p.ep = 0 ∧ (d.receive p).1.pe = d.pe)
  ans : ∀ a ∈ (d.receive p).2.2, a.ep = d.ep ∧ a.pe = (d.receive p).1.pe ∧ a.sq = 0 ∧ a.da = []
  few : (d.receive p).1.early.length ≤ d.early.length + 1

theorem meet_facts (d : LinkD) (e : Int) (h : ¬ (e = 0 ∨ e < d.pe)) : (d.meet e).ep = d.ep ∧ (d.meet e).pe = e ∧ (d.meet e).early.length ≤ d.early.length := by
  unfold LinkD.meet
  split
  · exact ⟨rfl, rfl, by simp⟩
  · exact ⟨rfl, by omega, Nat.le_refl _⟩
theorem keep_facts (d : LinkD) (p : PacketD) : (d.keep p).ep = d.ep ∧ (d.keep p).pe = d.pe ∧ (d.keep p).early.length ≤ d.early.length + 1 := by
  unfold LinkD.keep
  split
  · exact ⟨rfl, rfl, by simp⟩
  · exact ⟨rfl, rfl, by omega⟩
theorem drained_few (d : LinkD) : d.drained.1.early.length ≤ d.early.length := by
  obtain ⟨h1, h2⟩ := drain_len d.early.length d.ex d.early
  simp only [LinkD.drained]; omega
theorem recvF (d : LinkD) (p : PacketD) : RecvF d p := by
  by_cases h1 : p.ep = 0 ∨ p.ep < d.pe
  · have e : d.receive p = (d, [], []) := by unfold LinkD.receive; rw [if_pos h1]
    refine ⟨by rw [e]; simp, by rw [e]; simp, by rw [e], ?_, by rw [e]; simp, by rw [e]; simp only; omega⟩
    rw [e]
    rcases h1 with h1 | h1
    · exact .inr ⟨h1, rfl⟩
    · exact .inl (by simp only; omega)
  obtain ⟨m1, m2, m3⟩ := meet_facts d p.ep h1
  by_cases h2 : p.pe ≠ (d.meet p.ep).ep
  · have e : d.receive p = (d.meet p.ep, [], [(d.meet p.ep).helloP]) := by unfold LinkD.receive; rw [if_neg h1]; simp only; rw [if_pos h2]
    refine ⟨by rw [e]; simp, by rw [e]; simp, by rw [e]; exact m1, .inl (by rw [e]; simp only; omega), ?_, by rw [e]; simp only; omega⟩
    rw [e]
    intro a ha
    simp only [List.mem_singleton] at ha
    subst ha
    exact ⟨m1, rfl, rfl, rfl⟩
  by_cases h3 : p.sq = 0
  · have e : d.receive p = ((d.meet p.ep).ack p.ak, [], []) := by unfold LinkD.receive; rw [if_neg h1]; simp only; rw [if_neg h2, if_pos h3]
    exact ⟨by rw [e]; simp, by rw [e]; simp, by rw [e]; exact m1, .inl (by rw [e]; simp only [LinkD.ack]; omega), by rw [e]; simp, by rw [e]; simp only [LinkD.ack]; omega⟩
  have e : d.receive p = ((((d.meet p.ep).ack p.ak).keep p).drained.1, (((d.meet p.ep).ack p.ak).keep p).drained.2, [(((d.meet p.ep).ack p.ak).keep p).drained.1.helloP]) := by
    unfold LinkD.receive; rw [if_neg h1]; simp only; rw [if_neg h2, if_neg h3]
  obtain ⟨k1, k2, k3⟩ := keep_facts ((d.meet p.ep).ack p.ak) p
  have f := drained_few (((d.meet p.ep).ack p.ak).keep p)
  have e1 : (((d.meet p.ep).ack p.ak).keep p).drained.1.ep = d.ep := k1.trans m1
  have e2 : (((d.meet p.ep).ack p.ak).keep p).drained.1.pe = p.ep := k2.trans m2
  refine ⟨fun _ => ⟨by omega, by simpa [m1] using h2, by omega⟩, by rw [e]; simp, by rw [e]; exact e1, .inl (by rw [e]; simp only; omega), ?_, ?_⟩
  · rw [e]
    intro a ha
    simp only [List.mem_singleton] at ha
    subst ha
    exact ⟨e1, rfl, rfl, rfl⟩
  · rw [e]
    have : ((d.meet p.ep).ack p.ak).early = (d.meet p.ep).early := rfl
    rw [this] at k3
    simp only; omega

section
variable {B w : World} {Γ : List HProp}

/-- A packet of the arguments. -/
def PkOk (B : World) (x : PacketD × Sl) : Prop := RdB B x.2 x.1.da ∧ 0 ≤ x.1.ep ∧ 0 ≤ x.1.sq ∧ x.1.sq ≤ 18446744073709551615

theorem BsR.len {s : Sl} {l : List (List UInt8)} (h : Holds B (BsR s l :: Γ) w) : s.n = l.length := by
  obtain ⟨ls, hl, h⟩ := BsR.opens h
  have h1 := h.slCap.1
  have h2 := congrArg List.length hl
  simp at h1 h2; omega
theorem PkR.len {s : Sl} {l : List PacketD} (h : Holds B (PkR s l :: Γ) w) : s.n = l.length := by
  obtain ⟨ls, hl, h⟩ := PkR.opens h
  have h1 := h.slCap.1
  have h2 := congrArg List.length hl
  rw [flatMap_len pkF 5 pkF_len] at h1
  simp at h2; omega

end
end Go.Proofs.Ytilejcnbacmdnaa
