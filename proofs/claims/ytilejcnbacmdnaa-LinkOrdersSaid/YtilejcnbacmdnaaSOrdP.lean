/- LinkOrders, the plain law: two sides, and packets under way. -/
import Derived.Test.YtilejcnbacmdnaaSLinkP
namespace Go.Proofs.Ytilejcnbacmdnaa
open Go Go.Sep
set_option linter.unusedSimpArgs false
set_option linter.unusedVariables false
set_option maxRecDepth 100000

/-- Two sides: what each knows, what is under way to it, what it sent and got. -/
structure PairD where
  d : Bool → LinkD
  way : Bool → List PacketD
  sent : Bool → List (List UInt8)
  got : Bool → List (List UInt8)
def epS : Bool → Int
  | false => 3
  | true => 5

/-- A packet that comes from the side that sent S, which has come to ex, to the side of epoch es. -/
structure PkIn (S : List (List UInt8)) (et es ex : Int) (p : PacketD) : Prop where
  ep : p.ep = et
  ak : p.ak ≤ ex - 1
  da : p.pe = es → 1 ≤ p.sq → S[(p.sq - 1).toNat]? = some p.da
  s0 : 0 ≤ p.sq
  s1 : p.sq ≤ 1000000
  sz : p.da.length ≤ 1000000000

structure SideI (S got : List (List UInt8)) (mine : List (List UInt8)) (es et : Int) (d : LinkD) (exT : Int) : Prop where
  ep : d.ep = es
  pe : d.pe = 0 ∨ d.pe = et
  fresh : d.pe = 0 → d.ba = 1 ∧ d.ex = 1 ∧ d.early = []
  ba1 : 1 ≤ d.ba
  out : d.out = mine.drop (d.ba - 1).toNat
  baT : d.ba ≤ exT
  ai : AI S got d

theorem ackL_spec (a : Int) : ∀ (o : List (List UInt8)) (ba : Int), ∃ n : Nat, n ≤ o.length ∧ ackL a o ba = (o.drop n, ba + n) ∧ (n < o.length → a < ba + n) ∧ (0 < n → ba + n - 1 ≤ a)
  | [], ba => ⟨0, by simp, by simp [ackL], by simp, by simp⟩
  | x :: o, ba => by
    unfold ackL
    split
    · rename_i hle
      obtain ⟨n, h1, h2, h3, h4⟩ := ackL_spec a o (ba + 1)
      refine ⟨n + 1, by simpa using h1, ?_, fun h => ?_, fun _ => ?_⟩
      · rw [h2]; simp; omega
      · have := h3 (by simpa using h); omega
      · by_cases hn : 0 < n
        · have := h4 hn; omega
        · have : n = 0 := by omega
          subst this; omega
    · exact ⟨0, by simp, by simp, fun _ => by simp; omega, by simp⟩

/-- Acknowledging keeps what is open the end of what was sent. -/
theorem ack_side {d : LinkD} {a : Int} {mine : List (List UInt8)} {exT : Int} (hba1 : 1 ≤ d.ba) (hout : d.out = mine.drop (d.ba - 1).toNat) (hb : d.ba ≤ exT) (ha : a ≤ exT - 1) :
    1 ≤ (d.ack a).ba ∧ (d.ack a).out = mine.drop ((d.ack a).ba - 1).toNat ∧ (d.ack a).ba ≤ exT ∧ d.ba ≤ (d.ack a).ba ∧ ((mine.length : Int) ≤ a → (d.ack a).out = []) := by
  obtain ⟨n, h1, h2, h3, h4⟩ := ackL_spec a d.out d.ba
  have hl : d.out.length = mine.length - (d.ba - 1).toNat := by rw [hout]; simp
  simp only [LinkD.ack, h2]
  refine ⟨by omega, ?_, ?_, by omega, fun hm => ?_⟩
  · rw [hout, List.drop_drop]
    congr 1; omega
  · by_cases hn : 0 < n
    · have := h4 hn; omega
    · have : n = 0 := by omega
      subst this; omega
  · by_cases hn : n < d.out.length
    · have := h3 hn; omega
    · rw [List.drop_of_length_le]
      omega

theorem keep_eq (d : LinkD) (p : PacketD) : (d.keep p).drained.1.ep = d.ep ∧ (d.keep p).drained.1.pe = d.pe ∧ (d.keep p).drained.1.ba = d.ba ∧ (d.keep p).drained.1.out = d.out := by
  have : (d.keep p).ep = d.ep ∧ (d.keep p).pe = d.pe ∧ (d.keep p).ba = d.ba ∧ (d.keep p).out = d.out := by
    unfold LinkD.keep; split <;> exact ⟨rfl, rfl, rfl, rfl⟩
  exact this

/-- What a packet does to a side. -/
structure RecvS (S got mine : List (List UInt8)) (es et exT : Int) (d : LinkD) (p : PacketD) : Prop where
  inv : SideI S (got ++ (d.receive p).2.1) mine es et (d.receive p).1 exT
  pe : (d.receive p).1.pe = et
  ex : d.ex ≤ (d.receive p).1.ex
  ba : d.ba ≤ (d.receive p).1.ba
  out : d.out = [] → (d.receive p).1.out = []
  full : p.pe = es → (mine.length : Int) ≤ p.ak → (d.receive p).1.out = []
  mono : ∀ q, hasCome d q → hasCome (d.receive p).1 q
  has : p.pe = es → 1 ≤ p.sq → p.sq < d.ex + 16 → hasCome (d.receive p).1 p.sq
  ans : ∀ a ∈ (d.receive p).2.2, a.ep = es ∧ a.pe = et ∧ a.sq = 0 ∧ a.ak = (d.receive p).1.ex - 1 ∧ a.da = []
  ans1 : p.sq ≠ 0 ∨ p.pe ≠ es → (d.receive p).2.2 ≠ []
  ownOut : (d.receive p).1.out.length ≤ d.out.length

theorem recvS {S got mine : List (List UInt8)} {es et exT : Int} {d : LinkD} {p : PacketD} (het : 0 < et) (h : SideI S got mine es et d exT) (hp : PkIn S et es exT p) : RecvS S got mine es et exT d p := by
  have hpe := h.pe
  have hpp := hp.ep
  have hno : ¬ (p.ep = 0 ∨ p.ep < d.pe) := by omega
  -- meeting
  have hm : (d.meet p.ep).ep = d.ep ∧ (d.meet p.ep).pe = et ∧ (d.meet p.ep).ba = d.ba ∧ (d.meet p.ep).ex = d.ex ∧ (d.meet p.ep).out = d.out ∧ (d.meet p.ep).early = d.early := by
    unfold LinkD.meet
    split
    · have h0 : d.pe = 0 := by omega
      obtain ⟨f1, f2, f3⟩ := h.fresh h0
      exact ⟨rfl, hpp, f1.symm, f2.symm, rfl, f3.symm⟩
    · exact ⟨rfl, by omega, rfl, rfl, rfl, rfl⟩
  obtain ⟨m1, m2, m3, m4, m5, m6⟩ := hm
  have hai : AI S got (d.meet p.ep) := ⟨by rw [m4]; exact h.ai.ex1, by rw [m4]; exact h.ai.got, by rw [m4]; exact h.ai.top, by rw [m6]; exact h.ai.ear, by rw [m4, m6]; exact h.ai.non⟩
  by_cases h2 : p.pe ≠ (d.meet p.ep).ep
  · have e : d.receive p = (d.meet p.ep, [], [(d.meet p.ep).helloP]) := by unfold LinkD.receive; rw [if_neg hno]; simp only; rw [if_pos h2]
    have h2' : p.pe ≠ es := by rw [m1, h.ep] at h2; exact h2
    rw [show RecvS S got mine es et exT d p ↔ RecvS S got mine es et exT d p from Iff.rfl]
    refine ⟨?_, by rw [e]; exact m2, by rw [e]; exact Int.le_of_eq m4.symm, by rw [e]; exact Int.le_of_eq m3.symm, fun ho => by rw [e]; exact m5.trans ho, fun hh => absurd hh h2', ?_, fun hh => absurd hh h2', ?_, fun _ => by rw [e]; simp, by rw [e]; simp only [m5]; exact Nat.le_refl _⟩
    · rw [e]
      simp only [List.append_nil]
      exact ⟨m1.trans h.ep, .inr m2, fun hz => by rw [m2] at hz; omega, by rw [m3]; exact h.ba1, by rw [m5, m3]; exact h.out, by rw [m3]; exact h.baT, hai⟩
    · intro q hq
      rw [e]
      unfold hasCome at hq ⊢
      rw [m4, m6]; exact hq
    · rw [e]
      intro a ha
      simp only [List.mem_singleton] at ha
      subst ha
      exact ⟨m1.trans h.ep, m2, rfl, rfl, rfl⟩
  have h2' : p.pe = es := by rw [m1, h.ep] at h2; simpa using h2
  obtain ⟨a1, a2, a3, a4, a5⟩ := ack_side (d := d.meet p.ep) (a := p.ak) (mine := mine) (exT := exT) (by rw [m3]; exact h.ba1) (by rw [m5, m3]; exact h.out) (by rw [m3]; exact h.baT) hp.ak
  have hlen : ((d.meet p.ep).ack p.ak).out.length ≤ d.out.length := by
    rw [← m5]
    exact (ackL_len p.ak (d.meet p.ep).out (d.meet p.ep).ba).2.2.2
  have hout0 : d.out = [] → ((d.meet p.ep).ack p.ak).out = [] := fun ho => by
    rw [ho] at hlen
    exact List.length_eq_zero_iff.1 (by simpa using hlen)
  have haia : AI S got ((d.meet p.ep).ack p.ak) := ⟨hai.ex1, hai.got, hai.top, hai.ear, hai.non⟩
  by_cases h3 : p.sq = 0
  · have e : d.receive p = ((d.meet p.ep).ack p.ak, [], []) := by unfold LinkD.receive; rw [if_neg hno]; simp only; rw [if_neg h2, if_pos h3]
    refine ⟨?_, by rw [e]; exact m2, by rw [e]; exact Int.le_of_eq m4.symm, by rw [e, ← m3]; exact a4, fun ho => by rw [e]; exact hout0 ho, fun _ hh => by rw [e]; exact a5 hh, ?_, fun _ hs => by omega, by rw [e]; simp, fun hh => ?_, by rw [e]; exact hlen⟩
    · rw [e]
      simp only [List.append_nil]
      exact ⟨m1.trans h.ep, .inr m2, fun hz => by have : ((d.meet p.ep).ack p.ak).pe = et := m2
                                                  rw [this] at hz; omega, a1, a2, a3, haia⟩
    · intro q hq
      rw [e]
      unfold hasCome at hq ⊢
      show q < (d.meet p.ep).ex ∨ ∃ y ∈ (d.meet p.ep).early, y.1 = q
      rw [m4, m6]; exact hq
    · rcases hh with hh | hh
      · exact absurd h3 hh
      · exact absurd h2' hh
  have e : d.receive p = ((((d.meet p.ep).ack p.ak).keep p).drained.1, (((d.meet p.ep).ack p.ak).keep p).drained.2, [(((d.meet p.ep).ack p.ak).keep p).drained.1.helloP]) := by
    unfold LinkD.receive; rw [if_neg hno]; simp only; rw [if_neg h2, if_neg h3]
  obtain ⟨g1, g2, g3, g4⟩ := haia.recv (p := p) (hp.da h2') h3
  obtain ⟨k1, k2, k3, k4⟩ := keep_eq ((d.meet p.ep).ack p.ak) p
  have hce : ∀ q, hasCome d q → hasCome ((d.meet p.ep).ack p.ak) q := fun q hq => by
    unfold hasCome at hq ⊢
    show q < (d.meet p.ep).ex ∨ ∃ y ∈ (d.meet p.ep).early, y.1 = q
    rw [m4, m6]; exact hq
  have hexe : ((d.meet p.ep).ack p.ak).ex = d.ex := m4
  refine ⟨?_, by rw [e]; exact k2.trans m2, by rw [e, ← hexe]; exact g4, by rw [e, k3, ← m3]; exact a4, fun ho => by rw [e, k4]; exact hout0 ho, fun _ hh => by rw [e, k4]; exact a5 hh, fun q hq => by rw [e]; exact g2 q (hce q hq), fun _ _ h16 => by rw [e]; exact g3 (by rw [hexe]; exact h16), ?_, fun _ => by rw [e]; simp, by rw [e, k4]; exact hlen⟩
  · rw [e]
    exact ⟨k1.trans (m1.trans h.ep), .inr (k2.trans m2), fun hz => by rw [k2] at hz; have : ((d.meet p.ep).ack p.ak).pe = et := m2
                                                                      rw [this] at hz; omega, by rw [k3]; exact a1, by rw [k4, k3]; exact a2, by rw [k3]; exact a3, g1⟩
  · rw [e]
    intro a ha
    simp only [List.mem_singleton] at ha
    subst ha
    exact ⟨k1.trans (m1.trans h.ep), k2.trans m2, rfl, rfl, rfl⟩

def upd {α : Type} (f : Bool → α) (s : Bool) (x : α) : Bool → α := fun t => if t = s then x else f t
theorem upd_self {α : Type} (f : Bool → α) (s : Bool) (x : α) : upd f s x s = x := by simp [upd]
theorem upd_other {α : Type} (f : Bool → α) (s : Bool) (x : α) : upd f s x (!s) = f (!s) := by cases s <;> simp [upd]
theorem upd_other' {α : Type} (f : Bool → α) (s : Bool) (x : α) : upd f (!s) x s = f s := by cases s <;> simp [upd]

structure PairI (st : PairD) : Prop where
  side : ∀ s, SideI (st.sent (!s)) (st.got s) (st.sent s) (epS s) (epS (!s)) (st.d s) (st.d (!s)).ex
  way : ∀ s, ∀ p ∈ st.way s, PkIn (st.sent (!s)) (epS (!s)) (epS s) (st.d (!s)).ex p
  size : ∀ s, ∀ x ∈ st.sent s, x.length ≤ 500
  many : ∀ s, (st.sent s).length ≤ 1000

def PairD.come (st : PairD) (s : Bool) (p : PacketD) : PairD :=
  { d := upd st.d s ((st.d s).receive p).1, way := upd st.way (!s) (st.way (!s) ++ ((st.d s).receive p).2.2), sent := st.sent, got := upd st.got s (st.got s ++ ((st.d s).receive p).2.1) }

theorem epS_pos (s : Bool) : 0 < epS s := by cases s <;> decide

theorem SideI.mono {S got mine : List (List UInt8)} {es et exT exT' : Int} {d : LinkD} (h : SideI S got mine es et d exT) (hx : exT ≤ exT') : SideI S got mine es et d exT' :=
  ⟨h.ep, h.pe, h.fresh, h.ba1, h.out, Int.le_trans h.baT hx, h.ai⟩
theorem PkIn.mono {S : List (List UInt8)} {et es ex ex' : Int} {p : PacketD} (h : PkIn S et es ex p) (hx : ex ≤ ex') : PkIn S et es ex' p :=
  ⟨h.ep, by have := h.ak; omega, h.da, h.s0, h.s1, h.sz⟩

theorem PairI.recv {st : PairD} (h : PairI st) (s : Bool) {p : PacketD} (hp : PkIn (st.sent (!s)) (epS (!s)) (epS s) (st.d (!s)).ex p) :
    RecvS (st.sent (!s)) (st.got s) (st.sent s) (epS s) (epS (!s)) (st.d (!s)).ex (st.d s) p := recvS (epS_pos _) (h.side s) hp

theorem bool_cases {P : Bool → Prop} (s : Bool) (h1 : P s) (h2 : P (!s)) : ∀ t, P t := by
  intro t
  cases s <;> cases t <;> first | exact h1 | exact h2

theorem PairI.come {st : PairD} (h : PairI st) (s : Bool) {p : PacketD} (hp : PkIn (st.sent (!s)) (epS (!s)) (epS s) (st.d (!s)).ex p) : PairI (st.come s p) := by
  have hr := h.recv s hp
  refine ⟨bool_cases s ?_ ?_, bool_cases s ?_ ?_, h.size, h.many⟩
  · simp only [PairD.come, upd_self, upd_other]
    exact hr.inv
  · have := h.side (!s)
    rw [Bool.not_not] at this
    simp only [PairD.come, upd_other, Bool.not_not, upd_self]
    exact this.mono hr.ex
  · intro q hq
    simp only [PairD.come, upd_other, upd_other'] at hq ⊢
    exact h.way s q hq
  · intro q hq
    simp only [PairD.come, upd_self, Bool.not_not] at hq ⊢
    rcases List.mem_append.1 hq with hq | hq
    · have := h.way (!s) q hq
      rw [Bool.not_not] at this
      exact this.mono hr.ex
    · obtain ⟨a1, a2, a3, a4, a5⟩ := hr.ans q hq
      exact ⟨a1, by omega, fun _ hh => by omega, by omega, by omega, by rw [a5]; simp⟩

/-- What a side sends now may come to the other one. -/
theorem packets_in {S got mine : List (List UInt8)} {es et exT : Int} {d : LinkD} (h : SideI S got mine es et d exT) (het : 0 < et) (hex : 1 ≤ d.ex) (hmany : mine.length ≤ 1000) (hsz : ∀ x ∈ mine, x.length ≤ 500) (hne : et ≠ 0) :
    ∀ p ∈ d.packets, PkIn mine es et d.ex p := by
  intro p hp
  unfold LinkD.packets at hp
  split at hp
  · simp only [List.mem_singleton] at hp
    subst hp
    exact ⟨h.ep, by simp only; omega, fun hh => by simp only at hh; omega, by simp, by simp, by simp⟩
  · obtain ⟨y, hy, rfl⟩ := List.mem_map.1 hp
    obtain ⟨n, hn⟩ := List.mem_iff_getElem?.1 hy
    have hba := h.ba1
    rw [List.getElem?_zipIdx] at hn
    cases hd : d.out[n]? with
    | none => rw [hd] at hn; simp at hn
    | some x =>
      rw [hd] at hn
      simp only [Option.map_some, Option.some.injEq, Nat.zero_add] at hn
      subst hn
      have hm : mine[(d.ba - 1).toNat + n]? = some x := by rw [h.out, List.getElem?_drop] at hd; exact hd
      have hlt := (List.getElem?_eq_some_iff.1 hm).1
      have hx5 := hsz x (List.mem_of_getElem? hm)
      refine ⟨h.ep, by simp only; omega, fun _ _ => ?_, by simp only; omega, by simp only; omega, by simp only; omega⟩
      simp only
      rw [show (d.ba + (n : Int) - 1).toNat = (d.ba - 1).toNat + n by omega]
      exact hm
end Go.Proofs.Ytilejcnbacmdnaa
