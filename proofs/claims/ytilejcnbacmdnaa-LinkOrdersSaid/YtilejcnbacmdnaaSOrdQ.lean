/- LinkOrders, the plain law: sending, and how it ends. -/
import Derived.Test.YtilejcnbacmdnaaSOrdP
namespace Go.Proofs.Ytilejcnbacmdnaa
open Go Go.Sep
set_option linter.unusedSimpArgs false
set_option linter.unusedVariables false
set_option maxRecDepth 100000

theorem AI.more {S got : List (List UInt8)} {d : LinkD} (x : List UInt8) (h : AI S got d) : AI (S ++ [x]) got d := by
  have h1 := h.ex1
  have h2 := h.top
  refine ⟨h.ex1, ?_, by simp only [List.length_append, List.length_singleton]; omega, ⟨fun p hp => ?_, h.ear.2⟩, h.non⟩
  · rw [List.take_append_of_le_length (by omega)]; exact h.got
  · obtain ⟨g1, g2⟩ := h.ear.1 p hp
    have := (List.getElem?_eq_some_iff.1 g2).1
    exact ⟨g1, by rw [List.getElem?_append_left this]; exact g2⟩
theorem PkIn.more {S : List (List UInt8)} {et es ex : Int} {p : PacketD} (x : List UInt8) (h : PkIn S et es ex p) : PkIn (S ++ [x]) et es ex p :=
  ⟨h.ep, h.ak, fun g1 g2 => by
    have g3 := h.da g1 g2
    have := (List.getElem?_eq_some_iff.1 g3).1
    rw [List.getElem?_append_left this]; exact g3, h.s0, h.s1, h.sz⟩

def PairD.send (st : PairD) (s : Bool) (x : List UInt8) : PairD :=
  { st with d := upd st.d s { st.d s with out := (st.d s).out ++ [x] }, sent := upd st.sent s (st.sent s ++ [x]) }
theorem PairI.send {st : PairD} (h : PairI st) (s : Bool) {x : List UInt8} (hx : x.length ≤ 500) (hm : (st.sent s).length < 1000) : PairI (st.send s x) := by
  have h1 := h.side s
  have h2 := h.side (!s)
  rw [Bool.not_not] at h2
  have hba := h1.ba1
  have hbT := h1.baT
  have htop := h2.ai.top
  refine ⟨bool_cases s ?_ ?_, bool_cases s ?_ ?_, bool_cases s ?_ ?_, bool_cases s ?_ ?_⟩
  · simp only [PairD.send, upd_self, upd_other]
    refine ⟨h1.ep, h1.pe, h1.fresh, h1.ba1, ?_, h1.baT, ⟨h1.ai.ex1, h1.ai.got, h1.ai.top, h1.ai.ear, h1.ai.non⟩⟩
    simp only
    rw [List.drop_append_of_le_length (by omega), h1.out]
  · simp only [PairD.send, upd_other, Bool.not_not, upd_self]
    exact ⟨h2.ep, h2.pe, h2.fresh, h2.ba1, h2.out, h2.baT, h2.ai.more x⟩
  · intro p hp
    simp only [PairD.send, upd_other] at hp ⊢
    exact h.way s p hp
  · intro p hp
    have := h.way (!s) p hp
    rw [Bool.not_not] at this
    simp only [PairD.send, Bool.not_not, upd_self]
    exact this.more x
  · intro y hy
    simp only [PairD.send, upd_self] at hy
    rcases List.mem_append.1 hy with hy | hy
    · exact h.size s y hy
    · simp only [List.mem_singleton] at hy; subst hy; exact hx
  · intro y hy
    simp only [PairD.send, upd_other] at hy
    exact h.size (!s) y hy
  · simp only [PairD.send, upd_self, List.length_append, List.length_singleton]; omega
  · simp only [PairD.send, upd_other]; exact h.many (!s)

def PairD.ways (st : PairD) (s : Bool) (l : List PacketD) : PairD := { st with way := upd st.way s l }
theorem PairI.ways {st : PairD} (h : PairI st) (s : Bool) {l : List PacketD} (hl : ∀ p ∈ l, PkIn (st.sent (!s)) (epS (!s)) (epS s) (st.d (!s)).ex p) : PairI (st.ways s l) := by
  refine ⟨h.side, bool_cases s ?_ ?_, h.size, h.many⟩
  · intro p hp
    simp only [PairD.ways, upd_self] at hp
    exact hl p hp
  · intro p hp
    simp only [PairD.ways, upd_other] at hp
    exact h.way (!s) p hp
theorem PairI.packets {st : PairD} (h : PairI st) (s : Bool) : ∀ p ∈ (st.d s).packets, PkIn (st.sent s) (epS s) (epS (!s)) (st.d s).ex p :=
  packets_in (h.side s) (epS_pos _) (h.side s).ai.ex1 (h.many s) (h.size s) (by have := epS_pos (!s); omega)

/-! ### many packets come -/
def PairD.comes (st : PairD) (s : Bool) (l : List PacketD) : PairD := l.foldl (fun st p => st.come s p) st
theorem comes_snoc (st : PairD) (s : Bool) (l : List PacketD) (p : PacketD) : st.comes s (l ++ [p]) = (st.comes s l).come s p := by simp [PairD.comes]

structure ComesI (st : PairD) (s : Bool) (l : List PacketD) : Prop where
  inv : PairI (st.comes s l)
  other : (st.comes s l).d (!s) = st.d (!s)
  sent : (st.comes s l).sent = st.sent
  way : (st.comes s l).way s = st.way s
  ex : (st.d s).ex ≤ ((st.comes s l).d s).ex
  out : (st.d s).out = [] → ((st.comes s l).d s).out = []
  known : (st.d s).pe ≠ 0 ∨ l ≠ [] → ((st.comes s l).d s).pe ≠ 0
  mono : ∀ q, hasCome (st.d s) q → hasCome ((st.comes s l).d s) q
  full : (∃ p ∈ l, p.pe = epS s ∧ ((st.sent s).length : Int) ≤ p.ak) → ((st.comes s l).d s).out = []
  has : ∀ p ∈ l, p.pe = epS s → 1 ≤ p.sq → p.sq < (st.d s).ex + 16 → hasCome ((st.comes s l).d s) p.sq
  ans : ∀ p, l.getLast? = some p → (p.sq ≠ 0 ∨ p.pe ≠ epS s) → ∃ a ∈ (st.comes s l).way (!s), a.pe = epS (!s) ∧ a.ak = ((st.comes s l).d s).ex - 1

theorem comesI {st : PairD} (h : PairI st) (s : Bool) : ∀ (n : Nat) (l : List PacketD), l.length = n → (∀ p ∈ l, PkIn (st.sent (!s)) (epS (!s)) (epS s) (st.d (!s)).ex p) → ComesI st s l
  | 0, l, hn, _ => by
    have : l = [] := List.length_eq_zero_iff.1 hn
    subst this
    exact ⟨h, rfl, rfl, rfl, Int.le_refl _, fun h => h, fun hh => hh.elim (fun hh => hh) (fun hh => absurd rfl hh), fun q hq => hq, fun ⟨p, hp, _⟩ => (by cases hp), fun p hp => (by cases hp), fun p hp => (by cases hp)⟩
  | n + 1, l, hn, hl => by
    have hne : l ≠ [] := by intro e; subst e; simp at hn
    obtain ⟨l', p, rfl⟩ : ∃ l' p, l = l' ++ [p] := ⟨l.dropLast, l.getLast hne, (List.dropLast_concat_getLast hne).symm⟩
    have ih := comesI h s n l' (by simpa using hn) (fun q hq => hl q (List.mem_append_left _ hq))
    have hp := hl p (List.mem_append_right _ (List.mem_singleton.2 rfl))
    have hp2 : PkIn ((st.comes s l').sent (!s)) (epS (!s)) (epS s) ((st.comes s l').d (!s)).ex p := by rw [ih.other, ih.sent]; exact hp
    have hr := ih.inv.recv s hp2
    have hi := ih.inv.come s hp2
    have e := comes_snoc st s l' p
    have ed : ((st.comes s (l' ++ [p])).d s) = (((st.comes s l').d s).receive p).1 := by rw [e]; simp [PairD.come, upd_self]
    have hex := ih.ex
    have hrex := hr.ex
    refine ⟨by rw [e]; exact hi, ?_, by rw [e]; exact ih.sent, ?_, ?_, ?_, ?_, ?_, ?_, ?_, ?_⟩
    · rw [e]; simp only [PairD.come, upd_other]; exact ih.other
    · rw [e]; simp only [PairD.come, upd_other']; exact ih.way
    · rw [ed]; omega
    · intro ho; rw [ed]; exact hr.out (ih.out ho)
    · intro _; rw [ed, hr.pe]; have := epS_pos (!s); omega
    · intro q hq; rw [ed]; exact hr.mono q (ih.mono q hq)
    · rintro ⟨q, hq, q1, q2⟩
      rw [ed]
      rcases List.mem_append.1 hq with hq | hq
      · exact hr.out (ih.full ⟨q, hq, q1, q2⟩)
      · simp only [List.mem_singleton] at hq
        subst hq
        exact hr.full q1 (by rw [ih.sent]; exact q2)
    · intro q hq q1 q2 q3
      rw [ed]
      rcases List.mem_append.1 hq with hq | hq
      · exact hr.mono _ (ih.has q hq q1 q2 q3)
      · simp only [List.mem_singleton] at hq
        subst hq
        exact hr.has q1 q2 (by omega)
    · intro q hq q1
      rw [List.getLast?_append] at hq
      simp only [List.getLast?_singleton, Option.some_or, Option.some.injEq] at hq
      subst hq
      have hne := hr.ans1 q1
      obtain ⟨a, ha⟩ := List.exists_mem_of_ne_nil _ hne
      obtain ⟨a1, a2, a3, a4, a5⟩ := hr.ans a ha
      refine ⟨a, ?_, a2, ?_⟩
      · rw [e]; simp only [PairD.come, upd_self]; exact List.mem_append_right _ ha
      · rw [ed]; exact a4

/-! ### a phase: what a side sends now comes to the other, and what is under way to it comes -/
def PairD.phase (st : PairD) (s : Bool) : PairD := ((st.comes (!s) (st.d s).packets).comes s ((st.comes (!s) (st.d s).packets).way s)).ways s []

structure PhaseI (st st' : PairD) (s : Bool) : Prop where
  inv : PairI st'
  sent : st'.sent = st.sent
  known : ∀ t, (st.d t).pe ≠ 0 → (st'.d t).pe ≠ 0
  out : ∀ t, (st.d t).out = [] → (st'.d t).out = []
  meets : (st'.d s).pe ≠ 0 ∨ (st'.d s).out = []
  ends : (st.d s).pe ≠ 0 → (st'.d s).out = []

theorem phaseI {st : PairD} (h : PairI st) (s : Bool) (hfew : (st.d s).out.length ≤ 16) : PhaseI st (st.phase s) s := by
  have hpk := h.packets s
  have c1 := comesI h (!s) _ (st.d s).packets rfl (by rw [Bool.not_not]; exact hpk)
  have e1 : ((st.comes (!s) (st.d s).packets).d s) = st.d s := by have := c1.other; rwa [Bool.not_not] at this
  have hw : ∀ p ∈ (st.comes (!s) (st.d s).packets).way s, PkIn ((st.comes (!s) (st.d s).packets).sent (!s)) (epS (!s)) (epS s) ((st.comes (!s) (st.d s).packets).d (!s)).ex p := c1.inv.way s
  have c2 := comesI c1.inv s _ ((st.comes (!s) (st.d s).packets).way s) rfl hw
  have hi := c2.inv.ways s (l := []) (fun p hp => by cases hp)
  have hside := h.side s
  have hpe := hside.pe
  have hep := epS_pos (!s)
  -- the end where the other side's life is known
  have ends : (st.d s).pe ≠ 0 → ((st.phase s).d s).out = [] := by
    intro hk
    show (((st.comes (!s) (st.d s).packets).comes s ((st.comes (!s) (st.d s).packets).way s)).d s).out = []
    by_cases ho : (st.d s).out = []
    · exact c2.out (by rw [e1]; exact ho)
    · have hpkl : (st.d s).packets = (st.d s).out.zipIdx.map fun x => ⟨(st.d s).ep, (st.d s).pe, (st.d s).ba + x.2, (st.d s).ex - 1, x.1⟩ := by
        unfold LinkD.packets; rw [if_neg (fun hh => hk hh.2)]
      have hpet : (st.d s).pe = epS (!s) := by omega
      have hba := hside.ba1
      have hbT := hside.baT
      have hout := hside.out
      have hol : (st.d s).out.length = (st.sent s).length - ((st.d s).ba - 1).toNat := by rw [hout]; simp
      have hopos : 0 < (st.d s).out.length := List.length_pos_iff.2 ho
      have hother := c1.inv.side (!s)
      rw [Bool.not_not, c1.sent] at hother
      -- all have come to the other side
      have hall : ∀ q : Int, 1 ≤ q → q ≤ (st.sent s).length → hasCome ((st.comes (!s) (st.d s).packets).d (!s)) q := by
        intro q hq1 hq2
        by_cases hqb : q < (st.d s).ba
        · exact c1.mono q (.inl (by omega))
        · have hn : (q - (st.d s).ba).toNat < (st.d s).out.length := by omega
          have hx : (st.d s).out[(q - (st.d s).ba).toNat]? = some (st.d s).out[(q - (st.d s).ba).toNat] := List.getElem?_eq_getElem hn
          have hz : (st.d s).out.zipIdx[(q - (st.d s).ba).toNat]? = some ((st.d s).out[(q - (st.d s).ba).toNat], (q - (st.d s).ba).toNat) := by
            rw [List.getElem?_zipIdx, hx]; simp
          have hmem := List.mem_map_of_mem (f := fun x : List UInt8 × Nat => (⟨(st.d s).ep, (st.d s).pe, (st.d s).ba + x.2, (st.d s).ex - 1, x.1⟩ : PacketD)) (List.mem_of_getElem? hz)
          rw [← hpkl] at hmem
          have hsq : (st.d s).ba + (((q - (st.d s).ba).toNat : Nat) : Int) = q := by omega
          have := c1.has _ hmem hpet (by simp only; omega) (by simp only; omega)
          simp only at this
          rwa [hsq] at this
      obtain ⟨g1, g2, _⟩ := hother.ai.all hall
      -- the last answer
      have hlast : ∃ p, (st.d s).packets.getLast? = some p ∧ p.pe = epS (!s) ∧ 1 ≤ p.sq := by
        have hnl : (st.d s).packets ≠ [] := by
          rw [hpkl]
          intro e
          have := congrArg List.length e
          simp at this
          exact ho this
        refine ⟨_, List.getLast?_eq_some_getLast hnl, ?_⟩
        have hm := List.getLast_mem hnl
        generalize (st.d s).packets.getLast hnl = p at hm
        rw [hpkl] at hm
        obtain ⟨y, hy, rfl⟩ := List.mem_map.1 hm
        exact ⟨hpet, by simp only; omega⟩
      obtain ⟨p, hp1, hp2, hp3⟩ := hlast
      obtain ⟨a, ha1, ha2, ha3⟩ := c1.ans p hp1 (.inl (by omega))
      rw [Bool.not_not] at ha1 ha2
      refine c2.full ⟨a, ha1, ha2, ?_⟩
      rw [c1.sent, ha3, g2]
      omega
  refine ⟨hi, ?_, bool_cases s ?_ ?_, bool_cases s ?_ ?_, ?_, ends⟩
  · show ((st.comes (!s) (st.d s).packets).comes s _).sent = _
    rw [c2.sent, c1.sent]
  · intro hk
    exact c2.known (.inl (by rw [e1]; exact hk))
  · intro hk
    show (((st.comes (!s) (st.d s).packets).comes s _).d (!s)).pe ≠ 0
    rw [c2.other]
    exact c1.known (.inl hk)
  · intro ho
    exact c2.out (by rw [e1]; exact ho)
  · intro ho
    show (((st.comes (!s) (st.d s).packets).comes s _).d (!s)).out = []
    rw [c2.other]
    exact c1.out ho
  · by_cases hk : (st.d s).pe = 0
    · by_cases ho : (st.d s).out = []
      · exact .inr (c2.out (by rw [e1]; exact ho))
      · refine .inl (c2.known (.inr ?_))
        have hpk1 : (st.d s).packets = [⟨(st.d s).ep, 0, 0, 0, []⟩] := by unfold LinkD.packets; rw [if_pos ⟨ho, hk⟩]
        obtain ⟨a, ha1, _⟩ := c1.ans ⟨(st.d s).ep, 0, 0, 0, []⟩ (by rw [hpk1]; rfl) (.inr (by simp only; omega))
        rw [Bool.not_not] at ha1
        exact List.ne_nil_of_mem ha1
    · exact .inr (ends hk)

/-- When nothing is open, all is got. -/
theorem got_all {st : PairD} (h : PairI st) (s : Bool) (ho : (st.d s).out = []) : st.got (!s) = st.sent s := by
  have h1 := h.side s
  have h2 := h.side (!s)
  rw [Bool.not_not] at h2
  have hl : (st.d s).out.length = (st.sent s).length - ((st.d s).ba - 1).toNat := by rw [h1.out]; simp
  rw [ho] at hl
  simp only [List.length_nil] at hl
  have := h1.ba1
  have := h1.baT
  rw [h2.ai.got, List.take_of_length_le]
  omega
end Go.Proofs.Ytilejcnbacmdnaa
