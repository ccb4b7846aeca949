/- The plain law of what comes: one side's data, in order. -/
import Derived.Test.YtilejcnbacmdnaaSLink4a
namespace Go.Proofs.Ytilejcnbacmdnaa
open Go Go.Sep
set_option linter.unusedSimpArgs false
set_option linter.unusedVariables false
set_option maxRecDepth 100000

section
variable {α β : Type} [DecidableEq α]
theorem mget_mem {k : α} {x : β} : ∀ {m : List (α × β)}, mget k m = some x → (k, x) ∈ m
  | [], h => by cases h
  | p :: m, h => by
    unfold mget at h
    split at h
    · rename_i hk
      obtain rfl := Option.some.inj h
      subst hk; exact List.mem_cons_self
    · exact List.mem_cons_of_mem _ (mget_mem h)
theorem mget_none {k : α} : ∀ {m : List (α × β)}, mget k m = none → ∀ p ∈ m, p.1 ≠ k
  | [], _, p, hp => by cases hp
  | q :: m, h, p, hp => by
    unfold mget at h
    split at h
    · cases h
    · rename_i hk
      rcases List.mem_cons.1 hp with rfl | hp
      · exact fun e => hk e.symm
      · exact mget_none h p hp
theorem mdel_sub {k : α} : ∀ {m : List (α × β)} {p : α × β}, p ∈ mdel k m → p ∈ m
  | [], p, h => h
  | q :: m, p, h => by
    unfold mdel at h
    split at h
    · exact List.mem_cons_of_mem _ h
    · rcases List.mem_cons.1 h with rfl | h
      · exact List.mem_cons_self
      · exact List.mem_cons_of_mem _ (mdel_sub h)
theorem mdel_or {k : α} : ∀ {m : List (α × β)} {p : α × β}, p ∈ m → p ∈ mdel k m ∨ p.1 = k
  | [], p, h => by cases h
  | q :: m, p, h => by
    unfold mdel
    split
    · rename_i hk
      rcases List.mem_cons.1 h with rfl | h
      · exact .inr hk.symm
      · exact .inl h
    · rcases List.mem_cons.1 h with rfl | h
      · exact .inl List.mem_cons_self
      · rcases mdel_or h with h | h
        · exact .inl (List.mem_cons_of_mem _ h)
        · exact .inr h
theorem mdel_keys {k : α} : ∀ {m : List (α × β)}, (m.map Prod.fst).Nodup → ((mdel k m).map Prod.fst).Nodup ∧ ∀ p ∈ mdel k m, p.1 ≠ k
  | [], h => ⟨h, by simp [mdel]⟩
  | q :: m, h => by
    rw [List.map_cons, List.nodup_cons] at h
    unfold mdel
    split
    · rename_i hk
      refine ⟨h.2, fun p hp e => h.1 ?_⟩
      rw [← hk, ← e]; exact List.mem_map_of_mem hp
    · rename_i hk
      obtain ⟨h1, h2⟩ := mdel_keys h.2
      refine ⟨?_, fun p hp => ?_⟩
      · rw [List.map_cons, List.nodup_cons]
        refine ⟨fun hm => h.1 ?_, h1⟩
        obtain ⟨p, hp, e⟩ := List.mem_map.1 hm
        rw [← e]; exact List.mem_map_of_mem (mdel_sub hp)
      · rcases List.mem_cons.1 hp with rfl | hp
        · exact fun e => hk e.symm
        · exact h2 p hp
end

abbrev Ear := List (Int × List UInt8)
/-- The early data are data that were sent, each once. -/
def earOk (S : List (List UInt8)) (e : Ear) : Prop := (∀ p ∈ e, 1 ≤ p.1 ∧ S[(p.1 - 1).toNat]? = some p.2) ∧ (e.map Prod.fst).Nodup

structure DrainOk (S : List (List UInt8)) (ex : Int) (e : Ear) (r : Int × Ear × List (List UInt8)) : Prop where
  came : S.take (ex - 1).toNat ++ r.2.2 = S.take (r.1 - 1).toNat
  le : ex ≤ r.1
  top : r.1 - 1 ≤ S.length
  none : mget r.1 r.2.1 = none
  sub : ∀ p ∈ r.2.1, p ∈ e
  ok : earOk S r.2.1
  or : ∀ p ∈ e, p ∈ r.2.1 ∨ (ex ≤ p.1 ∧ p.1 < r.1)

theorem drain_ok (S : List (List UInt8)) : ∀ (n : Nat) (ex : Int) (e : Ear), e.length ≤ n → 1 ≤ ex → ex - 1 ≤ S.length → earOk S e → DrainOk S ex e (drain n ex e)
  | 0, ex, e, hn, hx, ht, he => by
    have : e = [] := List.length_eq_zero_iff.1 (by omega)
    subst this
    exact ⟨by simp [drain], Int.le_refl _, ht, rfl, by simp [drain], he, by simp⟩
  | n + 1, ex, e, hn, hx, ht, he => by
    unfold drain
    cases hm : mget ex e with
    | none => exact ⟨by simp, Int.le_refl _, ht, hm, fun p hp => hp, he, fun p hp => .inl hp⟩
    | some x =>
      have hl := mdel_len hm
      obtain ⟨h1, h2⟩ := he.1 _ (mget_mem hm)
      obtain ⟨k1, k2⟩ := mdel_keys (k := ex) he.2
      have hlt := (List.getElem?_eq_some_iff.1 h2).1
      have hge := (List.getElem?_eq_some_iff.1 h2).2
      simp only at h1 hlt hge
      have ih := drain_ok S n (ex + 1) (mdel ex e) (by omega) (by omega) (by omega) ⟨fun p hp => he.1 p (mdel_sub hp), k1⟩
      refine ⟨?_, by have := ih.le; simp only; omega, ih.top, ih.none, fun p hp => mdel_sub (ih.sub p hp), ih.ok, fun p hp => ?_⟩
      · rw [← ih.came]
        have e1 : (ex + 1 - 1).toNat = (ex - 1).toNat + 1 := by omega
        rw [e1, List.take_succ_eq_append_getElem hlt, hge]
        simp
      · rcases mdel_or (k := ex) hp with hp | hp
        · rcases ih.or p hp with h | h
          · exact .inl h
          · exact .inr ⟨by omega, h.2⟩
        · exact .inr ⟨by omega, by have := ih.le; simp only; omega⟩

/-- What a side has got of what the other one sent. -/
structure AI (S got : List (List UInt8)) (d : LinkD) : Prop where
  ex1 : 1 ≤ d.ex
  got : got = S.take (d.ex - 1).toNat
  top : d.ex - 1 ≤ S.length
  ear : earOk S d.early
  non : mget d.ex d.early = none

/-- A number that has come. -/
def hasCome (d : LinkD) (q : Int) : Prop := q < d.ex ∨ ∃ p ∈ d.early, p.1 = q

theorem AI.recv {S got : List (List UInt8)} {d : LinkD} {p : PacketD} (h : AI S got d) (hp : 1 ≤ p.sq → S[(p.sq - 1).toNat]? = some p.da) (hp0 : p.sq ≠ 0) :
    AI S (got ++ (d.keep p).drained.2) (d.keep p).drained.1 ∧ (∀ q, hasCome d q → hasCome (d.keep p).drained.1 q) ∧ (p.sq < d.ex + 16 → hasCome (d.keep p).drained.1 p.sq) ∧ d.ex ≤ (d.keep p).drained.1.ex := by
  have he : earOk S (d.keep p).early := by
    unfold LinkD.keep
    split
    · rename_i hc
      obtain ⟨h1, h2, h3⟩ := hc
      have h1' : mget p.sq d.early = none := by cases hm : mget p.sq d.early with
        | none => rfl
        | some x => rw [hm] at h1; cases h1
      have hx := h.ex1
      refine ⟨fun q hq => ?_, ?_⟩
      · rcases List.mem_append.1 hq with hq | hq
        · exact h.ear.1 q hq
        · simp only [List.mem_singleton] at hq
          subst hq
          exact ⟨by simp only; omega, hp (by omega)⟩
      · simp only [List.map_append, List.map_cons, List.map_nil]
        refine List.nodup_append.2 ⟨h.ear.2, by simp, ?_⟩
        intro a ha b hb
        simp only [List.mem_singleton] at hb
        subst hb
        obtain ⟨y, hy, rfl⟩ := List.mem_map.1 ha
        exact mget_none h1' y hy
    · exact h.ear
  have hex : (d.keep p).ex = d.ex := by unfold LinkD.keep; split <;> rfl
  have hD := drain_ok S (d.keep p).early.length (d.keep p).ex (d.keep p).early (Nat.le_refl _) (by rw [hex]; exact h.ex1) (by rw [hex]; exact h.top) he
  have hle : d.ex ≤ (d.keep p).drained.1.ex := Int.le_trans (Int.le_of_eq hex.symm) hD.le
  have hmono : ∀ q, (∃ y ∈ (d.keep p).early, y.1 = q) → hasCome (d.keep p).drained.1 q := fun q ⟨y, hy, e⟩ => by
    rcases hD.or y hy with g | g
    · exact .inr ⟨y, g, e⟩
    · exact .inl (by rw [← e]; exact g.2)
  refine ⟨⟨by have := h.ex1; omega, ?_, hD.top, hD.ok, hD.none⟩, fun q hq => ?_, fun h16 => ?_, hle⟩
  · rw [h.got]
    have := hD.came
    rw [hex] at this
    simp only [LinkD.drained]
    rw [hex]
    exact this
  · rcases hq with hq | ⟨y, hy, e⟩
    · exact .inl (Int.lt_of_lt_of_le hq hle)
    · refine hmono q ⟨y, ?_, e⟩
      unfold LinkD.keep
      split
      · exact List.mem_append_left _ hy
      · exact hy
  · by_cases h1 : p.sq < d.ex
    · exact .inl (Int.lt_of_lt_of_le h1 hle)
    · by_cases h2 : mget p.sq d.early = none
      · refine hmono _ ⟨(p.sq, p.da), ?_, rfl⟩
        unfold LinkD.keep
        rw [if_pos ⟨by rw [h2]; rfl, by omega, by omega⟩]
        exact List.mem_append_right _ (List.mem_singleton.2 rfl)
      · obtain ⟨x, hx⟩ := Option.ne_none_iff_exists'.1 h2
        refine hmono _ ⟨(p.sq, x), ?_, rfl⟩
        unfold LinkD.keep
        split
        · exact List.mem_append_left _ (mget_mem hx)
        · exact mget_mem hx

/-- When all have come, all is got. -/
theorem AI.all {S got : List (List UInt8)} {d : LinkD} (h : AI S got d) (ha : ∀ q : Int, 1 ≤ q → q ≤ S.length → hasCome d q) : got = S ∧ d.ex = S.length + 1 ∧ d.early.length = d.early.length := by
  have h1 := h.ex1
  have h2 := h.top
  have : d.ex = S.length + 1 := by
    by_cases hlt : d.ex ≤ S.length
    · rcases ha d.ex h1 hlt with g | ⟨p, hp, e⟩
      · omega
      · exact absurd e (mget_none h.non p hp)
    · omega
  refine ⟨?_, this, rfl⟩
  rw [h.got, List.take_of_length_le]
  omega
end Go.Proofs.Ytilejcnbacmdnaa
