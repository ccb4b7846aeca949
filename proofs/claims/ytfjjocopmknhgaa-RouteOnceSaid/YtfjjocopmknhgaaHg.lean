/- Plain forms walked over what is owned of the heap: what a word asks for is found by the block's number or by the slice. Holds for every program. -/
import Derived.Test.YtfjjocopmknhgaaMore
import Derived.Test.YtfjjocopmknhgaaWalk
namespace Go.Sep
open Go Go.RowKit
set_option linter.unusedSimpArgs false
set_option linter.unusedVariables false

/-- In every world that bears this, k goes. -/
def HG (B : World) (Γ : List HProp) (k : K) : Prop := ∀ w, Holds B Γ w → k w

/-- What is owned by the block b. -/
class Own (b : Nat) (Γ : List HProp) (A : outParam HProp) (Δ : outParam (List HProp)) : Prop where perm : Γ.Perm (A :: Δ)
class OwnS (s : Sl) (Γ : List HProp) (A : outParam HProp) (Δ : outParam (List HProp)) : Prop where perm : Γ.Perm (A :: Δ)
class Pick (A : HProp) (Γ : List HProp) (Δ : outParam (List HProp)) : Prop where perm : Γ.Perm (A :: Δ)
class Drops (Γ Δ : List HProp) : Prop where imp : ∀ {h : Hp}, stars Γ h → stars Δ h
theorem perm_tail {A X : HProp} {Γ Δ : List HProp} (h : Γ.Perm (A :: Δ)) : (X :: Γ).Perm (A :: X :: Δ) := (h.cons X).trans (List.Perm.swap _ _ _)
instance (priority := low) own_tail {b : Nat} {X A : HProp} {Γ Δ : List HProp} [h : Own b Γ A Δ] : Own b (X :: Γ) A (X :: Δ) := ⟨perm_tail h.perm⟩
instance (priority := high) own_blk {b : Nat} {o : Obj} {Γ : List HProp} : Own b (blk b o :: Γ) (blk b o) Γ := ⟨.refl _⟩
instance (priority := low) ownS_tail {s : Sl} {X A : HProp} {Γ Δ : List HProp} [h : OwnS s Γ A Δ] : OwnS s (X :: Γ) A (X :: Δ) := ⟨perm_tail h.perm⟩
instance (priority := high) ownS_sl {E esz : Nat} {s : Sl} {vs : List Value} {Γ : List HProp} : OwnS s (SlC E esz s vs :: Γ) (SlC E esz s vs) Γ := ⟨.refl _⟩
instance (priority := high) ownS_by {E : Nat} {s : Sl} {vs : List UInt8} {Γ : List HProp} : OwnS s (Bytes E s vs :: Γ) (Bytes E s vs) Γ := ⟨.refl _⟩
instance (priority := low) pick_tail {A X : HProp} {Γ Δ : List HProp} [h : Pick A Γ Δ] : Pick A (X :: Γ) (X :: Δ) := ⟨perm_tail h.perm⟩
instance (priority := high) pick_head {A : HProp} {Γ : List HProp} : Pick A (A :: Γ) Γ := ⟨.refl _⟩
instance (priority := high) drops_pick {A : HProp} {Γ Γ' Δ : List HProp} [p : Pick A Γ Γ'] [d : Drops Γ' Δ] : Drops Γ (A :: Δ) := ⟨fun h => stars_cons_imp (fun _ h => h) (fun _ h => d.imp h) (stars_perm p.perm h)⟩
instance drops_refl {Γ : List HProp} : Drops Γ Γ := ⟨fun h => h⟩
instance (priority := low) drops_nil {Γ : List HProp} : Drops Γ [] := ⟨fun _ => trivial⟩
instance (priority := low) drops_head {A : HProp} {Γ Δ : List HProp} [d : Drops Γ Δ] : Drops (A :: Γ) Δ := ⟨fun h => d.imp (stars_tail h)⟩

section
variable {B w : World} {Γ Δ : List HProp} {k : K} {A A' : HProp}
theorem Holds.drops (h : Holds B Γ w) [d : Drops Γ Δ] : Holds B Δ w := ⟨h.below, d.imp h.stars⟩
theorem hg (h : Holds B Γ w) (hk : HG B Γ k) : k w := hk w h
/-- The rest goes with less. -/
theorem s_end (h : HG B Δ k) [d : Drops Γ Δ] : HG B Γ k := fun w hw => h w hw.drops
theorem s_conv (hi : ∀ h, A h → A' h) (h : HG B (A' :: Γ) k) : HG B (A :: Γ) k := fun w hw => h w (hw.imp hi)
theorem s_ex {α : Sort _} {F : α → HProp} (h : ∀ x, HG B (F x :: Γ) k) : HG B (Sep.ex F :: Γ) k := fun w hw => by
  obtain ⟨x, hx⟩ := Holds.ex.1 hw; exact h x w hx
theorem s_pur {p : Prop} (h : p → HG B Γ k) : HG B (pur p :: Γ) k := fun w hw => by
  obtain ⟨hp, hx⟩ := Holds.pur.1 hw; exact h hp w hx
theorem s_flat (h : HG B (Δ ++ Γ) k) : HG B (Sep.stars Δ :: Γ) k := fun w hw => h w (Holds.flat.1 hw)
theorem s_unflat (h : HG B (Sep.stars Δ :: Γ) k) : HG B (Δ ++ Γ) k := fun w hw => h w (Holds.flat.2 hw)
theorem s_toEx {α : Sort _} {F : α → HProp} (x : α) (h : HG B (Sep.ex F :: Γ) k) : HG B (F x :: Γ) k := fun w hw => h w (Holds.ex.2 ⟨x, hw⟩)
theorem s_toPur {p : Prop} (hp : p) (h : HG B (pur p :: Γ) k) : HG B Γ k := fun w hw => h w (Holds.pur.2 ⟨hp, hw⟩)
theorem s_fact {p : Prop} (hi : ∀ h, A h → p) (h : p → HG B (A :: Γ) k) : HG B (A :: Γ) k := fun w hw => h (hw.fact hi) w hw
theorem s_pick (A : HProp) (h : HG B (A :: Δ) k) [p : Pick A Γ Δ] : HG B Γ k := fun w hw => h w (hw.perm p.perm)
theorem s_own (b : Nat) (h : HG B (A :: Δ) k) [p : Own b Γ A Δ] : HG B Γ k := fun w hw => h w (hw.perm p.perm)
theorem s_ownS (s : Sl) (h : HG B (A :: Δ) k) [p : OwnS s Γ A Δ] : HG B Γ k := fun w hw => h w (hw.perm p.perm)
theorem s_swap (h : HG B (A' :: A :: Γ) k) : HG B (A :: A' :: Γ) k := fun w hw => h w hw.swap

/-! ### words without memory -/
theorem s_ite {b : Bool} {x y : K} (h1 : b = true → HG B Γ x) (h2 : b = false → HG B Γ y) : HG B Γ (Ite b x y) := fun w hw => ⟨fun hb => h1 hb w hw, fun hb => h2 hb w hw⟩
theorem s_t {b : Bool} {x y : K} (h : HG B Γ x) (hb : b = true := by first | rfl | (simp; done) | (simp; omega)) : HG B Γ (Ite b x y) := fun w hw => r_ite_t hb (h w hw)
theorem s_f {b : Bool} {x y : K} (h : HG B Γ y) (hb : b = false := by first | rfl | (simp; done) | (simp; omega)) : HG B Γ (Ite b x y) := fun w hw => r_ite_f hb (h w hw)
theorem s_ar {e e' : Int} {k : Int → K} (he : e = e') (h : HG B Γ (k e')) : HG B Γ (Ar e k) := fun w hw => r_ar he (h w hw)
theorem s_ai {e : Int} {k : Int → K} (h : HG B Γ (k e)) (h0 : -9223372036854775808 ≤ e := by omega) (h1 : e ≤ 9223372036854775807 := by omega) : HG B Γ (Ar (IntKind.wrap .i64 e) k) := s_ar (wrap64 h0 h1) h
theorem s_cd {p : Prop} (hp : p) (h : HG B Γ k) : HG B Γ (Cd p k) := fun w hw => ⟨hp, h w hw⟩
theorem s_nn {a : Addr} {k : Addr → K} (h : HG B Γ (k a)) : HG B Γ (Nn (some a) k) := fun w hw => ⟨a, rfl, h w hw⟩
theorem s_dr (h : HG B Γ k) : HG B Γ (Dr k) := fun w hw => r_dr hw fun w hw => h w hw
theorem s_ws {k : (World → Prop) → K} (h : HG B Γ (k (Holds B Γ))) : HG B Γ (WithS k) := fun w hw => ⟨Holds B Γ, hw, h w hw⟩
theorem s_sv (h : HG B Γ k) [d : Drops Γ Δ] : HG B Γ (Sv (Holds B Δ) k) := fun w hw => ⟨hw.drops, h w hw⟩
theorem s_fld {α : Type} {cs : List Value} {off : Nat} {c : α → Value} {x : α} {k : α → K} (h : HG B Γ (k x)) (hv : nth cs off = some (c x) := by rfl) : HG B Γ (Fld cs.toArray off c k) := fun w hw => ⟨x, by rw [nth_eq] at hv; simpa using hv, h w hw⟩
theorem s_cat {a b : ByteArray} {k : ByteArray → K} (hl : ((a.size + b.size : Nat) : Int) ≤ 9223372036854775807) (h : HG B Γ (k (a ++ b))) : HG B Γ (Cat a b k) := fun w hw => ⟨_, hl, rfl, h w hw⟩
theorem s_bld {zero : Array Value} {pl : List (Nat × Nat)} {vs : List (Nat × Value)} {cs : List Value} {k : Array Value → K} (h : HG B Γ (k cs.toArray)) (hc : Instr.fill (pl[·]?) zero vs = some cs.toArray := by rfl) : HG B Γ (Bld zero (pl[·]?) vs k) := fun w hw => ⟨_, hc, h w hw⟩
theorem s_bld1 {zero : List Value} {cs : List Value} {n : Nat} {k : Array Value → K} (h : HG B Γ (k cs.toArray)) (hz : zero.length = n := by rfl) (hn : cs.length = n := by rfl) : HG B Γ (Bld zero.toArray (fun i => some (i * n, n)) [(0, .agg cs.toArray)] k) := fun w hw => r_bld1 (by simpa using hz) (by simpa using hn) (h w hw)

/-! ### blocks -/
/-- An address of the block b. -/
class AdrIs (a : Addr) (b off : outParam Nat) : Prop where h : a = ⟨b, off, none⟩
instance adr_mk {b off : Nat} : AdrIs ⟨b, off, none⟩ b off := ⟨rfl⟩
instance adr_add {b off n : Nat} : AdrIs ((⟨b, off, none⟩ : Addr).add n) b (off + n) := ⟨add_mk _ _ _⟩
theorem s_new {T : TypeId} {cs : Array Value} {k : Addr → K} (h : ∀ b, HG B (blk b (.cells cs T (0, 0)) :: Γ) (k ⟨b, 0, none⟩)) : HG B Γ (New T cs k) := fun w hw => r_new hw fun b w hw => h b w hw
theorem own_blkOf {b : Nat} {o : Obj} (h : Holds B Γ w) [p : Own b Γ (blk b o) Δ] : w.heap[b]? = some o := (h.perm p.perm).block
theorem s_ld {α : Type} {a : Addr} {b off : Nat} {l : List Value} {T : TypeId} {fz : Nat × Nat} {c : α → Value} {x : α} {k : α → K} (h : HG B Γ (k x)) [ad : AdrIs a b off] [p : Own b Γ (blk b (.cells l.toArray T fz)) Δ] (hv : nth l off = some (c x) := by rfl) : HG B Γ (Ld a c k) := fun w hw =>
  ⟨x, by rw [ad.h]; exact cell_block (own_blkOf hw (p := p)) (by rw [nth_eq] at hv; simpa using hv), h w hw⟩
theorem rdN_own {b off n : Nat} {l l' : List Value} {T : TypeId} {fz : Nat × Nat} (h : w.heap[b]? = some (.cells l.toArray T fz)) (hl : (l.drop off).take n = l') (hn : l'.length = n) : RdN w ⟨b, off, none⟩ l'.toArray := by
  refine rdN_block h fun i hi => ?_
  have hi' : i < l'.length := by simpa using hi
  have : l'[i]? = l[off + i]? := by rw [← hl, List.getElem?_take, if_pos (by omega), List.getElem?_drop]
  simpa using this.symm
theorem s_ldN {a : Addr} {b off n : Nat} {l l' : List Value} {T : TypeId} {fz : Nat × Nat} {k : Array Value → K} (h : HG B Γ (k l'.toArray)) [ad : AdrIs a b off] [p : Own b Γ (blk b (.cells l.toArray T fz)) Δ]
    (hl : (l.drop off).take n = l' := by first | rfl | simp only [Nat.zero_add, Nat.reduceAdd, List.drop_zero, List.drop_succ_cons, List.take_succ_cons, List.take_zero]) (hn : l'.length = n := by rfl) : HG B Γ (LdN a n k) := fun w hw =>
  ⟨l'.toArray, by simpa using hn, by rw [ad.h]; exact rdN_own (own_blkOf hw (p := p)) hl hn, h w hw⟩
variable {Γ0 : List HProp}
theorem s_ldS {α : Type} {a : Addr} {b off : Nat} {l : List Value} {T : TypeId} {fz : Nat × Nat} {c : α → Value} {x : α} {k : α → K} (h : HG B Γ (k x)) [ad : AdrIs a b off] [p : Own b Γ0 (blk b (.cells l.toArray T fz)) Δ] (hv : nth l off = some (c x) := by rfl) : HG B Γ (LdS (Holds B Γ0) a c k) := fun w hw =>
  ⟨x, fun w' hw' => by rw [ad.h]; exact cell_block (own_blkOf hw' (p := p)) (by rw [nth_eq] at hv; simpa using hv), h w hw⟩
theorem s_ldNS {a : Addr} {b off n : Nat} {l l' : List Value} {T : TypeId} {fz : Nat × Nat} {k : Array Value → K} (h : HG B Γ (k l'.toArray)) [ad : AdrIs a b off] [p : Own b Γ0 (blk b (.cells l.toArray T fz)) Δ]
    (hl : (l.drop off).take n = l' := by first | rfl | simp only [Nat.zero_add, Nat.reduceAdd, List.drop_zero, List.drop_succ_cons, List.take_succ_cons, List.take_zero]) (hn : l'.length = n := by rfl) : HG B Γ (LdNS (Holds B Γ0) a n k) := fun w hw =>
  ⟨l'.toArray, by simpa using hn, fun w' hw' => by rw [ad.h]; exact rdN_own (own_blkOf hw' (p := p)) hl hn, h w hw⟩
theorem t0 {v x0 : Value} {l : List Value} : (x0 :: l).set 0 v = v :: l := rfl
theorem t1 {v x0 x1 : Value} {l : List Value} : (x0 :: x1 :: l).set 1 v = x0 :: v :: l := rfl
theorem t2 {v x0 x1 x2 : Value} {l : List Value} : (x0 :: x1 :: x2 :: l).set 2 v = x0 :: x1 :: v :: l := rfl
theorem t3 {v x0 x1 x2 x3 : Value} {l : List Value} : (x0 :: x1 :: x2 :: x3 :: l).set 3 v = x0 :: x1 :: x2 :: v :: l := rfl
theorem t4 {v x0 x1 x2 x3 x4 : Value} {l : List Value} : (x0 :: x1 :: x2 :: x3 :: x4 :: l).set 4 v = x0 :: x1 :: x2 :: x3 :: v :: l := rfl
theorem t5 {v x0 x1 x2 x3 x4 x5 : Value} {l : List Value} : (x0 :: x1 :: x2 :: x3 :: x4 :: x5 :: l).set 5 v = x0 :: x1 :: x2 :: x3 :: x4 :: v :: l := rfl
theorem t6 {v x0 x1 x2 x3 x4 x5 x6 : Value} {l : List Value} : (x0 :: x1 :: x2 :: x3 :: x4 :: x5 :: x6 :: l).set 6 v = x0 :: x1 :: x2 :: x3 :: x4 :: x5 :: v :: l := rfl
theorem t7 {v x0 x1 x2 x3 x4 x5 x6 x7 : Value} {l : List Value} : (x0 :: x1 :: x2 :: x3 :: x4 :: x5 :: x6 :: x7 :: l).set 7 v = x0 :: x1 :: x2 :: x3 :: x4 :: x5 :: x6 :: v :: l := rfl
theorem set_auto {l l' : List Value} {off : Nat} {v : Value} (h : l.set off v = l' := by first | exact t0 | exact t1 | exact t2 | exact t3 | exact t4 | exact t5 | exact t6 | exact t7 | rfl) : l.set off v = l' := h
theorem s_st {a : Addr} {b off : Nat} {l l' : List Value} {T : TypeId} {v : Value} (h : HG B (blk b (.cells l'.toArray T (0, 0)) :: Δ) k) [ad : AdrIs a b off] [p : Own b Γ (blk b (.cells l.toArray T (0, 0))) Δ] (ho : Nat.ble (off + 1) l.length = true := by rfl)
    (hl : l.set off v = l' := by exact set_auto) (hv : flatV v = true := by rfl) : HG B Γ (St a v k) := fun w hw => by
  have h1 := hw.perm p.perm
  refine S0 h1 ad.h (by have := Nat.le_of_ble_eq_true ho; simp only [List.size_toArray]; omega) hv fun w2 h2 => h w2 ?_
  rw [N6, hl] at h2; exact h2
theorem s_stN {a : Addr} {b n : Nat} {l l' : List Value} {T : TypeId} (h : HG B (blk b (.cells l'.toArray T (0, 0)) :: Δ) k) [ad : AdrIs a b 0] [p : Own b Γ (blk b (.cells l.toArray T (0, 0))) Δ] (hn : l.length = n := by rfl) (hn' : l'.length = n := by rfl)
    (hf : l'.all flatV = true := by rfl) : HG B Γ (StN a n l'.toArray k) := fun w hw =>
  T0 (hw.perm p.perm) ad.h (by simpa using hn) (by simpa using hn') (fun v hv => List.all_eq_true.1 hf v (by simpa using hv)) fun w2 h2 => h w2 h2

/-! ### slices -/
/-- The place of an element. -/
def elA (s : Sl) (i esz : Nat) : Addr := (s.a.getD ⟨0, 0, none⟩).add (i * esz)
theorem own_rd {s : Sl} {E esz : Nat} {vs : List Value} (h : Holds B Γ w) [p : OwnS s Γ (SlC E esz s vs) Δ] : RdC w s esz vs ∧ vs.length = s.n * esz ∧ s.n ≤ s.c ∧ (∀ a, s.a = some a → a.spot = none) ∧ (s.a = none → s.c = 0) := by
  have h1 := h.perm p.perm
  exact ⟨h1.rdC List.mem_cons_self, h1.slCap⟩
theorem own_cap {s : Sl} {E esz : Nat} {vs : List Value} (h : Holds B Γ w) (p : OwnS s Γ (SlC E esz s vs) Δ) : vs.length = s.n * esz ∧ s.n ≤ s.c ∧ (∀ a, s.a = some a → a.spot = none) ∧ (s.a = none → s.c = 0) := (own_rd h (p := p)).2
/-- What a slice of one's own says of itself. -/
theorem s_cap (s : Sl) {E esz : Nat} {vs : List Value} [p : OwnS s Γ (SlC E esz s vs) Δ] (h : vs.length = s.n * esz → s.n ≤ s.c → (∀ a, s.a = some a → a.spot = none) → (s.a = none → s.c = 0) → HG B Γ k) : HG B Γ k := fun w hw => by
  obtain ⟨h1, h2, h3, h4⟩ := own_cap hw p
  exact h h1 h2 h3 h4 w hw
theorem s_idx {s : Sl} {i : Nat} {ii : Int} {esz : Nat} {E : Nat} {vs : List Value} {k : Addr → K} (h : HG B Γ (k (elA s i esz))) [p : OwnS s Γ (SlC E esz s vs) Δ] (hi : ii = (i : Int) := by first | rfl | omega) (hn : i < s.n := by omega) : HG B Γ (Idx s ii esz k) := fun w hw => by
  obtain ⟨h1, h2, h3, h4⟩ := own_cap hw p
  subst hi
  cases ha : s.a with
  | none => have := h4 ha; omega
  | some a => exact ⟨a, elA s i esz, ha, by omega, by omega, by simp [elA, ha], h w hw⟩
theorem el_cell {s : Sl} {i off esz : Nat} {vs : List Value} {v : Value} (h : RdC w s esz vs) (hsp : ∀ a, s.a = some a → a.spot = none) (hv : vs[i * esz + off]? = some v) : w.cell? ((elA s i esz).add off) = some v := by
  have hlt := (List.getElem?_eq_some_iff.1 hv).1
  cases ha : s.a with
  | none => have := h.nil ha; have := h.len; simp_all
  | some a =>
    have h1 := h.at' a ha _ hlt
    simp only [elA, ha, Option.getD_some]
    rw [add_add' _ (hsp a ha), h1, hv]
theorem s_ldE {α : Type} {s : Sl} {i off esz E : Nat} {vs : List Value} {c : α → Value} {x : α} {k : α → K} (hv : vs[i * esz + off]? = some (c x)) (h : HG B Γ (k x)) [p : OwnS s Γ (SlC E esz s vs) Δ] : HG B Γ (Ld ((elA s i esz).add off) c k) := fun w hw => by
  obtain ⟨h0, h1, h2, h3, h4⟩ := own_rd hw (p := p)
  exact ⟨x, el_cell h0 h3 hv, h w hw⟩
theorem add0 (a : Addr) : a.add 0 = a := by simp [Addr.add]
theorem s_ldE0 {α : Type} {s : Sl} {i esz E : Nat} {vs : List Value} {c : α → Value} {x : α} {k : α → K} (hv : vs[i * esz]? = some (c x)) (h : HG B Γ (k x)) [p : OwnS s Γ (SlC E esz s vs) Δ] : HG B Γ (Ld (elA s i esz) c k) := by
  rw [← add0 (elA s i esz)]; exact s_ldE (by simpa using hv) h
theorem s_ldEN {s : Sl} {i off n esz E : Nat} {vs : List Value} {l' : List Value} {k : Array Value → K} (hv : (vs.drop (i * esz + off)).take n = l') (hn : l'.length = n) (h : HG B Γ (k l'.toArray)) [p : OwnS s Γ (SlC E esz s vs) Δ] : HG B Γ (LdN ((elA s i esz).add off) n k) := fun w hw => by
  obtain ⟨h0, h1, h2, h3, h4⟩ := own_rd hw (p := p)
  refine ⟨l'.toArray, by simpa using hn, fun j hj => ?_, h w hw⟩
  have hj' : j < l'.length := by simpa using hj
  have hx : vs[i * esz + (off + j)]? = some l'[j] := by
    have : l'[j]? = vs[i * esz + off + j]? := by rw [← hv, List.getElem?_take, if_pos (by omega), List.getElem?_drop]
    rw [← Nat.add_assoc, ← this, List.getElem?_eq_getElem hj']
  have h5 := el_cell h0 h3 hx
  have h6 : ((elA s i esz).add off).add j = (elA s i esz).add (off + j) := by
    cases ha : s.a with
    | none => have := h0.nil ha; have h7 := (List.getElem?_eq_some_iff.1 hx).1; simp_all
    | some a =>
      simp only [elA, ha, Option.getD_some]
      have hsp : (a.add (i * esz)).spot = none := by obtain ⟨b, o, t⟩ := a; have := h3 _ ha; simp only at this; subst this; rw [add_mk]
      rw [add_add' _ hsp]
  rw [h6, h5]; simp [hj']
end
end Go.Sep
