/- Texts of the claim EvalUndone, one behind the other. -/
import Derived.Test.YtfjjocopmknhgaaEvalUndoneM3
/- A B-tree: a kid is filled up from its left, its right, or joined. Holds for every program. -/
namespace Go.Sep
open Go Go.RowKit
set_option linter.unusedSimpArgs false
set_option linter.unusedVariables false
namespace Bt
section
variable {κ : Type} {G : BtD κ} {c : κ → κ → Int} {B : World} {Γ Δ : List HProp}
theorem its_n {s : Sl} {its : List G.It} (h : (its.flatMap G.f).length = s.n * (G.nv + 1)) : s.n = its.length := by
  rw [flatMap_len G.f _ G.f_len] at h
  exact (Nat.eq_of_mul_eq_mul_right (by omega) h).symm
theorem kps_n {s : Sl} {kp : List (Option Addr)} (h : (kp.map Value.pointer).length = s.n * 1) : s.n = kp.length := by rw [kp_len] at h; omega
theorem flat_f (ok : BtOk G.toBtT c) (x : G.It) : (G.f x).all flatV = true := List.all_eq_true.2 (f_flat ok x)
theorem ins_first {its : List G.It} {x : G.It} : (its.flatMap G.f).take (0 * (G.nv + 1)) ++ G.f x ++ (its.flatMap G.f).drop (0 * (G.nv + 1)) = (x :: its).flatMap G.f := by simp
theorem ins_firstK {kp : List (Option Addr)} {x : Option Addr} : (kp.map Value.pointer).take (0 * 1) ++ [Value.pointer x] ++ (kp.map Value.pointer).drop (0 * 1) = (x :: kp).map Value.pointer := by simp
theorem s_shrinkI {s : Sl} {its : List G.It} {m : Nat} {k : K} (hm : m ≤ s.n) (hc : s.n ≤ s.c) (h : HG B (itsR G.toBtT ⟨s.a, m, s.c⟩ (its.take m) :: Δ) k) [p : OwnS s Γ (itsR G.toBtT s its) Δ] : HG B Γ k := by
  refine s_shrink (s := s) (m := m) (c' := s.c) hm (Nat.le_trans hm hc) (Nat.le_refl _) ?_
  rw [flatMap_take G.f_len]
  exact h
theorem s_shrinkK {s : Sl} {kp : List (Option Addr)} {m : Nat} {k : K} (hm : m ≤ s.n) (hc : s.n ≤ s.c) (h : HG B (kpsR G.toBtT ⟨s.a, m, s.c⟩ (kp.take m) :: Δ) k) [p : OwnS s Γ (kpsR G.toBtT s kp) Δ] : HG B Γ k := by
  refine s_shrink (s := s) (m := m) (c' := s.c) hm (Nat.le_trans hm hc) (Nat.le_refl _) ?_
  rw [show (kp.map Value.pointer).take (m * 1) = (kp.take m).map Value.pointer by simp]
  exact h
theorem s_turnL (ok : BtDOk G c) {d n : Nat} {s kd sp kp sq kq : Sl} {A C : List (Kid G.toBtT)} {p q : Kid G.toBtT} {IA IC ip iq : List G.It} {x y : G.It} {cp cq : List (Kid G.toBtT)} {i : Int} {Q : K}
    (hi : i = ((A.length + 1 : Nat) : Int)) (hA : IA.length = A.length) (hl : IA.length + IC.length ≤ 5) (hC : C.length = IC.length) (hp : 2 ≤ ip.length ∧ ip.length ≤ 5) (hq : iq.length ≤ 1) (hfp : Fit d (ip ++ [y]) cp) (hfq : Fit d iq cq)
    (h : ∀ P' Q', P' ++ y :: Q' = wv (ip ++ [y]) cp ++ x :: wv iq cq → ∀ s' kd', HG B (nodeB G.toBtT n s' kd' :: itsR G.toBtT s' (IA ++ y :: IC) :: kpsR G.toBtT kd' ((A ++ p :: q :: C).map ptr) :: NodeR G.toBtT d 2 p.1 P' :: NodeR G.toBtT d 2 q.1 Q' :: Γ) Q) :
    HG B (nodeB G.toBtT n s kd :: itsR G.toBtT s (IA ++ x :: IC) :: kpsR G.toBtT kd ((A ++ p :: q :: C).map ptr) :: rawL G.toBtT d p.1 sp kp (ip ++ [y]) cp (rawL G.toBtT d q.1 sq kq iq cq Γ)) (nmend_s1 G Q ⟨n, 0, none⟩ i ⟨q.1, 0, none⟩ true) := by
  subst hi
  have okT := ok.toBtOk
  obtain ⟨cp', kz, rfl, hf1, hfz⟩ := fit_split (i1 := ip) (i2 := []) hfp
  refine s_cap s fun a1 a2 a3 a4 => ?_
  refine s_cap kd fun b1 b2 b3 b4 => ?_
  refine s_cap sp fun c1 c2 c3 c4 => ?_
  refine s_cap kp fun d1 d2 d3 d4 => ?_
  refine s_cap sq fun e1 e2 e3 e4 => ?_
  refine s_cap kq fun f1 f2 f3 f4 => ?_
  have hsn := its_n a1
  have hkn := kps_n b1
  have hspn := its_n c1
  have hkpn := kps_n d1
  have hsqn := its_n e1
  have hkqn := kps_n f1
  simp only [List.length_append, List.length_cons, List.length_nil, List.length_map] at hsn hkn hspn hkpn hsqn hkqn
  unfold nmend_s1
  refine s_t ?_
  refine s_ld (b := n) (x := kd) ?_
  refine s_ai ?_
  refine s_idx (s := kd) (i := A.length) ?_
  refine s_ldE0 (s := kd) (x := ptr p) (by simp) ?_
  refine s_nn ?_
  refine s_ld (b := p.1) (x := sp) ?_
  refine s_ai ?_
  refine s_dr ?_
  refine s_ws ?_
  refine s_ai ?_
  refine s_ldS (b := q.1) (x := sq) ?_
  refine s_ldS (b := n) (x := s) ?_
  refine s_idx (s := s) (i := A.length) ?_
  refine s_ldElS (s := s) (x := x) G.f_len (by rw [← hA]; simp) ?_
  refine s_bld1 ?_ (by simp [okT.vz.1]) (G.f_len _)
  refine s_new fun t => ?_
  refine s_sv ?_
  obtain ⟨R, rot, hins⟩ := okT.insI
  refine fun w hw => hins _ _ _ _ _ ?_
  refine hg hw ?_
  clear hw w
  refine s_ins (s := sq) (i := 0) (t := t) (by omega) (by omega) (G.f_len _) (by omega) (fl_flat okT _) (f_flat okT _) (fun sq' hsq' => ?_) okT.TI okT.ZI
  rw [ins_first]
  refine s_st (b := q.1) ?_
  refine s_dr ?_
  refine s_ai ?_
  refine s_ld (b := n) (x := s) ?_
  refine s_ld (b := p.1) (x := sp) ?_
  refine s_idx (s := sp) (i := ip.length) ?_
  refine s_ldEl (s := sp) (x := y) G.f_len (by simp) ?_
  refine s_idx (s := s) (i := IA.length) ?_
  refine s_stEl (s := s) (A := IA) (x := x) (y := y) G.f_len (flat_f okT y) ?_
  refine s_ld (b := p.1) (x := sp) ?_
  refine s_slc (lo := 0) (hi := ip.length) (mx := sp.c) ?_
  rw [cut0 c3]
  refine s_st (b := p.1) ?_
  refine s_shrinkI (s := sp) (m := ip.length) (by omega) c2 ?_
  rw [List.take_left]
  refine s_ld (b := p.1) (x := kp) ?_
  have fin : ∀ sp2 kp2 sq2 kq2, HG B (rawL G.toBtT d p.1 sp2 kp2 ip cp' (rawL G.toBtT d q.1 sq2 kq2 (x :: iq) (kz ++ cq) (nodeB G.toBtT n s kd :: itsR G.toBtT s (IA ++ y :: IC) :: kpsR G.toBtT kd ((A ++ p :: q :: C).map ptr) :: Γ))) Q := fun sp2 kp2 sq2 kq2 => by
    refine s_unraw (m := 2) hf1 hp.2 (fun _ => .inr fun h => by rw [h] at hp; simp at hp) ?_
    refine s_end (Δ := rawL G.toBtT d q.1 sq2 kq2 (x :: iq) (kz ++ cq) (NodeR G.toBtT d 2 p.1 (wv ip cp') :: nodeB G.toBtT n s kd :: itsR G.toBtT s (IA ++ y :: IC) :: kpsR G.toBtT kd ((A ++ p :: q :: C).map ptr) :: Γ)) ?_
    refine s_unraw (m := 2) (fit_app (i1 := []) hfz hfq) (by simp; omega) (fun _ => .inr (by simp)) ?_
    refine s_end (h (wv ip cp') (wv (x :: iq) (kz ++ cq)) ?_ s kd)
    rw [wv_app hf1 hfz, show x :: iq = [] ++ x :: iq from rfl, wv_app hfz hfq]
    simp
  cases d with
  | zero =>
    have e1 : cp' = [] := hf1
    have e2 : kz = [] := hfz
    have e3 : cq = [] := hfq
    subst e1; subst e2; subst e3
    refine s_f ?_ (by simp at hkpn; simp [hkpn])
    simp only [List.append_nil] at fin ⊢
    exact s_end (fin ⟨sp.a, ip.length, sp.c⟩ kp sq' kq)
  | succ d =>
    obtain ⟨z, rfl⟩ : ∃ z, kz = [z] := List.length_eq_one_iff.1 hfz
    have hcl : cp'.length = ip.length + 1 := hf1
    have hcql : cq.length = iq.length + 1 := hfq
    simp only [List.length_cons, List.length_nil] at hkpn
    refine s_t ?_ (by simp; omega)
    refine s_dr ?_
    refine s_ws ?_
    refine s_ai ?_
    refine s_ldS (b := q.1) (x := kq) ?_
    refine s_ldS (b := p.1) (x := kp) ?_
    refine s_idx (s := kp) (i := ip.length + 1) ?_
    refine s_ldES1 (s := kp) (c := Value.pointer) (L := (cp' ++ [z]).map ptr) (x := ptr z) (by rw [← hcl]; simp) ?_
    refine s_new fun t2 => ?_
    refine s_sv ?_
    obtain ⟨R2, rot2, hins2⟩ := okT.insK
    refine fun w hw => hins2 _ _ _ _ _ ?_
    refine hg hw ?_
    clear hw w
    refine s_ins (s := kq) (i := 0) (t := t2) (us := [Value.pointer (ptr z)]) (by omega) (by omega) rfl (by omega) (kp_flat _) (by simp [flatV]) (fun kq' hkq' => ?_) okT.TK okT.ZK
    rw [ins_firstK, show ptr z :: cq.map ptr = ([z] ++ cq).map ptr from rfl]
    refine s_st (b := q.1) ?_
    refine s_ld (b := p.1) (x := kp) ?_
    refine s_ai ?_
    refine s_slc (lo := 0) (hi := ip.length + 1) (mx := kp.c) ?_
    rw [cut0 d3]
    refine s_st (b := p.1) ?_
    refine s_shrinkK (s := kp) (m := ip.length + 1) (by omega) d2 ?_
    rw [show ((cp' ++ [z]).map ptr).take (ip.length + 1) = cp'.map ptr by rw [List.map_append]; exact List.take_left' (by simp [hcl])]
    refine s_pick (kidsD G.toBtT (d + 1) (cp' ++ [z])) ?_
    refine s_part ?_
    refine s_end (Δ := kidsD G.toBtT (d + 1) [z] :: kidsD G.toBtT (d + 1) cq :: kidsD G.toBtT (d + 1) cp' :: nodeB G.toBtT p.1 ⟨sp.a, ip.length, sp.c⟩ ⟨kp.a, ip.length + 1, kp.c⟩ :: itsR G.toBtT ⟨sp.a, ip.length, sp.c⟩ ip :: kpsR G.toBtT ⟨kp.a, ip.length + 1, kp.c⟩ (cp'.map ptr) :: nodeB G.toBtT q.1 sq' kq' :: itsR G.toBtT sq' (x :: iq) :: kpsR G.toBtT kq' (([z] ++ cq).map ptr) :: nodeB G.toBtT n s kd :: itsR G.toBtT s (IA ++ y :: IC) :: kpsR G.toBtT kd ((A ++ p :: q :: C).map ptr) :: Γ) ?_
    refine s_join ?_
    exact s_end (fin ⟨sp.a, ip.length, sp.c⟩ ⟨kp.a, ip.length + 1, kp.c⟩ sq' kq')
end
end Bt
end Go.Sep
/- Steps that ask for no word of mine: what a word reads, and what it leaves, is found by classes. Holds for every program. -/
namespace Go.Sep
open Go Go.RowKit
set_option linter.unusedSimpArgs false
set_option linter.unusedVariables false

/-- From k over Γ one step leads to j over Δ. -/
class Nx (B : World) (Γ : List HProp) (k : K) (Δ : outParam (List HProp)) (j : outParam K) : Prop where h : HG B Δ j → HG B Γ k
class NthV (l : List Value) (n : Nat) (v : outParam Value) : Prop where h : nth l n = some v
class Cv {α : Type} (c : α → Value) (v : Value) (x : outParam α) : Prop where h : v = c x
class SetV (l : List Value) (n : Nat) (v : Value) (l' : outParam (List Value)) : Prop where h : l.set n v = l' ∧ n < l.length
class TakeV (l : List Value) (m n : Nat) (l' : outParam (List Value)) : Prop where h : (l.drop m).take n = l' ∧ l'.length = n
class FlatV (v : Value) : Prop where h : flatV v = true
class FlatL (l : List Value) : Prop where h : l.all flatV = true
class LenV (l : List Value) (n : outParam Nat) : Prop where h : l.length = n
class BoolV (b : Bool) (v : outParam Bool) : Prop where h : b = v
instance nthV0 {v : Value} {l : List Value} : NthV (v :: l) 0 v := ⟨rfl⟩
instance nthV1 {v u : Value} {l : List Value} {n : Nat} [h : NthV l n v] : NthV (u :: l) (n + 1) v := ⟨h.h⟩
instance cvBool {b : Bool} : Cv Value.bool (.bool b) b := ⟨rfl⟩
instance cvInt {k : IntKind} {n : Int} : Cv (Value.int k) (.int k n) n := ⟨rfl⟩
instance cvStr {b : ByteArray} : Cv Value.string (.string b) b := ⟨rfl⟩
instance cvPtr {p : Option Addr} : Cv Value.pointer (.pointer p) p := ⟨rfl⟩
instance cvMap {p : Option Nat} : Cv Value.map (.map p) p := ⟨rfl⟩
instance (priority := high) cvSl {s : Sl} : Cv Sl.val s.val s := ⟨rfl⟩
instance cvSl2 {a : Option Addr} {n c : Nat} : Cv Sl.val (.slice a n c) ⟨a, n, c⟩ := ⟨rfl⟩
instance cvId {v : Value} : Cv id v v := ⟨rfl⟩
instance cvAgg {v : Array Value} : Cv Value.agg (.agg v) v := ⟨rfl⟩
instance setV0 {v u : Value} {l : List Value} : SetV (u :: l) 0 v (v :: l) := ⟨⟨rfl, Nat.zero_lt_succ _⟩⟩
instance setV1 {v u : Value} {l l' : List Value} {n : Nat} [h : SetV l n v l'] : SetV (u :: l) (n + 1) v (u :: l') := ⟨⟨by rw [List.set_cons_succ, h.h.1], Nat.succ_lt_succ h.h.2⟩⟩
instance takeV0 {l : List Value} : TakeV l 0 0 [] := ⟨⟨rfl, rfl⟩⟩
instance takeV1 {u : Value} {l l' : List Value} {n : Nat} [h : TakeV l 0 n l'] : TakeV (u :: l) 0 (n + 1) (u :: l') := ⟨⟨by have := h.h.1; rw [List.drop_zero] at this ⊢; rw [List.take_succ_cons, this], by rw [List.length_cons, h.h.2]⟩⟩
instance takeV2 {u : Value} {l l' : List Value} {m n : Nat} [h : TakeV l m n l'] : TakeV (u :: l) (m + 1) n l' := ⟨h.h⟩
instance flatVB {b : Bool} : FlatV (.bool b) := ⟨rfl⟩
instance flatVI {k : IntKind} {n : Int} : FlatV (.int k n) := ⟨rfl⟩
instance flatVS {b : ByteArray} : FlatV (.string b) := ⟨rfl⟩
instance flatVP {p : Option Addr} : FlatV (.pointer p) := ⟨rfl⟩
instance flatVM {p : Option Nat} : FlatV (.map p) := ⟨rfl⟩
instance flatVSl {a : Option Addr} {n c : Nat} : FlatV (.slice a n c) := ⟨rfl⟩
instance flatL0 : FlatL [] := ⟨rfl⟩
instance flatL1 {v : Value} {l : List Value} [h : FlatV v] [g : FlatL l] : FlatL (v :: l) := ⟨by rw [List.all_cons, h.h, g.h]; rfl⟩
instance lenV0 : LenV [] 0 := ⟨rfl⟩
instance lenV1 {v : Value} {l : List Value} {n : Nat} [h : LenV l n] : LenV (v :: l) (n + 1) := ⟨by rw [List.length_cons, h.h]⟩
instance boolVT : BoolV true true := ⟨rfl⟩
instance boolVF : BoolV false false := ⟨rfl⟩
instance boolVN1 {b : Bool} [h : BoolV b true] : BoolV (!b) false := ⟨by rw [h.h]; rfl⟩
instance boolVN0 {b : Bool} [h : BoolV b false] : BoolV (!b) true := ⟨by rw [h.h]; rfl⟩
instance boolVS {α : Type} {x : α} : BoolV (some x).isNone false := ⟨rfl⟩
instance boolV0 {α : Type} : BoolV (none : Option α).isNone true := ⟨rfl⟩
instance (priority := high) adr_add0 {b n : Nat} : AdrIs ((⟨b, 0, none⟩ : Addr).add n) b n := ⟨by rw [add_mk, Nat.zero_add]⟩

section
variable {B : World} {Γ Δ Γ0 : List HProp} {k j : K}
theorem s_wsD {k : (World → Prop) → K} (Γ0 : List HProp) (h : HG B Γ (k (Holds B Γ0))) [d : Drops Γ Γ0] : HG B Γ (WithS k) := fun w hw => ⟨Holds B Γ0, hw.drops, h w hw⟩
theorem s_nx (h : HG B Δ j) [n : Nx B Γ k Δ j] : HG B Γ k := n.h h
instance nx_nn {a : Addr} {k : Addr → K} : Nx B Γ (Nn (some a) k) Γ (k a) := ⟨s_nn⟩
instance nx_dr : Nx B Γ (Dr k) Γ k := ⟨s_dr⟩
instance nx_ws {k : (World → Prop) → K} : Nx B Γ (WithS k) Γ (k (Holds B Γ)) := ⟨s_ws⟩
instance nx_sv [d : Drops Γ Δ] : Nx B Γ (Sv (Holds B Δ) k) Γ k := ⟨fun h => s_sv h⟩
instance nx_ld {α : Type} {a : Addr} {b off : Nat} {l : List Value} {T : TypeId} {fz : Nat × Nat} {c : α → Value} {v : Value} {x : α} {k : α → K} [ad : AdrIs a b off] [p : Own b Γ (blk b (.cells l.toArray T fz)) Δ] [n : NthV l off v] [e : Cv c v x] : Nx B Γ (Ld a c k) Γ (k x) := ⟨fun h => s_ld h (by rw [n.h, e.h])⟩
instance nx_ldS {α : Type} {a : Addr} {b off : Nat} {l : List Value} {T : TypeId} {fz : Nat × Nat} {c : α → Value} {v : Value} {x : α} {k : α → K} [ad : AdrIs a b off] [p : Own b Γ0 (blk b (.cells l.toArray T fz)) Δ] [n : NthV l off v] [e : Cv c v x] : Nx B Γ (LdS (Holds B Γ0) a c k) Γ (k x) := ⟨fun h => s_ldS h (by rw [n.h, e.h])⟩
instance nx_ldN {a : Addr} {b off n : Nat} {l l' : List Value} {T : TypeId} {fz : Nat × Nat} {k : Array Value → K} [ad : AdrIs a b off] [p : Own b Γ (blk b (.cells l.toArray T fz)) Δ] [t : TakeV l off n l'] : Nx B Γ (LdN a n k) Γ (k l'.toArray) := ⟨fun h => s_ldN h t.h.1 t.h.2⟩
instance nx_ldNS {a : Addr} {b off n : Nat} {l l' : List Value} {T : TypeId} {fz : Nat × Nat} {k : Array Value → K} [ad : AdrIs a b off] [p : Own b Γ0 (blk b (.cells l.toArray T fz)) Δ] [t : TakeV l off n l'] : Nx B Γ (LdNS (Holds B Γ0) a n k) Γ (k l'.toArray) := ⟨fun h => s_ldNS h t.h.1 t.h.2⟩
instance nx_st {a : Addr} {b off : Nat} {l l' : List Value} {T : TypeId} {v : Value} [ad : AdrIs a b off] [p : Own b Γ (blk b (.cells l.toArray T (0, 0))) Δ] [s : SetV l off v l'] [f : FlatV v] : Nx B Γ (St a v k) (blk b (.cells l'.toArray T (0, 0)) :: Δ) k := ⟨fun h => s_st h (Nat.ble_eq_true_of_le s.h.2) s.h.1 f.h⟩
instance nx_stN {a : Addr} {b n : Nat} {l l' : List Value} {T : TypeId} [ad : AdrIs a b 0] [p : Own b Γ (blk b (.cells l.toArray T (0, 0))) Δ] [h1 : LenV l n] [h2 : LenV l' n] [f : FlatL l'] : Nx B Γ (StN a n l'.toArray k) (blk b (.cells l'.toArray T (0, 0)) :: Δ) k := ⟨fun h => s_stN h h1.h h2.h f.h⟩
instance nx_fld {α : Type} {l : List Value} {off : Nat} {c : α → Value} {v : Value} {x : α} {k : α → K} [n : NthV l off v] [e : Cv c v x] : Nx B Γ (Fld l.toArray off c k) Γ (k x) := ⟨fun h => s_fld h (by rw [n.h, e.h])⟩
instance nx_bld1 {zero cs : List Value} {n : Nat} {k : Array Value → K} [h1 : LenV zero n] [h2 : LenV cs n] : Nx B Γ (Bld zero.toArray (fun i => some (i * n, n)) [(0, .agg cs.toArray)] k) Γ (k cs.toArray) := ⟨fun h => s_bld1 h h1.h h2.h⟩
instance nx_t {b : Bool} {x y : K} [h : BoolV b true] : Nx B Γ (Ite b x y) Γ x := ⟨fun g => s_t g h.h⟩
instance nx_f {b : Bool} {x y : K} [h : BoolV b false] : Nx B Γ (Ite b x y) Γ y := ⟨fun g => s_f g h.h⟩
end
/-! ### structs from parts -/
class CellsV (v : Value) (us : outParam (List Value)) : Prop where h : v.cells = us.toArray
class OverV (z : List Value) (off : Nat) (us : List Value) (z' : outParam (List Value)) : Prop where h : off + us.length ≤ z.length ∧ z' = z.take off ++ us ++ z.drop (off + us.length)
class PlaceV (pl : List (Nat × Nat)) (i : Nat) (off n : outParam Nat) : Prop where h : pl[i]? = some (off, n)
class FillV (pl : List (Nat × Nat)) (z : List Value) (ps : List (Nat × Value)) (cs : outParam (List Value)) : Prop where h : Instr.fill (pl[·]?) z.toArray ps = some cs.toArray
instance cellsVA {l : List Value} : CellsV (.agg l.toArray) l := ⟨rfl⟩
instance cellsVB {b : Bool} : CellsV (.bool b) [.bool b] := ⟨rfl⟩
instance cellsVI {k : IntKind} {n : Int} : CellsV (.int k n) [.int k n] := ⟨rfl⟩
instance cellsVS {b : ByteArray} : CellsV (.string b) [.string b] := ⟨rfl⟩
instance cellsVP {p : Option Addr} : CellsV (.pointer p) [.pointer p] := ⟨rfl⟩
instance cellsVM {p : Option Nat} : CellsV (.map p) [.map p] := ⟨rfl⟩
instance cellsVSl {a : Option Addr} {n c : Nat} : CellsV (.slice a n c) [.slice a n c] := ⟨rfl⟩
instance overV0 {z : List Value} : OverV z 0 [] z := ⟨⟨by simp, by simp⟩⟩
instance overV1 {v u : Value} {z us z' : List Value} [h : OverV z 0 us z'] : OverV (v :: z) 0 (u :: us) (u :: z') := ⟨by
  obtain ⟨h1, h2⟩ := h.h
  simp only [Nat.zero_add, List.take_zero, List.nil_append] at h1 h2
  refine ⟨by simp; omega, ?_⟩
  simp only [List.length_cons, Nat.zero_add, List.take_zero, List.nil_append, List.drop_succ_cons, List.cons_append]
  rw [h2]⟩
instance overV2 {v : Value} {z us z' : List Value} {off : Nat} [h : OverV z off us z'] : OverV (v :: z) (off + 1) us (v :: z') := ⟨by
  obtain ⟨h1, h2⟩ := h.h
  refine ⟨by simp; omega, ?_⟩
  rw [h2, show off + 1 + us.length = (off + us.length) + 1 by omega]
  simp⟩
instance placeV0 {o n : Nat} {pl : List (Nat × Nat)} : PlaceV ((o, n) :: pl) 0 o n := ⟨rfl⟩
instance placeV1 {x : Nat × Nat} {o n i : Nat} {pl : List (Nat × Nat)} [h : PlaceV pl i o n] : PlaceV (x :: pl) (i + 1) o n := ⟨h.h⟩
instance fillV0 {pl : List (Nat × Nat)} {z : List Value} : FillV pl z [] z := ⟨rfl⟩
theorem fill_part {pl : Nat → Option (Nat × Nat)} {z us z' : List Value} {i off : Nat} {v : Value} {ps : List (Nat × Value)} (hp : pl i = some (off, us.length)) (hc : v.cells = us.toArray) (h : off + us.length ≤ z.length ∧ z' = z.take off ++ us ++ z.drop (off + us.length)) :
    Instr.fill pl z.toArray ((i, v) :: ps) = Instr.fill pl z'.toArray ps := by
  obtain ⟨h1, rfl⟩ := h
  rw [Instr.fill, hp, hc]
  simp only [List.size_toArray]
  rw [if_neg (by simp; omega)]
  congr 1
  have hl : (z.take off).length = off := by rw [List.length_take]; omega
  have key : ∀ (us m pre C : List Value), pre.length = off → m.length = us.length → ∀ (o : Nat) (pre2 : List Value), pre2.length = off + o → (us.zipIdx o).foldl (fun (cs : Array Value) (p : Value × Nat) => cs.setIfInBounds (off + p.2) p.1) (pre2 ++ m ++ C).toArray = (pre2 ++ us ++ C).toArray := by
    intro us
    induction us with
    | nil => intro m pre C _ hm o pre2 _; rw [List.length_eq_zero_iff.1 hm]; rfl
    | cons u us ih =>
      intro m pre C hp hm o pre2 hp2
      cases m with
      | nil => simp at hm
      | cons x m =>
        simp only [List.zipIdx_cons, List.foldl_cons]
        have e : (pre2 ++ x :: m ++ C).toArray.setIfInBounds (off + o) u = ((pre2 ++ [u]) ++ m ++ C).toArray := by
          apply Array.ext'
          rw [← hp2]
          simp
        rw [e, ih m pre C hp (by simpa using hm) (o + 1) (pre2 ++ [u]) (by simp; omega)]
        simp
  have e : z = z.take off ++ (z.drop off).take us.length ++ z.drop (off + us.length) := by
    rw [← List.drop_drop, List.append_assoc, List.take_append_drop, List.take_append_drop]
  have h3 := key us ((z.drop off).take us.length) (z.take off) (z.drop (off + us.length)) hl (by rw [List.length_take, List.length_drop]; omega) 0 (z.take off) (by omega)
  rw [← e] at h3
  rw [← Array.foldl_toList, Array.toList_zipIdx]
  exact h3
instance fillV1 {pl : List (Nat × Nat)} {z z' us cs : List Value} {i off n : Nat} {v : Value} {ps : List (Nat × Value)} [p : PlaceV pl i off n] [c : CellsV v us] [l : LenV us n] [o : OverV z off us z'] [f : FillV pl z' ps cs] : FillV pl z ((i, v) :: ps) cs :=
  ⟨by rw [fill_part (by rw [l.h]; exact p.h) c.h o.h]; exact f.h⟩
instance nx_bld {pl : List (Nat × Nat)} {B : World} {Γ : List HProp} {z cs : List Value} {ps : List (Nat × Value)} {k : Array Value → K} [f : FillV pl z ps cs] : Nx B Γ (Bld z.toArray (pl[·]?) ps k) Γ (k cs.toArray) := ⟨fun h w hw => ⟨_, f.h, h w hw⟩⟩
end Go.Sep
/- A B-tree: a kid is filled up from its right, or joined. Holds for every program. -/
namespace Go.Sep
open Go Go.RowKit
set_option linter.unusedSimpArgs false
set_option linter.unusedVariables false
namespace Bt
section
variable {κ : Type} {G : BtD κ} {c : κ → κ → Int} {B : World} {Γ Δ : List HProp}
theorem kp_at {L : List (Kid G.toBtT)} {i : Nat} {q : Kid G.toBtT} (h : L[i]? = some q) : ((L.map ptr).map Value.pointer)[i * 1]? = some (Value.pointer (ptr q)) := by simp [h]
theorem at_mid2 {α : Type} {A C : List α} {x y : α} : (A ++ x :: y :: C)[A.length + 1]? = some y := by
  rw [List.getElem?_append_right (by omega), show A.length + 1 - A.length = 1 by omega]; rfl
theorem del_first {x : G.It} {its : List G.It} : ((x :: its).flatMap G.f).take (0 * (G.nv + 1)) ++ ((x :: its).flatMap G.f).drop (1 * (G.nv + 1)) = its.flatMap G.f := by
  rw [flatMap_drop G.f_len]; simp
theorem del_firstK {p : Kid G.toBtT} {kp : List (Kid G.toBtT)} : (((p :: kp).map ptr).map Value.pointer).take (0 * 1) ++ (((p :: kp).map ptr).map Value.pointer).drop (1 * 1) = (kp.map ptr).map Value.pointer := by simp
theorem del_mid {A C : List G.It} {x : G.It} : ((A ++ x :: C).flatMap G.f).take (A.length * (G.nv + 1)) ++ ((A ++ x :: C).flatMap G.f).drop ((A.length + 1) * (G.nv + 1)) = (A ++ C).flatMap G.f := by
  rw [flatMap_take G.f_len, flatMap_drop G.f_len, List.take_left, show A ++ x :: C = (A ++ [x]) ++ C by simp, List.drop_left' (by simp)]; simp
theorem del_midK {A C : List (Kid G.toBtT)} {p q : Kid G.toBtT} : (((A ++ p :: q :: C).map ptr).map Value.pointer).take ((A.length + 1) * 1) ++ (((A ++ p :: q :: C).map ptr).map Value.pointer).drop ((A.length + 2) * 1) = ((A ++ p :: C).map ptr).map Value.pointer := by
  rw [Nat.mul_one, Nat.mul_one, ← List.map_take, ← List.map_take, ← List.map_drop, ← List.map_drop]
  rw [show A ++ p :: q :: C = (A ++ [p]) ++ q :: C by simp, List.take_left' (by simp), show (A ++ [p]) ++ q :: C = (A ++ [p, q]) ++ C by simp, List.drop_left' (by simp)]
  simp

theorem s_turnR (ok : BtDOk G c) {d n : Nat} {s kd sr kr sq kq : Sl} {A C : List (Kid G.toBtT)} {q r : Kid G.toBtT} {IA IC ir iq : List G.It} {x y : G.It} {cr cq : List (Kid G.toBtT)} {i : Int} {Q : K}
    (hi : i = (A.length : Int)) (hA : IA.length = A.length) (hl : IA.length + IC.length ≤ 5) (hC : C.length = IC.length) (hr : 1 ≤ ir.length ∧ ir.length ≤ 5) (hq : iq.length ≤ 1) (hfr : Fit d (y :: ir) cr) (hfq : Fit d iq cq)
    (h : ∀ Q' R', Q' ++ y :: R' = wv iq cq ++ x :: wv (y :: ir) cr → ∀ s' kd', HG B (nodeB G.toBtT n s' kd' :: itsR G.toBtT s' (IA ++ y :: IC) :: kpsR G.toBtT kd' ((A ++ q :: r :: C).map ptr) :: NodeR G.toBtT d 2 q.1 Q' :: NodeR G.toBtT d 2 r.1 R' :: Γ) Q) :
    HG B (nodeB G.toBtT n s kd :: itsR G.toBtT s (IA ++ x :: IC) :: kpsR G.toBtT kd ((A ++ q :: r :: C).map ptr) :: rawL G.toBtT d q.1 sq kq iq cq (rawL G.toBtT d r.1 sr kr (y :: ir) cr Γ)) (nmend_s2 G Q ⟨n, 0, none⟩ i ⟨q.1, 0, none⟩ true) := by
  subst hi
  have okT := ok.toBtOk
  obtain ⟨cz, cr', rfl, hfz, hf2⟩ := fit_split (i1 := []) (x := y) (i2 := ir) hfr
  refine s_cap s fun a1 a2 a3 a4 => ?_
  refine s_cap kd fun b1 b2 b3 b4 => ?_
  refine s_cap sr fun c1 c2 c3 c4 => ?_
  refine s_cap kr fun d1 d2 d3 d4 => ?_
  refine s_cap sq fun e1 e2 e3 e4 => ?_
  refine s_cap kq fun f1 f2 f3 f4 => ?_
  have hsn := its_n a1
  have hkn := kps_n b1
  have hsrn := its_n c1
  have hkrn := kps_n d1
  have hsqn := its_n e1
  have hkqn := kps_n f1
  simp only [List.length_append, List.length_cons, List.length_nil, List.length_map] at hsn hkn hsrn hkrn hsqn hkqn
  unfold nmend_s2
  repeat first | refine s_nx ?_ | refine s_ai ?_
  refine s_idx (s := kd) (i := A.length + 1) ?_
  refine s_ldE0 (s := kd) (x := ptr r) (kp_at at_mid2) ?_
  repeat first | refine s_nx ?_ | refine s_ai ?_
  refine s_idx (s := s) (i := A.length) ?_
  refine s_ldElS (s := s) (x := x) G.f_len (by rw [← hA]; simp) ?_
  refine s_bld1 ?_ (by simp [okT.vz.1]) (G.f_len _)
  refine s_new fun t => ?_
  repeat refine s_nx ?_
  refine s_append (s := sq) (us := G.f x) (blk_rd (G.f_len x)) (f_flat okT x) (by simp only; omega) (hT := okT.TI) fun sq' hsq' => ?_
  rw [show iq.flatMap G.f ++ G.f x = (iq ++ [x]).flatMap G.f by simp]
  repeat refine s_nx ?_
  refine s_nn ?_
  repeat refine s_nx ?_
  refine s_idx (s := sr) (i := 0) ?_
  refine s_ldEl (s := sr) (x := y) G.f_len rfl ?_
  refine s_idx (s := s) (i := IA.length) ?_
  refine s_stEl (s := s) (A := IA) (x := x) (y := y) G.f_len (flat_f okT y) ?_
  repeat refine s_nx ?_
  obtain ⟨Z, hdel⟩ := ok.delI
  refine fun w hw => hdel _ _ _ _ _ ?_
  refine hg hw ?_
  clear hw w
  refine s_del (s := sr) (i := 0) (j := 1) (by omega) (by omega) (by omega) (fl_flat okT _) (fun sr' hsr' => ?_) okT.TI
  rw [del_first]
  repeat refine s_nx ?_
  have fin : ∀ sr2 kr2 sq2 kq2, HG B (rawL G.toBtT d q.1 sq2 kq2 (iq ++ [x]) (cq ++ cz) (rawL G.toBtT d r.1 sr2 kr2 ir cr' (nodeB G.toBtT n s kd :: itsR G.toBtT s (IA ++ y :: IC) :: kpsR G.toBtT kd ((A ++ q :: r :: C).map ptr) :: Γ))) Q := fun sr2 kr2 sq2 kq2 => by
    refine s_unraw (m := 2) (fit_app (i2 := []) hfq hfz) (by simp; omega) (fun _ => .inr (by simp)) ?_
    refine s_pick (kidsD G.toBtT d cr') ?_
    refine s_ownS kr2 ?_
    refine s_ownS sr2 ?_
    refine s_own r.1 ?_
    refine s_unraw (m := 2) hf2 hr.2 (fun _ => .inr fun h => by rw [h] at hr; simp at hr) ?_
    refine s_end (h (wv (iq ++ [x]) (cq ++ cz)) (wv ir cr') ?_ s kd)
    rw [wv_app (i2 := []) hfq hfz, show y :: ir = [] ++ y :: ir from rfl, wv_app hfz hf2]
    simp
  cases d with
  | zero =>
    have e1 : cr' = [] := hf2
    have e2 : cz = [] := hfz
    have e3 : cq = [] := hfq
    subst e1; subst e2; subst e3
    refine s_f ?_ (by simp at hkrn; simp [hkrn])
    simp only [List.append_nil] at fin ⊢
    exact s_end (fin sr' kr sq' kq)
  | succ d =>
    obtain ⟨z, rfl⟩ : ∃ z, cz = [z] := List.length_eq_one_iff.1 hfz
    have hcl : cr'.length = ir.length + 1 := hf2
    have hcql : cq.length = iq.length + 1 := hfq
    simp only [List.length_cons, List.length_nil] at hkrn
    refine s_t ?_ (by simp; omega)
    repeat refine s_nx ?_
    refine s_idx (s := kr) (i := 0) ?_
    refine s_ldES1 (s := kr) (c := Value.pointer) (L := ([z] ++ cr').map ptr) (x := ptr z) (by simp) ?_
    refine s_new fun t2 => ?_
    repeat refine s_nx ?_
    refine s_append (s := kq) (us := [Value.pointer (ptr z)]) (blk_rd rfl) (by simp [flatV]) (by simp only; omega) (hT := okT.TK) fun kq' hkq' => ?_
    rw [show (cq.map ptr).map Value.pointer ++ [Value.pointer (ptr z)] = ((cq ++ [z]).map ptr).map Value.pointer by simp]
    repeat refine s_nx ?_
    obtain ⟨Z2, hdel2⟩ := ok.delK
    refine fun w hw => hdel2 _ _ _ _ _ ?_
    refine hg hw ?_
    clear hw w
    refine s_del (s := kr) (i := 0) (j := 1) (by omega) (by omega) (by omega) (kp_flat _) (fun kr' hkr' => ?_) okT.TK
    rw [show (([z] ++ cr').map ptr) = ((z :: cr').map ptr) from rfl, del_firstK]
    repeat refine s_nx ?_
    refine s_pick (kidsD G.toBtT (d + 1) ([z] ++ cr')) ?_
    refine s_part ?_
    refine s_pick (kidsD G.toBtT (d + 1) [z]) ?_
    refine s_pick (kidsD G.toBtT (d + 1) cq) ?_
    refine s_join ?_
    exact s_end (fin sr' kr' sq' kq')

theorem s_merge (ok : BtDOk G c) {d n : Nat} {s kd sp kp sq kq : Sl} {A C : List (Kid G.toBtT)} {p q : Kid G.toBtT} {IA IC ip iq : List G.It} {x : G.It} {cp cq : List (Kid G.toBtT)} {i : Int} {k4 : Addr} {Q : K}
    (hi : (if (1 : Int) > i then 1 else i) = ((A.length + 1 : Nat) : Int)) (hA : IA.length = A.length) (hl : IA.length + IC.length ≤ 5) (hC : C.length = IC.length) (hp : ip.length + iq.length ≤ 4) (hfp : Fit d ip cp) (hfq : Fit d iq cq)
    (h : ∀ s' kd', HG B (nodeB G.toBtT n s' kd' :: itsR G.toBtT s' (IA ++ IC) :: kpsR G.toBtT kd' ((A ++ p :: C).map ptr) :: NodeR G.toBtT d 2 p.1 (wv ip cp ++ x :: wv iq cq) :: Γ) Q) :
    HG B (nodeB G.toBtT n s kd :: itsR G.toBtT s (IA ++ x :: IC) :: kpsR G.toBtT kd ((A ++ p :: q :: C).map ptr) :: rawL G.toBtT d p.1 sp kp ip cp (rawL G.toBtT d q.1 sq kq iq cq Γ)) (nmend_s2 G Q ⟨n, 0, none⟩ i k4 false) := by
  have okT := ok.toBtOk
  refine s_cap s fun a1 a2 a3 a4 => ?_
  refine s_cap kd fun b1 b2 b3 b4 => ?_
  refine s_cap sp fun c1 c2 c3 c4 => ?_
  refine s_cap kp fun d1 d2 d3 d4 => ?_
  refine s_cap sq fun e1 e2 e3 e4 => ?_
  refine s_cap kq fun f1 f2 f3 f4 => ?_
  have hsn := its_n a1
  have hkn := kps_n b1
  have hspn := its_n c1
  have hkpn := kps_n d1
  have hsqn := its_n e1
  have hkqn := kps_n f1
  simp only [List.length_append, List.length_cons, List.length_nil, List.length_map] at hsn hkn hspn hkpn hsqn hkqn
  have hks : cp.length ≤ 6 ∧ cq.length ≤ 6 := by
    cases d with
    | zero =>
      have e1 : cp = [] := hfp
      have e2 : cq = [] := hfq
      subst e1; subst e2; exact ⟨by simp, by simp⟩
    | succ d =>
      have e1 : cp.length = ip.length + 1 := hfp
      have e2 : cq.length = iq.length + 1 := hfq
      omega
  unfold nmend_s2
  repeat refine s_nx ?_
  refine s_ar hi ?_
  repeat first | refine s_nx ?_ | refine s_ai ?_
  refine s_idx (s := kd) (i := A.length) ?_
  refine s_ldE0 (s := kd) (x := ptr p) (kp_at at_mid) ?_
  repeat refine s_nx ?_
  refine s_idx (s := kd) (i := A.length + 1) ?_
  refine s_ldE0 (s := kd) (x := ptr q) (kp_at at_mid2) ?_
  refine s_dr ?_
  refine s_wsD [nodeB G.toBtT n s kd, itsR G.toBtT s (IA ++ x :: IC), nodeB G.toBtT p.1 sp kp, nodeB G.toBtT q.1 sq kq] ?_
  refine s_nn ?_
  refine s_ai ?_
  refine s_nn ?_
  repeat refine s_nx ?_
  refine s_idx (s := s) (i := A.length) ?_
  refine s_ldElS (s := s) (x := x) G.f_len (by rw [← hA]; simp) ?_
  repeat refine s_nx ?_
  refine s_bld1 ?_ (by simp [okT.vz.1]) (G.f_len _)
  refine s_new fun t => ?_
  repeat refine s_nx ?_
  refine s_append (s := sp) (us := G.f x) (blk_rd (G.f_len x)) (f_flat okT x) (by simp only; omega) (hT := okT.TI) fun sp1 hsp1 => ?_
  rw [show ip.flatMap G.f ++ G.f x = (ip ++ [x]).flatMap G.f by simp]
  repeat refine s_nx ?_
  refine s_append (s := sp1) (us := iq.flatMap G.f) (fun w hw => (own_rd (s := sq) hw).1) (fl_flat okT _) (by simp only at hsp1 ⊢; omega) (hT := okT.TI) fun sp2 hsp2 => ?_
  rw [show (ip ++ [x]).flatMap G.f ++ iq.flatMap G.f = (ip ++ x :: iq).flatMap G.f by simp]
  repeat refine s_nx ?_
  refine s_append (s := kp) (us := (cq.map ptr).map Value.pointer) (fun w hw => (own_rd (s := kq) hw).1) (kp_flat _) (by omega) (hT := okT.TK) fun kp' hkp' => ?_
  rw [← List.map_append, ← List.map_append]
  repeat first | refine s_nx ?_ | refine s_ai ?_
  obtain ⟨Z, hdel⟩ := ok.delI
  refine fun w hw => hdel _ _ _ _ _ ?_
  refine hg hw ?_
  clear hw w
  rw [show ((A.length + 1 : Nat) : Int) - 1 = ((A.length : Nat) : Int) by omega]
  refine s_del (s := s) (i := A.length) (j := A.length + 1) (by omega) (by omega) (by omega) (fl_flat okT _) (fun s' hs' => ?_) okT.TI
  rw [← hA, del_mid, hA]
  repeat first | refine s_nx ?_ | refine s_ai ?_
  obtain ⟨Z2, hdel2⟩ := ok.delK
  refine fun w hw => hdel2 _ _ _ _ _ ?_
  refine hg hw ?_
  clear hw w
  rw [show ((A.length + 1 : Nat) : Int) + 1 = ((A.length + 2 : Nat) : Int) by omega]
  refine s_del (s := kd) (i := A.length + 1) (j := A.length + 2) (by omega) (by omega) (by omega) (kp_flat _) (fun kd' hkd' => ?_) okT.TK
  rw [del_midK]
  repeat refine s_nx ?_
  refine s_pick (kidsD G.toBtT d cq) ?_
  refine s_pick (kidsD G.toBtT d cp) ?_
  refine s_join ?_
  refine s_pick (kidsD G.toBtT d (cp ++ cq)) ?_
  refine s_ownS kp' ?_
  refine s_ownS sp2 ?_
  refine s_own p.1 ?_
  refine s_unraw (m := 2) (fit_app hfp hfq) (by simp; omega) (fun _ => .inr (by simp)) ?_
  rw [wv_app hfp hfq]
  exact s_end (h s' kd')
end
end Bt
end Go.Sep
/- A B-tree: mend. Holds for every program. -/
namespace Go.Sep
open Go Go.RowKit
set_option linter.unusedSimpArgs false
set_option linter.unusedVariables false
namespace Bt
section
variable {κ : Type} {G : BtD κ} {c : κ → κ → Int} {B : World} {Γ Δ : List HProp}
theorem wv_two : ∀ {IA IC : List G.It} {A C : List (Kid G.toBtT)}, IA.length = A.length → C.length = IC.length → ∃ U V : List G.It, (∀ p : Kid G.toBtT, wv (IA ++ IC) (A ++ p :: C) = U ++ p.2 ++ V) ∧ ∀ (p : Kid G.toBtT) (x : G.It) (q : Kid G.toBtT), wv (IA ++ x :: IC) (A ++ p :: q :: C) = U ++ p.2 ++ x :: (q.2 ++ V)
  | [], [], [], C, _, hC => ⟨[], [], fun p => by simp [wv], fun p x q => by simp [wv]⟩
  | [], z :: IC, [], C, _, hC => ⟨[], z :: wv IC C, fun p => by simp [wv], fun p x q => by simp [wv]⟩
  | a :: IA, IC, r :: A, C, hA, hC => by
    obtain ⟨U, V, h1, h2⟩ := wv_two (IA := IA) (IC := IC) (A := A) (C := C) (by simpa using hA) hC
    exact ⟨r.2 ++ a :: U, V, fun p => by simp [wv, h1], fun p x q => by simp [wv, h2]⟩
  | [], _, _ :: _, _, hA, _ => by simp at hA
  | _ :: _, _, [], _, hA, _ => by simp at hA
theorem split_at {α : Type} {L : List α} {a c : Nat} (h : L.length = a + 1 + c) : ∃ A x C, L = A ++ x :: C ∧ A.length = a ∧ C.length = c :=
  ⟨L.take a, L[a], L.drop (a + 1), by rw [← List.drop_eq_getElem_cons, List.take_append_drop], by simp; omega, by simp; omega⟩
theorem s_asm1 {d n : Nat} {s kd : Sl} {its : List G.It} {ks : List (Kid G.toBtT)} {k : K} (hf : ks.length = its.length + 1) (hl : its.length ≤ 5) (h : HG B (NodeR G.toBtT (d + 1) 0 n (wv its ks) :: Γ) k) :
    HG B (nodeB G.toBtT n s kd :: itsR G.toBtT s its :: kpsR G.toBtT kd (ks.map ptr) :: kidsR G.toBtT d ks :: Γ) k := s_unraw (d := d + 1) (m := 0) hf hl (fun h => by omega) h
theorem s_asmK {d n : Nat} {s kd : Sl} {its : List G.It} {A C : List (Kid G.toBtT)} {p : Kid G.toBtT} {P' : List G.It} {k : K} (hf : (A ++ p :: C).length = its.length + 1) (hl : its.length ≤ 5) (h : HG B (NodeR G.toBtT (d + 1) 0 n (wv its (A ++ (p.1, P') :: C)) :: Γ) k) :
    HG B (nodeB G.toBtT n s kd :: itsR G.toBtT s its :: kpsR G.toBtT kd ((A ++ p :: C).map ptr) :: NodeR G.toBtT d 2 p.1 P' :: kidsR G.toBtT d (A ++ C) :: Γ) k := by
  rw [show (A ++ p :: C).map ptr = (A ++ (p.1, P') :: C).map ptr by simp [ptr]]
  refine s_pick (kidsR G.toBtT d (A ++ C)) ?_
  refine s_pick (NodeR G.toBtT d 2 p.1 P') ?_
  refine s_unkid (q := (p.1, P')) ?_
  refine s_pick (kidsR G.toBtT d (A ++ (p.1, P') :: C)) ?_
  refine s_ownS kd ?_
  refine s_ownS s ?_
  refine s_own n ?_
  exact s_asm1 (by simpa using hf) hl h
theorem s_asm2 {d n : Nat} {s kd : Sl} {its : List G.It} {A C : List (Kid G.toBtT)} {p q : Kid G.toBtT} {P' Q' : List G.It} {k : K} (hf : (A ++ p :: q :: C).length = its.length + 1) (hl : its.length ≤ 5) (h : HG B (NodeR G.toBtT (d + 1) 0 n (wv its (A ++ (p.1, P') :: (q.1, Q') :: C)) :: Γ) k) :
    HG B (nodeB G.toBtT n s kd :: itsR G.toBtT s its :: kpsR G.toBtT kd ((A ++ p :: q :: C).map ptr) :: NodeR G.toBtT d 2 p.1 P' :: NodeR G.toBtT d 2 q.1 Q' :: kidsR G.toBtT d (A ++ C) :: Γ) k := by
  rw [show (A ++ p :: q :: C).map ptr = (A ++ p :: (q.1, Q') :: C).map ptr by simp [ptr]]
  refine s_pick (kidsR G.toBtT d (A ++ C)) ?_
  refine s_pick (NodeR G.toBtT d 2 q.1 Q') ?_
  refine s_unkid (q := (q.1, Q')) ?_
  refine s_pick (kidsR G.toBtT d (A ++ (q.1, Q') :: C)) ?_
  refine s_pick (NodeR G.toBtT d 2 p.1 P') ?_
  refine s_ownS kd ?_
  refine s_ownS s ?_
  refine s_own n ?_
  exact s_asmK (by simpa using hf) hl h

theorem mend_spec (ok : BtDOk G c) {d n : Nat} {s kd : Sl} {its : List G.It} {A C : List (Kid G.toBtT)} {q : Kid G.toBtT} {Q : K} (hl : its.length ≤ 5) (hne : its ≠ []) (hf : (A ++ q :: C).length = its.length + 1)
    (h : HG B (NodeR G.toBtT (d + 1) 0 n (wv its (A ++ q :: C)) :: Γ) Q) :
    HG B (nodeB G.toBtT n s kd :: itsR G.toBtT s its :: kpsR G.toBtT kd ((A ++ q :: C).map ptr) :: NodeR G.toBtT d 0 q.1 q.2 :: kidsR G.toBtT d (A ++ C) :: Γ) (G.nmendC (some ⟨n, 0, none⟩) (A.length : Int) Q) := by
  refine fun w hw => ok.mend _ _ _ _ ?_
  refine hg hw ?_
  clear hw w
  have okT := ok.toBtOk
  have hnl : 1 ≤ its.length := List.length_pos_iff.2 hne
  refine s_cap s fun a1 a2 a3 a4 => ?_
  refine s_cap kd fun b1 b2 b3 b4 => ?_
  have hsn := its_n a1
  have hkn := kps_n b1
  have hf' : A.length + (C.length + 1) = its.length + 1 := by simpa using hf
  simp only [List.length_append, List.length_cons, List.length_map] at hkn
  unfold nmend
  repeat refine s_nx ?_
  refine s_idx (s := kd) (i := A.length) ?_
  refine s_ldE0 (s := kd) (x := ptr q) (kp_at at_mid) ?_
  refine s_nn ?_
  refine s_own q.1 ?_
  refine s_raw fun sq kq iq cq hfq hlq _ hqL => ?_
  refine s_cap sq fun e1 e2 e3 e4 => ?_
  have hsqn := its_n e1
  repeat refine s_nx ?_
  refine s_ite (fun hb => ?_) fun hb => ?_
  · have hb' : 2 ≤ iq.length := by simp only [decide_eq_true_eq] at hb; omega
    refine s_unraw (m := 2) hfq hlq (fun _ => .inr fun h => by rw [h] at hb'; simp at hb') ?_
    rw [← hqL]
    refine s_pick (kidsR G.toBtT d (A ++ C)) ?_
    refine s_pick (NodeR G.toBtT d 2 q.1 q.2) ?_
    refine s_ownS kd ?_
    refine s_ownS s ?_
    refine s_own n ?_
    exact s_asmK hf hl h
  have hq1 : iq.length ≤ 1 := by simp only [decide_eq_false_iff_not] at hb; omega
  rcases List.eq_nil_or_concat A with rfl | ⟨A, p, rfl⟩
  · -- no kid on the left
    obtain ⟨r, C, rfl⟩ : ∃ r C', C = r :: C' := by
      cases C with
      | nil => simp only [List.length_nil] at hf'; omega
      | cons r C => exact ⟨r, C, rfl⟩
    simp only [List.length_cons, List.length_nil, List.nil_append] at hf' hkn hf h ⊢
    obtain ⟨IA, x, IC, rfl, hIA, hIC⟩ := split_at (L := its) (a := 0) (c := C.length) (by omega)
    obtain rfl : IA = [] := List.length_eq_zero_iff.1 hIA
    obtain ⟨U, V, hU1, hU2⟩ := wv_two (IA := []) (IC := IC) (A := []) (C := C) rfl hIC.symm
    simp only [List.nil_append] at hU1 hU2 hl hf' h ⊢
    rw [hU2] at h
    simp only [List.length_cons] at hl hf'
    refine s_f ?_
    unfold nmend_s1
    repeat first | refine s_nx ?_ | refine s_ai ?_
    refine s_t ?_ (by simp; omega)
    repeat first | refine s_nx ?_ | refine s_ai ?_
    refine s_idx (s := kd) (i := 1) ?_
    refine s_ldE0 (s := kd) (x := ptr r) (kp_at (at_mid2 (A := []))) ?_
    refine s_nn ?_
    refine s_pick (kidsR G.toBtT d (r :: C)) ?_
    refine s_kid (A := []) ?_
    refine s_raw fun sr kr ir cr hfr hlr hrne hrL => ?_
    refine s_cap sr fun c1 c2 c3 c4 => ?_
    have hsrn := its_n c1
    repeat refine s_nx ?_
    by_cases hb3 : 2 < ir.length
    · rw [show decide ((2 : Int) < (sr.n : Int)) = true by simp; omega]
      obtain ⟨y, ir, rfl⟩ : ∃ y ir', ir = y :: ir' := by
        cases ir with
        | nil => simp at hb3
        | cons y ir => exact ⟨y, ir, rfl⟩
      simp only [List.length_cons] at hb3 hlr
      refine s_pick (kidsD G.toBtT d cr) ?_
      refine s_ownS kr ?_
      refine s_ownS sr ?_
      refine s_own r.1 ?_
      refine s_pick (kidsD G.toBtT d cq) ?_
      refine s_ownS kq ?_
      refine s_ownS sq ?_
      refine s_own q.1 ?_
      refine s_ownS kd ?_
      refine s_ownS s ?_
      refine s_own n ?_
      refine s_turnR ok (A := []) (IA := []) rfl rfl (by simp only [List.length_nil]; omega) hIC.symm (by omega) hq1 hfr hfq fun Q' R' e s' kd' => ?_
      refine s_pick (kidsR G.toBtT d ([] ++ C)) ?_
      refine s_pick (NodeR G.toBtT d 2 r.1 R') ?_
      refine s_pick (NodeR G.toBtT d 2 q.1 Q') ?_
      refine s_ownS kd' ?_
      refine s_ownS s' ?_
      refine s_own n ?_
      refine s_asm2 (A := []) (by simp; omega) (by simp; omega) ?_
      simp only [List.nil_append]
      rw [hU2, show U ++ (q.1, Q').2 ++ y :: ((r.1, R').2 ++ V) = U ++ (Q' ++ y :: R') ++ V by simp, e, ← hqL, ← hrL]
      simpa using h
    · rw [show decide ((2 : Int) < (sr.n : Int)) = false by simp; omega]
      refine s_pick (kidsD G.toBtT d cr) ?_
      refine s_ownS kr ?_
      refine s_ownS sr ?_
      refine s_own r.1 ?_
      refine s_pick (kidsD G.toBtT d cq) ?_
      refine s_ownS kq ?_
      refine s_ownS sq ?_
      refine s_own q.1 ?_
      refine s_ownS kd ?_
      refine s_ownS s ?_
      refine s_own n ?_
      refine s_merge ok (A := []) (IA := []) (by simp) rfl (by simp only [List.length_nil]; omega) hIC.symm (by omega) hfq hfr fun s' kd' => ?_
      refine s_pick (kidsR G.toBtT d ([] ++ C)) ?_
      refine s_pick (NodeR G.toBtT d 2 q.1 (wv iq cq ++ x :: wv ir cr)) ?_
      refine s_ownS kd' ?_
      refine s_ownS s' ?_
      refine s_own n ?_
      refine s_asmK (A := []) (by simp; omega) (by simp; omega) ?_
      simp only [List.nil_append]
      have h2 := hU1 (q.1, wv iq cq ++ x :: wv ir cr)
      rw [h2, ← hqL, ← hrL]
      simpa using h
  · -- a kid on the left
    simp only [List.concat_eq_append, List.append_assoc, List.singleton_append] at hf' hkn hf h ⊢
    have hAl : (A ++ [p]).length = A.length + 1 := by simp
    rw [hAl] at hf' hkn ⊢
    obtain ⟨IA, x, IC, rfl, hIA, hIC⟩ := split_at (L := its) (a := A.length) (c := C.length) (by omega)
    obtain ⟨U, V, hU1, hU2⟩ := wv_two (IA := IA) (IC := IC) (A := A) (C := C) hIA hIC.symm
    have hil : (IA ++ x :: IC).length = IA.length + (IC.length + 1) := by simp
    rw [hU2] at h
    rw [hil] at hl
    refine s_t ?_
    repeat first | refine s_nx ?_ | refine s_ai ?_
    refine s_idx (s := kd) (i := A.length) ?_
    refine s_ldE0 (s := kd) (x := ptr p) (kp_at at_mid) ?_
    refine s_nn ?_
    refine s_pick (kidsR G.toBtT d (A ++ p :: C)) ?_
    refine s_kid ?_
    refine s_raw fun sp kp ip cp hfp hlp hpne hpL => ?_
    refine s_cap sp fun c1 c2 c3 c4 => ?_
    have hspn := its_n c1
    repeat refine s_nx ?_
    by_cases hb3 : 2 < ip.length
    · rw [show decide ((2 : Int) < (sp.n : Int)) = true by simp; omega]
      rcases List.eq_nil_or_concat ip with rfl | ⟨ip, y, rfl⟩
      · simp at hb3
      simp only [List.concat_eq_append] at hb3 hlp hfp hpL ⊢
      have hipl : (ip ++ [y]).length = ip.length + 1 := by simp
      rw [hipl] at hb3 hlp
      refine s_pick (kidsD G.toBtT d cq) ?_
      refine s_ownS kq ?_
      refine s_ownS sq ?_
      refine s_own q.1 ?_
      refine s_pick (kidsD G.toBtT d cp) ?_
      refine s_ownS kp ?_
      refine s_ownS sp ?_
      refine s_own p.1 ?_
      refine s_ownS kd ?_
      refine s_ownS s ?_
      refine s_own n ?_
      refine s_turnL ok (A := A) (by omega) hIA (by omega) hIC.symm (by omega) hq1 hfp hfq fun P' Q' e s' kd' => ?_
      refine s_pick (kidsR G.toBtT d (A ++ C)) ?_
      refine s_pick (NodeR G.toBtT d 2 q.1 Q') ?_
      refine s_pick (NodeR G.toBtT d 2 p.1 P') ?_
      refine s_ownS kd' ?_
      refine s_ownS s' ?_
      refine s_own n ?_
      refine s_asm2 (by simp; omega) (by simp; omega) ?_
      rw [hU2, show U ++ (p.1, P').2 ++ y :: ((q.1, Q').2 ++ V) = U ++ (P' ++ y :: Q') ++ V by simp, e, ← hqL, ← hpL]
      simpa using h
    rw [show decide ((2 : Int) < (sp.n : Int)) = false by simp; omega]
    unfold nmend_s1
    repeat first | refine s_nx ?_ | refine s_ai ?_
    cases C with
    | nil =>
      refine s_f ?_ (by simp only [List.length_nil] at hkn; simp; omega)
      refine s_pick (kidsD G.toBtT d cq) ?_
      refine s_ownS kq ?_
      refine s_ownS sq ?_
      refine s_own q.1 ?_
      refine s_pick (kidsD G.toBtT d cp) ?_
      refine s_ownS kp ?_
      refine s_ownS sp ?_
      refine s_own p.1 ?_
      refine s_ownS kd ?_
      refine s_ownS s ?_
      refine s_own n ?_
      refine s_merge ok (by simp only [gt_iff_lt]; split <;> omega) hIA (by omega) hIC.symm (by omega) hfp hfq fun s' kd' => ?_
      refine s_pick (kidsR G.toBtT d (A ++ [])) ?_
      refine s_pick (NodeR G.toBtT d 2 p.1 (wv ip cp ++ x :: wv iq cq)) ?_
      refine s_ownS kd' ?_
      refine s_ownS s' ?_
      refine s_own n ?_
      refine s_asmK (by simp only [List.length_append, List.length_cons]; omega) (by simp only [List.length_append]; omega) ?_
      rw [hU1, ← hqL, ← hpL]
      simpa using h
    | cons r C =>
      simp only [List.length_cons] at hf' hkn hIC
      obtain ⟨x2, IC, rfl⟩ : ∃ x2 IC', IC = x2 :: IC' := by
        cases IC with
        | nil => simp at hIC
        | cons x2 IC => exact ⟨x2, IC, rfl⟩
      simp only [List.length_cons] at hIC hl
      refine s_t ?_ (by simp; omega)
      repeat first | refine s_nx ?_ | refine s_ai ?_
      refine s_idx (s := kd) (i := A.length + 2) ?_
      refine s_ldE0 (s := kd) (x := ptr r) (kp_at (by rw [show A ++ p :: q :: r :: C = (A ++ [p]) ++ q :: r :: C by simp, show A.length + 2 = (A ++ [p]).length + 1 by simp]; exact at_mid2)) ?_
      refine s_nn ?_
      refine s_pick (kidsR G.toBtT d (A ++ r :: C)) ?_
      refine s_kid ?_
      refine s_raw fun sr kr ir cr hfr hlr hrne hrL => ?_
      refine s_cap sr fun g1 g2 g3 g4 => ?_
      have hsrn := its_n g1
      repeat refine s_nx ?_
      by_cases hb4 : 2 < ir.length
      · rw [show decide ((2 : Int) < (sr.n : Int)) = true by simp; omega]
        obtain ⟨y, ir, rfl⟩ : ∃ y ir', ir = y :: ir' := by
          cases ir with
          | nil => simp at hb4
          | cons y ir => exact ⟨y, ir, rfl⟩
        simp only [List.length_cons] at hb4 hlr
        refine s_pick (kidsD G.toBtT d cp) ?_
        refine s_ownS kp ?_
        refine s_ownS sp ?_
        refine s_own p.1 ?_
        refine s_unraw (m := 2) hfp hlp (fun _ => .inr (hpne rfl)) ?_
        rw [← hpL]
        rw [show A ++ p :: q :: r :: C = (A ++ [p]) ++ q :: r :: C by simp, show IA ++ x :: x2 :: IC = (IA ++ [x]) ++ x2 :: IC by simp]
        refine s_pick (kidsD G.toBtT d cr) ?_
        refine s_ownS kr ?_
        refine s_ownS sr ?_
        refine s_own r.1 ?_
        refine s_pick (kidsD G.toBtT d cq) ?_
        refine s_ownS kq ?_
        refine s_ownS sq ?_
        refine s_own q.1 ?_
        refine s_ownS kd ?_
        refine s_ownS s ?_
        refine s_own n ?_
        refine s_turnR ok (A := A ++ [p]) (IA := IA ++ [x]) (by rw [hAl]) (by simp [hIA]) (by simp; omega) (by omega) (by omega) hq1 hfr hfq fun Q' R' e s' kd' => ?_
        refine s_pick (kidsR G.toBtT d (A ++ C)) ?_
        refine s_pick (NodeR G.toBtT d 2 p.1 p.2) ?_
        refine s_unkid ?_
        rw [show A ++ p :: C = (A ++ [p]) ++ C by simp]
        refine s_pick (kidsR G.toBtT d ((A ++ [p]) ++ C)) ?_
        refine s_pick (NodeR G.toBtT d 2 r.1 R') ?_
        refine s_pick (NodeR G.toBtT d 2 q.1 Q') ?_
        refine s_ownS kd' ?_
        refine s_ownS s' ?_
        refine s_own n ?_
        refine s_asm2 (by simp; omega) (by simp; omega) ?_
        obtain ⟨U', V', hV1, hV2⟩ := wv_two (IA := IA ++ [x]) (IC := IC) (A := A ++ [p]) (C := C) (by simp [hIA]) (by omega)
        have h3 := hV2 q x2 r
        have h4 := hU2 p x q
        rw [show (IA ++ [x]) ++ x2 :: IC = IA ++ x :: x2 :: IC by simp, show (A ++ [p]) ++ q :: r :: C = A ++ p :: q :: r :: C by simp, h4] at h3
        rw [hV2, show U' ++ (q.1, Q').2 ++ y :: ((r.1, R').2 ++ V') = U' ++ (Q' ++ y :: R') ++ V' by simp, e, ← hqL, ← hrL]
        rw [h3] at h
        simpa using h
      · rw [show decide ((2 : Int) < (sr.n : Int)) = false by simp; omega]
        refine s_pick (kidsD G.toBtT d cr) ?_
        refine s_ownS kr ?_
        refine s_ownS sr ?_
        refine s_own r.1 ?_
        refine s_unraw (m := 2) hfr hlr (fun _ => .inr (hrne rfl)) ?_
        rw [← hrL]
        refine s_pick (kidsR G.toBtT d (A ++ C)) ?_
        refine s_pick (NodeR G.toBtT d 2 r.1 r.2) ?_
        refine s_unkid ?_
        refine s_pick (kidsD G.toBtT d cq) ?_
        refine s_ownS kq ?_
        refine s_ownS sq ?_
        refine s_own q.1 ?_
        refine s_pick (kidsD G.toBtT d cp) ?_
        refine s_ownS kp ?_
        refine s_ownS sp ?_
        refine s_own p.1 ?_
        refine s_ownS kd ?_
        refine s_ownS s ?_
        refine s_own n ?_
        refine s_merge ok (by simp only [gt_iff_lt]; split <;> omega) hIA (by simp; omega) (by simp; omega) (by omega) hfp hfq fun s' kd' => ?_
        refine s_pick (kidsR G.toBtT d (A ++ r :: C)) ?_
        refine s_pick (NodeR G.toBtT d 2 p.1 (wv ip cp ++ x :: wv iq cq)) ?_
        refine s_ownS kd' ?_
        refine s_ownS s' ?_
        refine s_own n ?_
        refine s_asmK (by simp only [List.length_append, List.length_cons]; omega) (by simp only [List.length_append, List.length_cons]; omega) ?_
        rw [hU1, ← hqL, ← hpL]
        simpa using h
end
end Bt
end Go.Sep
/- A B-tree: last, take and Delete. Holds for every program. -/
namespace Go.Sep
open Go Go.RowKit
set_option linter.unusedSimpArgs false
set_option linter.unusedVariables false
namespace Bt
section
variable {κ : Type} {G : BtD κ} {c : κ → κ → Int} {B : World} {Γ Δ : List HProp}
theorem wv_end : ∀ {its : List G.It} {A : List (Kid G.toBtT)}, its.length = A.length → ∃ U : List G.It, ∀ p : Kid G.toBtT, wv its (A ++ [p]) = U ++ p.2
  | [], [], _ => ⟨[], fun p => by simp [wv]⟩
  | a :: its, r :: A, h => by
    obtain ⟨U, h1⟩ := wv_end (its := its) (A := A) (by simpa using h)
    exact ⟨r.2 ++ a :: U, fun p => by simp [wv, h1]⟩
  | [], _ :: _, h => by simp at h
  | _ :: _, [], h => by simp at h
theorem nlast_spec (ok : BtDOk G c) : ∀ (d : Nat) {b : Nat} {L : List G.It} {Γ : List HProp} {Q : Array Value → K},
    (∀ L0 x, L = L0 ++ [x] → HG B (NodeR G.toBtT d 0 b L0 :: Γ) (Q (G.f x).toArray)) → HG B (NodeR G.toBtT d 2 b L :: Γ) (G.nlastC (some ⟨b, 0, none⟩) Q) := by
  have okT := ok.toBtOk
  intro d
  induction d with
  | zero =>
    intro b L Γ Q h
    refine fun w hw => ok.last _ _ _ ?_
    refine hg hw ?_
    clear hw w
    refine s_node0 fun s kd hne hl => ?_
    rcases List.eq_nil_or_concat L with rfl | ⟨L0, x, rfl⟩
    · exact absurd rfl (hne rfl)
    simp only [List.concat_eq_append] at h hl ⊢
    have hll : (L0 ++ [x]).length = L0.length + 1 := by simp
    rw [hll] at hl
    refine s_cap s fun a1 a2 a3 a4 => ?_
    refine s_cap kd fun b1 b2 b3 b4 => ?_
    have hsn := its_n a1
    have hkn := kps_n b1
    rw [hll] at hsn
    simp only [List.length_nil] at hkn
    unfold nlast
    refine s_new fun t2 => ?_
    repeat first | refine s_nx ?_ | refine s_ai ?_
    refine s_f ?_ (by simp; omega)
    repeat first | refine s_nx ?_ | refine s_ai ?_
    refine s_idx (s := s) (i := L0.length) ?_
    refine s_ldElS (s := s) (x := x) G.f_len (by simp) ?_
    refine s_new fun x5 => ?_
    repeat refine s_nx ?_
    refine s_stN (b := x5) ?_ (by simp [okT.vz.1]) (G.f_len x) (flat_f okT x)
    repeat first | refine s_nx ?_ | refine s_ai ?_
    refine s_slc (lo := 0) (hi := L0.length) (mx := s.c) ?_
    rw [cut0 a3]
    repeat refine s_nx ?_
    refine s_shrinkI (s := s) (m := L0.length) (by omega) a2 ?_
    rw [List.take_left]
    refine s_ldN (b := x5) (l' := G.f x) ?_ (List.take_of_length_le (by simp [G.f_len])) (G.f_len _)
    refine s_stN (b := t2) ?_ (by simp [okT.vz.1]) (G.f_len x) (flat_f okT x)
    refine s_ldN (b := t2) (l' := G.f x) ?_ (List.take_of_length_le (by simp [G.f_len])) (G.f_len _)
    refine s_ownS kd ?_
    refine s_ownS ⟨s.a, L0.length, s.c⟩ ?_
    refine s_own b ?_
    refine s_mk0 (m := 0) (by simp) (by omega) ?_
    exact s_end (h L0 x rfl)
  | succ d ih =>
    intro b L Γ Q h
    refine fun w hw => ok.last _ _ _ ?_
    refine hg hw ?_
    clear hw w
    refine s_raw fun s kd its ks hf hl hne hL => ?_
    subst hL
    have hf' : ks.length = its.length + 1 := hf
    rcases List.eq_nil_or_concat ks with rfl | ⟨A, q, rfl⟩
    · simp at hf'
    simp only [List.concat_eq_append] at h hf hf' ⊢
    have hkl : (A ++ [q]).length = A.length + 1 := by simp
    rw [hkl] at hf'
    refine s_pick (kidsD G.toBtT (d + 1) (A ++ [q])) ?_
    refine s_conv (A' := kidsR G.toBtT d (A ++ [q])) (fun _ h => h) ?_
    refine s_kid (A := A) (C := []) ?_
    refine s_cap s fun a1 a2 a3 a4 => ?_
    refine s_cap kd fun b1 b2 b3 b4 => ?_
    have hsn := its_n a1
    have hkn := kps_n b1
    rw [List.length_map, hkl] at hkn
    unfold nlast
    refine s_new fun t2 => ?_
    repeat first | refine s_nx ?_ | refine s_ai ?_
    rw [show ((kd.n : Nat) : Int) - 1 = ((A.length : Nat) : Int) by omega]
    refine s_t ?_ (by simp)
    repeat refine s_nx ?_
    refine s_idx (s := kd) (i := A.length) ?_
    refine s_ldE0 (s := kd) (x := ptr q) (kp_at at_mid) ?_
    refine s_pick (NodeR G.toBtT d 2 q.1 q.2) ?_
    refine ih (b := q.1) (L := q.2) fun L0 x e => ?_
    refine s_new fun x4 => ?_
    refine s_stN (b := x4) ?_ (by simp [okT.vz.1]) (G.f_len x) (flat_f okT x)
    rw [show (A ++ [q]).map ptr = (A ++ [(q.1, L0)]).map ptr by simp [ptr]]
    refine s_pick (kidsR G.toBtT d (A ++ [])) ?_
    refine s_pick (NodeR G.toBtT d 0 q.1 L0) ?_
    refine s_ownS kd ?_
    refine s_ownS s ?_
    refine s_own b ?_
    refine mend_spec ok (q := (q.1, L0)) (C := []) hl (hne rfl) (by simp; omega) ?_
    refine s_ldN (b := x4) (l' := G.f x) ?_ (List.take_of_length_le (by simp [G.f_len])) (G.f_len _)
    refine s_stN (b := t2) ?_ (by simp [okT.vz.1]) (G.f_len x) (flat_f okT x)
    refine s_ldN (b := t2) (l' := G.f x) ?_ (List.take_of_length_le (by simp [G.f_len])) (G.f_len _)
    refine s_end (h (wv its (A ++ [(q.1, L0)])) x ?_)
    obtain ⟨U, hU⟩ := wv_end (its := its) (A := A) (by omega)
    rw [hU, hU, e, List.append_assoc]

/-! ### take -/
def DelR (c : κ → κ → Int) {ν : Type} (z : ν) (L : List (κ × ν)) (k : κ) (L' : List (κ × ν)) (old : ν) (had : Bool) : Prop :=
  (∃ A C, L = A ++ (k, old) :: C ∧ L' = A ++ C ∧ had = true) ∨ ((∃ A C, L = A ++ C ∧ (∀ x ∈ A, c x.1 k < 0) ∧ (∀ x ∈ C, c k x.1 < 0)) ∧ L' = L ∧ old = z ∧ had = false)
theorem DelR.mid {ν : Type} {z old : ν} {A C L L' : List (κ × ν)} {k : κ} {had : Bool} (hA : ∀ x ∈ A, c x.1 k < 0) (hC : ∀ x ∈ C, c k x.1 < 0) (h : DelR c z L k L' old had) : DelR c z (A ++ L ++ C) k (A ++ L' ++ C) old had := by
  rcases h with ⟨A', C', rfl, rfl, rfl⟩ | ⟨⟨A', C', rfl, h1, h2⟩, rfl, rfl, rfl⟩
  · exact .inl ⟨A ++ A', C' ++ C, by simp, by simp, rfl⟩
  · refine .inr ⟨⟨A ++ A', C' ++ C, by simp, fun x hx => ?_, fun x hx => ?_⟩, rfl, rfl, rfl⟩
    · rcases List.mem_append.1 hx with hx | hx
      · exact hA x hx
      · exact h1 x hx
    · rcases List.mem_append.1 hx with hx | hx
      · exact h2 x hx
      · exact hC x hx
theorem DelR.srt {ν : Type} {z old : ν} {L L' : List (κ × ν)} {k : κ} {had : Bool} (h : DelR c z L k L' old had) (hs : Srt c L) : Srt c L' := by
  rcases h with ⟨A', C', rfl, rfl, rfl⟩ | ⟨_, rfl, rfl, rfl⟩
  · exact hs.sub ((List.Sublist.refl A').append (List.sublist_cons_self _ _))
  · exact hs
theorem DelR.len {ν : Type} {z old : ν} {L L' : List (κ × ν)} {k : κ} {had : Bool} (h : DelR c z L k L' old had) : L.length = L'.length + (if had then 1 else 0) := by
  rcases h with ⟨A', C', rfl, rfl, rfl⟩ | ⟨_, rfl, rfl, rfl⟩
  · simp; omega
  · simp
theorem ntake_spec (ok : BtDOk G c) : ∀ (d : Nat) {m b : Nat} {M : List G.It} {k : κ} {Γ : List HProp} {Q : Array Value → Bool → K}, 1 ≤ m → Srt c M →
    (∀ M' old had, DelR c (G.z0 ok.vz) M k M' old had → HG B (NodeR G.toBtT d 0 b M' :: Γ) (Q old.1.toArray had)) →
    HG B (NodeR G.toBtT d m b M :: Γ) (G.ntakeC (some ⟨b, 0, none⟩) k Q) := by
  have okT := ok.toBtOk
  intro d
  induction d with
  | zero =>
    intro m b M k Γ Q hm hs h
    refine fun w hw => ok.take _ _ _ _ ?_
    refine hg hw ?_
    clear hw w
    refine s_node0 fun s kd _ hl => ?_
    refine s_cap s fun a1 a2 a3 a4 => ?_
    refine s_cap kd fun b1 b2 b3 b4 => ?_
    have hsn := its_n a1
    have hkn := kps_n b1
    simp only [List.length_nil] at hkn
    unfold ntake
    refine s_new fun v4 => ?_
    refine s_search okT (s := s) (kd := kd) hs (by omega) (fun A v0 C e => ?_) fun A C e hA hC => ?_
    · subst e
      have hlen : (A ++ (k, v0) :: C).length = A.length + (C.length + 1) := List.length_append
      repeat refine s_nx ?_
      rw [show decide ((kd.n : Int) = 0) = true by simp; omega]
      unfold ntake_s2
      repeat refine s_nx ?_
      refine s_idx (s := s) (i := A.length) ?_
      refine s_ldEN (s := s) (l' := v0.1) drop_val v0.2.1 ?_
      refine s_stN (b := v4) ?_ okT.vz.1 v0.2.1 v0.2.2
      repeat first | refine s_nx ?_ | refine s_ai ?_
      obtain ⟨Z, hdel⟩ := ok.delI
      refine fun w hw => hdel _ _ _ _ _ ?_
      refine hg hw ?_
      clear hw w
      rw [show ((A.length : Nat) : Int) + 1 = ((A.length + 1 : Nat) : Int) by omega]
      refine s_del (s := s) (i := A.length) (j := A.length + 1) (by omega) (by omega) (by omega) (fl_flat okT _) (fun s' hs' => ?_) okT.TI
      rw [del_mid]
      repeat refine s_nx ?_
      refine s_ret3 (v := v0) ?_
      refine s_ownS kd ?_
      refine s_ownS s' ?_
      refine s_own b ?_
      refine s_mk0 (m := 0) (by simp) (by simp; omega) ?_
      exact s_end (h _ _ _ (.inl ⟨A, C, rfl, rfl, rfl⟩))
    · subst e
      repeat refine s_nx ?_
      unfold ntake_s2
      repeat refine s_nx ?_
      refine s_f ?_ (by simp; omega)
      unfold ntake_s1
      refine s_ret3 (v := G.z0 okT.vz) ?_
      refine s_ownS kd ?_
      refine s_ownS s ?_
      refine s_own b ?_
      refine s_mk0 (m := 0) (by simp) hl ?_
      exact s_end (h _ _ _ (.inr ⟨⟨A, C, rfl, hA, hC⟩, rfl, rfl, rfl⟩))
  | succ d ih =>
    intro m b M k Γ Q hm hs h
    refine fun w hw => ok.take _ _ _ _ ?_
    refine hg hw ?_
    clear hw w
    refine s_nodeS fun s kd q0 ps hne hl hM => ?_
    subst hM
    have hne := hne hm
    refine s_cap s fun a1 a2 a3 a4 => ?_
    refine s_cap kd fun b1 b2 b3 b4 => ?_
    have hsn := its_n a1
    have hkn := kps_n b1
    simp only [List.length_map, List.length_cons] at hsn hkn
    unfold ntake
    refine s_new fun v4 => ?_
    refine s_search okT (s := s) (kd := kd) (hs.sub (its_sub q0 ps)) (by simp; omega) (fun A v0 C e => ?_) fun A C e hA hC => ?_
    · obtain ⟨l, q, r, hA, hC, hK, hL, hlen⟩ := zip_of (q0 := q0) e
      rw [e, hK]
      rw [hL] at hs h
      obtain ⟨⟨xx, q1⟩, r, rfl, hxx, hC'⟩ := List.map_eq_cons_iff.1 hC.symm
      simp only at hxx
      subst hxx
      subst hA
      subst hC'
      simp only [List.length_cons] at hlen
      have hll : (l.map Prod.snd).length = l.length := by simp
      have hlf : (l.map Prod.fst).length = l.length := by simp
      repeat refine s_nx ?_
      rw [show decide ((kd.n : Int) = 0) = false by simp; omega]
      unfold ntake_s2
      repeat refine s_nx ?_
      refine s_idx (s := s) (i := (l.map Prod.snd).length) ?_
      refine s_ldEN (s := s) (l' := v0.1) drop_val v0.2.1 ?_
      refine s_stN (b := v4) ?_ okT.vz.1 v0.2.1 v0.2.2
      refine s_dr ?_
      refine s_wsD [nodeB G.toBtT b s kd, itsR G.toBtT s (l.map Prod.snd ++ (k, v0) :: r.map Prod.fst), kpsR G.toBtT kd ((l.map Prod.fst ++ q :: (((k, v0), q1) :: r).map Prod.snd).map ptr)] ?_
      repeat refine s_nx ?_
      refine s_idx (s := kd) (i := (l.map Prod.fst).length) ?_ (by omega)
      refine s_ldES1 (s := kd) (c := Value.pointer) (L := (l.map Prod.fst ++ q :: (((k, v0), q1) :: r).map Prod.snd).map ptr) (x := ptr q) (by simp) ?_
      refine s_pick (kidsR G.toBtT d (l.map Prod.fst ++ q :: (((k, v0), q1) :: r).map Prod.snd)) ?_
      refine s_kid ?_
      refine nlast_spec ok d (b := q.1) (L := q.2) fun L0 x e2 => ?_
      repeat refine s_nx ?_
      refine s_idx (s := s) (i := (l.map Prod.snd).length) ?_
      refine s_stEl (s := s) (A := l.map Prod.snd) (x := (k, v0)) (y := x) G.f_len (flat_f okT x) ?_
      rw [show (l.map Prod.fst ++ q :: (((k, v0), q1) :: r).map Prod.snd).map ptr = (l.map Prod.fst ++ (q.1, L0) :: (((k, v0), q1) :: r).map Prod.snd).map ptr by simp [ptr]]
      rw [show ((l.map Prod.snd).length : Int) = ((l.map Prod.fst).length : Int) by rw [hll, hlf]]
      refine s_pick (kidsR G.toBtT d (l.map Prod.fst ++ (((k, v0), q1) :: r).map Prod.snd)) ?_
      refine s_pick (NodeR G.toBtT d 0 q.1 L0) ?_
      refine s_ownS kd ?_
      refine s_ownS s ?_
      refine s_own b ?_
      refine mend_spec ok (q := (q.1, L0)) (by simp; omega) (by simp) (by simp; omega) ?_
      refine s_ret3 (v := v0) ?_
      refine s_end (h (wv (l.map Prod.snd ++ x :: r.map Prod.fst) (l.map Prod.fst ++ (q.1, L0) :: (((k, v0), q1) :: r).map Prod.snd)) v0 true (.inl ⟨preL l ++ q.2, q1.2 ++ postL r, ?_, ?_, rfl⟩))
      · simp [postL]
      · obtain ⟨q0', ps', e3, e4, e5, e6⟩ := zback l (q.1, L0) ((x, q1) :: r)
        rw [show l.map Prod.snd ++ x :: r.map Prod.fst = ps'.map Prod.fst from e4.symm, show l.map Prod.fst ++ (q.1, L0) :: (((k, v0), q1) :: r).map Prod.snd = q0' :: ps'.map Prod.snd from e5.symm, wv_ps, e6, e2]
        simp [postL]
    · obtain ⟨l, q, r, rfl, rfl, hK, hL, hlen⟩ := zip_of (q0 := q0) e
      rw [e, hK]
      rw [hL] at hs h
      have hll : (l.map Prod.snd).length = l.length := by simp
      have hlf : (l.map Prod.fst).length = l.length := by simp
      have hs1 := List.pairwise_append.1 hs
      have hs2 := List.pairwise_append.1 hs1.1
      have hpre := pre_lt okT l hs2.1 hA
      have hpost := post_gt okT r hs1.2.1 hC
      repeat refine s_nx ?_
      unfold ntake_s2
      repeat refine s_nx ?_
      refine s_t ?_ (by simp; omega)
      repeat refine s_nx ?_
      refine s_idx (s := kd) (i := (l.map Prod.fst).length) ?_ (by omega)
      refine s_ldE0 (s := kd) (x := ptr q) (kp_at at_mid) ?_
      refine s_pick (kidsR G.toBtT d (l.map Prod.fst ++ q :: r.map Prod.snd)) ?_
      refine s_kid ?_
      refine ih (m := 2) (b := q.1) (M := q.2) (by omega) hs2.2.1 fun M' old had hp => ?_
      refine s_stN (b := v4) ?_ okT.vz.1 old.2.1 old.2.2
      rw [show (l.map Prod.fst ++ q :: r.map Prod.snd).map ptr = (l.map Prod.fst ++ (q.1, M') :: r.map Prod.snd).map ptr by simp [ptr]]
      rw [show ((l.map Prod.snd).length : Int) = ((l.map Prod.fst).length : Int) by rw [hll, hlf]]
      refine s_pick (kidsR G.toBtT d (l.map Prod.fst ++ r.map Prod.snd)) ?_
      refine s_pick (NodeR G.toBtT d 0 q.1 M') ?_
      refine s_ownS kd ?_
      refine s_ownS s ?_
      refine s_own b ?_
      refine mend_spec ok (q := (q.1, M')) (by simp; omega) (fun h0 => hne ?_) (by simp; omega) ?_
      · have := congrArg List.length h0
        simp only [List.length_append, List.length_map, List.length_nil] at this
        exact List.length_eq_zero_iff.1 (by omega)
      unfold ntake_s1
      refine s_ret3 (v := old) ?_
      obtain ⟨q0', ps', e3, e4, e5, e6⟩ := zback l (q.1, M') r
      rw [← e4, ← e5, wv_ps, e6]
      exact s_end (h _ _ _ (hp.mid hpre hpost))

theorem s_tdel1 (ok : BtDOk G c) {t v4 d b : Nat} {L L' : List G.It} {k : κ} {old : Cel G.nv} {had : Bool} {Q : Array Value → Bool → K} (hs : Srt c L) (hL : L.length < 1000000000) (hp : DelR c (G.z0 ok.vz) L k L' old had) (h : HG B (TreeR G.toBtT c t L' :: Γ) (Q old.1.toArray had)) :
    HG B (valB G.toBtT v4 old :: blk t (.cells [.pointer (some ⟨b, 0, none⟩), .int .i64 L.length].toArray G.tT (0, 0)) :: NodeR G.toBtT d 1 b L' :: Γ) (tdel_s1 G Q ⟨t, 0, none⟩ ⟨v4, 0, none⟩ had) := by
  have hlen := hp.len
  unfold tdel_s1
  refine s_ite (fun hb => ?_) fun hb => ?_
  · rw [hb, if_pos rfl] at hlen
    repeat first | refine s_nx ?_ | refine s_ai ?_
    unfold tdel_s2
    rw [show ((L.length : Nat) : Int) - 1 = ((L'.length : Nat) : Int) by omega]
    refine s_ret3 (v := old) ?_
    refine s_own b ?_
    refine s_own t ?_
    exact s_mkTree (hp.srt hs) (s_end h)
  · rw [hb, if_neg (by simp)] at hlen
    unfold tdel_s2
    rw [show ((L.length : Nat) : Int) = ((L'.length : Nat) : Int) by omega]
    refine s_ret3 (v := old) ?_
    refine s_own b ?_
    refine s_own t ?_
    exact s_mkTree (hp.srt hs) (s_end h)
/-- Delete. -/
theorem tdel_spec (ok : BtDOk G c) {t : Nat} {L : List G.It} {k : κ} {Q : Array Value → Bool → K} (hL : L.length < 1000000000) (h : ∀ L' old had, DelR c (G.z0 ok.vz) L k L' old had → HG B (TreeR G.toBtT c t L' :: Γ) (Q old.1.toArray had)) :
    HG B (TreeR G.toBtT c t L :: Γ) (tdel G (some ⟨t, 0, none⟩) k Q) := by
  have okT := ok.toBtOk
  refine s_tree fun d b hs => ?_
  unfold tdel
  refine s_new fun v4 => ?_
  repeat refine s_nx ?_
  refine s_pick (NodeR G.toBtT d 1 b L) ?_
  refine ntake_spec ok d (m := 1) (Nat.le_refl _) hs fun M' old had hp => ?_
  have h := h M' old had hp
  refine s_stN (b := v4) ?_ okT.vz.1 old.2.1 old.2.2
  repeat refine s_nx ?_
  refine s_own b ?_
  refine s_raw fun s kd its ks hf hl _ hM => ?_
  refine s_cap s fun a1 a2 a3 a4 => ?_
  refine s_cap kd fun b1 b2 b3 b4 => ?_
  have hsn := its_n a1
  have hkn := kps_n b1
  rw [List.length_map] at hkn
  repeat refine s_nx ?_
  have back : ((d = 0 ∧ 1 = 1) ∨ its ≠ []) → HG B (rawL G.toBtT d b s kd its ks (valB G.toBtT v4 old :: blk t (.cells [.pointer (some ⟨b, 0, none⟩), .int .i64 L.length].toArray G.tT (0, 0)) :: Γ)) (tdel_s3 G Q ⟨t, 0, none⟩ ⟨v4, 0, none⟩ had false) := fun hb => by
    refine s_unraw (m := 1) hf hl (fun _ => hb) ?_
    rw [← hM]
    unfold tdel_s3
    repeat refine s_nx ?_
    refine s_own b ?_
    refine s_own t ?_
    refine s_pick (valB G.toBtT v4 old) ?_
    exact s_tdel1 ok hs hL hp h
  refine s_ite (fun hb => ?_) fun hb => ?_
  · have hn : its = [] := List.length_eq_zero_iff.1 (by simp only [decide_eq_true_eq] at hb; omega)
    subst hn
    repeat refine s_nx ?_
    cases d with
    | zero =>
      have hk : ks = [] := hf
      subst hk
      rw [show decide ((kd.n : Int) = 1) = false by simp only [List.length_nil] at hkn; simp; omega]
      exact s_end (back (.inl ⟨rfl, rfl⟩))
    | succ d =>
      obtain ⟨q, rfl⟩ : ∃ q, ks = [q] := List.length_eq_one_iff.1 hf
      simp only [List.length_cons, List.length_nil] at hkn
      rw [show decide ((kd.n : Int) = 1) = true by simp; omega]
      unfold tdel_s3
      repeat refine s_nx ?_
      refine s_idx (s := kd) (i := 0) ?_
      refine s_ldE0 (s := kd) (x := ptr q) (by simp) ?_
      refine s_st (b := t) (v := .pointer (some ⟨q.1, 0, none⟩)) ?_
      refine s_pick (kidsD G.toBtT (d + 1) [q]) ?_
      refine s_conv (A' := kidsR G.toBtT d [q]) (fun _ h => h) ?_
      refine s_kid (A := []) (C := []) (q := q) ?_
      refine s_conv (NodeR.weak (m' := 1) (by simp) (by simp)) ?_
      have e : q.2 = M' := hM.symm
      rw [e]
      refine s_pick (NodeR G.toBtT d 1 q.1 M') ?_
      refine s_own t ?_
      refine s_pick (valB G.toBtT v4 old) ?_
      refine s_tdel1 ok hs hL hp ?_
      exact s_end h
  · have hn : its ≠ [] := fun h0 => by
      rw [h0, List.length_nil] at hsn
      simp only [decide_eq_false_iff_not] at hb; omega
    exact s_end (back (.inr hn))
end
end Bt
end Go.Sep
/- The store: values that come and go. -/
namespace Go.Proofs.Ytfjjocopmknhgaa
open Go Go.Sep Go.Sep.Bt
set_option linter.unusedSimpArgs false
set_option linter.unusedVariables false
set_option maxRecDepth 100000

noncomputable def btSD : BtD ByteArray where
  toBtT := btS
  delIC := slices_Delete_s_btree_item_string_api_Record_btree_item_string_api_Record.call
  delKC := slices_Delete_s_btree_node_string_api_Record_btree_node_string_api_Record.call
  ntakeC := btree_node_string_api_Record_take.call
  nlastC := btree_node_string_api_Record_last.call
  nmendC := btree_node_string_api_Record_mend.call
theorem btSD_ok : BtDOk btSD cmpS where
  toBtOk := btS_ok
  delI := ⟨_, fun s i j Q w h => slices_Delete_s_btree_item_string_api_Record_btree_item_string_api_Record_ok _ _ _ _ _ h⟩
  delK := ⟨_, fun s i j Q w h => slices_Delete_s_btree_node_string_api_Record_btree_node_string_api_Record_ok _ _ _ _ _ h⟩
  take := fun n k Q w h => btree_node_string_api_Record_take_ok _ _ _ _ h
  last := fun n Q w h => btree_node_string_api_Record_last_ok _ _ _ h
  mend := fun n i Q w h => btree_node_string_api_Record_mend_ok _ _ _ _ h

def delM (M : Recs) (k : ByteArray) : Recs := M.filter fun x => !decide (x.1 = k)
def setM (M : Recs) (k : ByteArray) (r : Rec) : Recs := if r.has = false ∧ r.cnt = 0 then delM M k else putM M k r
theorem getM_del (M : Recs) (k k' : ByteArray) : getM (delM M k) k' = if k' = k then none else getM M k' := by
  unfold getM delM
  rw [List.find?_filter]
  split
  · rename_i h
    subst h
    rw [List.find?_eq_none.2 (fun x _ => by simp)]; rfl
  · rename_i h
    congr 2
    funext x
    by_cases h2 : x.1 = k
    · simp [h2, Ne.symm h]
    · by_cases h3 : x.1 = k' <;> simp [h2, h3, h]
theorem sGet_set (n : Nat) (M : Recs) (k k' : ByteArray) (r : Rec) : sGet n (setM M k r) k' = if k' = k then (if r.has = false ∧ r.cnt = 0 then ⟨false, [], homeOf k.toList n, 0⟩ else r) else sGet n M k' := by
  unfold setM
  split
  · unfold sGet
    rw [getM_del]
    split
    · rename_i h; rw [h]; rfl
    · rfl
  · rw [sGet_put]
theorem delM_none {M : Recs} {k : ByteArray} (h : ∀ x ∈ M, x.1 ≠ k) : delM M k = M := List.filter_eq_self.2 fun x hx => by simpa using h x hx
theorem delM_mid {A C : Recs} {k : ByteArray} {r : Rec} (hA : ∀ x ∈ A, x.1 ≠ k) (hC : ∀ x ∈ C, x.1 ≠ k) : delM (A ++ (k, r) :: C) k = A ++ C := by
  unfold delM
  rw [List.filter_append, List.filter_cons_of_neg (by simp)]
  exact congr (congrArg _ (delM_none hA)) (delM_none hC)
theorem setM_len (M : Recs) (k : ByteArray) (r : Rec) : (setM M k r).length ≤ M.length + 1 := by
  unfold setM
  split
  · have := List.length_filter_le (fun x => !decide (x.1 = k)) M
    unfold delM; omega
  · exact putM_len _ _ _
section
variable {B : World} {Γ Δ : List HProp}
theorem btDel_spec {t : Nat} {L : List btS.It} {k : ByteArray} {Q : Array Value → Bool → K} (hL : L.length < 1000000000) (h : ∀ L' old had, DelR cmpS (btS.z0 btS_ok.vz) L k L' old had → HG B (TreeR btS cmpS t L' :: Γ) (Q old.1.toArray had)) :
    HG B (TreeR btS cmpS t L :: Γ) (btree_Tree_string_api_Record_Delete.call (some ⟨t, 0, none⟩) k Q) := fun w hw =>
  btree_Tree_string_api_Record_Delete_ok _ _ _ _ (show tdel btSD (some ⟨t, 0, none⟩) k Q w from hg hw (tdel_spec btSD_ok hL h))
theorem gt_of_srt {X Y : List RecX} {k : ByteArray} {r : Rec × Sl} (h : Srt cmpS ((X ++ (k, r) :: Y).map recI)) : ∀ x ∈ Y, cmpS k x.1 < 0 := fun x hx => by
  rw [List.map_append, List.map_cons] at h
  exact (List.pairwise_cons.1 (List.pairwise_append.1 h).2.1).1 (recI x) (List.mem_map.2 ⟨x, hx, rfl⟩)
/-- A key goes. -/
theorem storeDel_hg {st t n : Nat} {X : List RecX} {k : ByteArray} {q : Array Value → Bool → K} (hok : ∀ x ∈ X.map recM, x.2.ok) (h1 : 1 ≤ n) (h3 : n ≤ 3) (hL : X.length < 1000000000)
    (h : ∀ a b, HG B (StoreR st n (delM (X.map recM) k) :: Γ) (q a b)) :
    HG B (blk st (.cells [.int .i64 n, .pointer (some ⟨t, 0, none⟩)].toArray ty_store_Store (0, 0)) :: TreeR btS cmpS t (X.map recI) :: Sep.stars (X.map recB) :: Γ) (btree_Tree_string_api_Record_Delete.call (some ⟨t, 0, none⟩) k q) := by
  refine s_own t ?_
  refine tree_srt fun hs => ?_
  refine btDel_spec (by simpa using hL) fun L' old had hp => ?_
  rcases hp with ⟨A, C, e, rfl, rfl⟩ | ⟨⟨A, C, e, hA, hC⟩, rfl, rfl, rfl⟩
  · obtain ⟨XA, r0, XC, rfl, rfl, rfl, rfl⟩ := split_rec e
    have e2 : delM ((XA ++ (k, r0) :: XC).map recM) k = (XA ++ XC).map recM := by
      rw [List.map_append, List.map_cons, List.map_append]
      refine delM_mid (fun x hx => ?_) fun x hx => ?_
      · obtain ⟨y, hy, rfl⟩ := List.mem_map.1 hx
        exact ne_of_lt (lt_of_srt hs y hy)
      · obtain ⟨y, hy, rfl⟩ := List.mem_map.1 hx
        exact Ne.symm (ne_of_lt (gt_of_srt hs y hy))
    rw [e2] at h
    refine s_pick (Sep.stars ((XA ++ (k, r0) :: XC).map recB)) ?_
    refine s_mid ?_
    rw [show XA.map recI ++ XC.map recI = (XA ++ XC).map recI by simp]
    refine s_pick (Sep.stars ((XA ++ XC).map recB)) ?_
    refine s_own t ?_
    refine s_own st ?_
    refine s_mkStore (fun x hx => hok x ?_) h1 h3 (s_end (h _ _))
    rw [List.map_append] at hx ⊢
    rcases List.mem_append.1 hx with hx | hx
    · exact List.mem_append_left _ hx
    · exact List.mem_append_right _ (List.mem_cons_of_mem _ hx)
  · have e2 : delM (X.map recM) k = X.map recM := delM_none fun x hx => by
      obtain ⟨y, hy, rfl⟩ := List.mem_map.1 hx
      have hy2 : recI y ∈ A ++ C := by rw [← e]; exact List.mem_map.2 ⟨y, hy, rfl⟩
      rcases List.mem_append.1 hy2 with h4 | h4
      · exact ne_of_lt (hA _ h4)
      · exact Ne.symm (ne_of_lt (hC _ h4))
    rw [e2] at h
    refine s_pick (Sep.stars (X.map recB)) ?_
    refine s_own t ?_
    refine s_own st ?_
    exact s_mkStore hok h1 h3 (s_end (h _ _))
theorem storeSetM_spec {st n : Nat} {M : Recs} {k : ByteArray} {r : Rec} {s : Sl} {q : K} (hr : r.ok) (hL : M.length < 1000000000) (h : HG B (StoreR st n (setM M k r) :: Γ) q) : HG B (StoreR st n M :: Bytes ty_uint8 s r.val :: Γ) (store_Store_set.call (some ⟨st, 0, none⟩) k (recA r s) q) := by
  unfold setM at h
  split at h
  · rename_i h0
    refine fun w hw => store_Store_set_ok _ _ _ _ _ ?_
    refine hg hw ?_
    clear hw w
    refine s_store fun t X hM hok h1 h3 => ?_
    subst hM
    unfold store_Store_set
    refine s_new fun r5 => ?_
    repeat refine s_nx ?_
    refine s_t ?_ (by simp [h0.1])
    repeat refine s_nx ?_
    rw [show decide (r.cnt = 0) = true by simpa using h0.2]
    unfold store_Store_set.s1
    repeat refine s_nx ?_
    refine s_pick (Sep.stars (X.map recB)) ?_
    refine s_own t ?_
    refine s_own st ?_
    exact storeDel_hg hok h1 h3 (by simpa using hL) fun _ _ => s_end h
  · rename_i h0
    refine storeSet_spec hr ?_ hL h
    by_cases h1 : r.has = true
    · exact .inl h1
    · exact .inr fun h2 => h0 ⟨by simpa using h1, h2⟩
/-- A key gets a value. -/
theorem storePutV_spec {st n : Nat} {M : Recs} {k : ByteArray} {v : Sl} {xs : List UInt8} {q : K} (hk : k.size < 1000000000000) (hL : M.length < 1000000000) (hr : ∀ w, Holds B Γ w → RdB w v xs) (hx : xs.length ≤ 1000000000)
    (h : HG B (StoreR st n (setM M k { sGet n M k with has := true, val := xs }) :: Γ) q) : HG B (StoreR st n M :: Γ) (store_Store_Put.call (some ⟨st, 0, none⟩) k v q) := by
  refine fun w hw => store_Store_Put_ok _ _ _ _ _ ?_
  refine hg hw ?_
  clear hw w
  unfold store_Store_Put
  refine storeGet_spec hk fun s hok => ?_
  generalize sGet n M k = r at *
  refine s_new fun r6 => ?_
  refine s_stN (b := r6) (l' := recL r s) ?_
  refine bytesClone_hg (fun w hw => hr w hw.drops) hx fun s' _ => ?_
  repeat refine s_nx ?_
  refine s_ownS s' ?_
  refine s_own st ?_
  obtain ⟨o1, o2, o3⟩ := hok
  refine storeSetM_spec (r := { r with has := true, val := xs }) ⟨o1, o2, hx⟩ hL ?_
  exact s_end h
/-- A key's value goes. -/
theorem storeDelete_spec {st n : Nat} {M : Recs} {k : ByteArray} {q : K} (hk : k.size < 1000000000000) (hL : M.length < 1000000000)
    (h : HG B (StoreR st n (setM M k { sGet n M k with has := false, val := [] }) :: Γ) q) : HG B (StoreR st n M :: Γ) (store_Store_Delete.call (some ⟨st, 0, none⟩) k q) := by
  refine fun w hw => store_Store_Delete_ok _ _ _ _ ?_
  refine hg hw ?_
  clear hw w
  unfold store_Store_Delete
  refine storeGet_spec hk fun s hok => ?_
  generalize sGet n M k = r at *
  refine s_new fun r6 => ?_
  refine s_stN (b := r6) (l' := recL r s) ?_
  repeat refine s_nx ?_
  refine fun w hw => ?_
  refine hg (show Holds B (Bytes ty_uint8 ⟨none, 0, 0⟩ [] :: _) w from hw.nilSl ty_uint8 1) ?_
  clear hw w
  refine s_ownS ⟨none, 0, 0⟩ ?_
  refine s_own st ?_
  obtain ⟨o1, o2, o3⟩ := hok
  refine storeSetM_spec (r := { r with has := false, val := [] }) ⟨o1, o2, by simp⟩ hL ?_
  exact s_end h
end
end Go.Proofs.Ytfjjocopmknhgaa
/- eval.Apply: a store gets what a transaction wrote. -/
namespace Go.Proofs.Ytfjjocopmknhgaa
open Go Go.Sep Go.Sep.Bt
set_option linter.unusedSimpArgs false
set_option linter.unusedVariables false
set_option maxRecDepth 100000

def sPut (n : Nat) (M : Recs) (k : ByteArray) (xs : List UInt8) : Recs := setM M k { sGet n M k with has := true, val := xs }
def sDel (n : Nat) (M : Recs) (k : ByteArray) : Recs := setM M k { sGet n M k with has := false, val := [] }
def apply0 (n : Nat) (M : Recs) (x : List UInt8 × Rec) : Recs := if (sGet n M (bs x.1)).cnt ≠ x.2.cnt then (sMove n M (bs x.1) x.2.home).1 else M
def apply1 (n : Nat) (M : Recs) (x : List UInt8 × Rec) : Recs := if x.2.has then sPut n (apply0 n M x) (bs x.1) x.2.val else sDel n (apply0 n M x) (bs x.1)
def applyM (n : Nat) (M : Recs) (W : WM) : Recs := W.foldl (apply1 n) M
theorem sMove_len2 (n : Nat) (M : Recs) (k : ByteArray) (to : Int) : (sMove n M k to).1.length ≤ M.length + 1 := by
  unfold sMove
  split
  · simp
  split
  · simp
  exact putM_len _ _ _
theorem apply0_len (n : Nat) (M : Recs) (x : List UInt8 × Rec) : (apply0 n M x).length ≤ M.length + 1 := by
  unfold apply0
  split
  · exact sMove_len2 _ _ _ _
  · omega
theorem apply1_len (n : Nat) (M : Recs) (x : List UInt8 × Rec) : (apply1 n M x).length ≤ M.length + 2 := by
  have h := apply0_len n M x
  unfold apply1 sPut sDel
  split
  · exact Nat.le_trans (setM_len _ _ _) (by omega)
  · exact Nat.le_trans (setM_len _ _ _) (by omega)
section
variable {B : World} {Γ Δ : List HProp} {st n : Nat} {M : Recs}
instance (priority := high) adr_add00 {b n m : Nat} : AdrIs (((⟨b, 0, none⟩ : Addr).add n).add m) b (n + m) := ⟨by rw [add_mk, add_mk, Nat.zero_add]⟩
abbrev rowL (x : List UInt8 × (Rec × Sl)) : List Value := [strV x.1, .bool x.2.1.has, x.2.2.val, .int .i64 x.2.1.home, .int .u64 x.2.1.cnt]
theorem apply_hg {s : Sl} {R : WX} {Q : K} (hr : ∀ w, Holds B Γ w → RdC w s 5 (R.flatMap rowF)) (hv : ∀ x ∈ R, ∀ w, Holds B Γ w → RdB w x.2.2 x.2.1.val) (hR : ∀ x ∈ R, x.1.length < 1000000000 ∧ x.2.1.ok) (hL : M.length + 2 * R.length < 100000000)
    (h : HG B (StoreR st n (applyM n M (modW R)) :: Γ) Q) : HG B (StoreR st n M :: Γ) (eval_Apply.call (some ⟨st, 0, none⟩) s Q) := fun w hw => by
  refine eval_Apply_ok _ _ _ _ ?_
  have hsn : s.n = R.length := rd_len rowF_len (by omega) (hr w hw.tail)
  refine hg hw ?_
  clear hw w
  unfold eval_Apply
  refine s_loop (α := Int) (ι := Nat × Recs) (fun x i => x = (i.1 : Int) ∧ i.1 ≤ R.length ∧ i.2 = applyM n M (modW (R.take i.1)) ∧ i.2.length ≤ M.length + 2 * i.1) (fun x i => StoreR st n i.2 :: Γ) (fun x i => R.length - i.1) (0, M) ⟨rfl, Nat.zero_le _, rfl, Nat.le_refl _⟩ ?_
  rintro k' _ ⟨i, N⟩ ⟨rfl, hi, hN, hNl⟩ hk'
  simp only at hi hN hNl hk' ⊢
  unfold eval_Apply.b1
  refine s_ite (fun hb => ?_) fun hb => ?_
  · have hil : i < R.length := by simp only [decide_eq_true_eq] at hb; omega
    have hge : R[i]? = some R[i] := List.getElem?_eq_getElem hil
    have hmem : R[i] ∈ R := List.getElem_mem hil
    have htk : R.take (i + 1) = R.take i ++ [R[i]] := List.take_succ_eq_append_getElem hil
    generalize R[i] = x at hge hmem htk
    obtain ⟨hxk, hxo⟩ := hR x hmem
    have hsz : (bs x.1).size = x.1.length := rfl
    refine s_idxN rowF rowF_len (fun w hw => hr w hw.tail) hge ?_
    refine s_new fun w5 => ?_
    refine s_stN (b := w5) (l' := rowL x) ?_
    repeat refine s_nx ?_
    refine s_own st ?_
    refine storeGet_spec (by omega) fun sl hok => ?_
    repeat refine s_nx ?_
    have next : ∀ N2, N2 = apply0 n N (x.1, x.2.1) → HG B (blk w5 (.cells (rowL x).toArray ty_api_Row (0, 0)) :: StoreR st n N2 :: Γ) (eval_Apply.s3 Q k' (some ⟨st, 0, none⟩) ⟨w5, 0, none⟩ s (s.n : Int) (i : Int)) := fun N2 hN2 => by
      have hl0 := apply0_len n N (x.1, x.2.1)
      have hl1 := apply1_len n N (x.1, x.2.1)
      have fin : HG B (StoreR st n (apply1 n N (x.1, x.2.1)) :: Γ) (eval_Apply.s2 Q k' (some ⟨st, 0, none⟩) s (s.n : Int) (i : Int)) := by
        unfold eval_Apply.s2
        refine s_ai ?_
        refine hk' ((i : Int) + 1) (i + 1, apply1 n N (x.1, x.2.1)) ⟨by simp, hil, ?_, by simp only; omega⟩ (by simp only; omega)
        simp only [htk, modW, List.map_append, List.map_cons, List.map_nil, applyM, List.foldl_append, List.foldl_cons, List.foldl_nil]
        rw [hN]; rfl
      unfold eval_Apply.s3
      repeat refine s_nx ?_
      refine s_ite (fun hc => ?_) fun hc => ?_
      · repeat refine s_nx ?_
        refine s_own st ?_
        refine storePutV_spec (by omega) (by rw [hN2]; omega) (fun w hw => hv x hmem w hw.drops) hxo.2.2 ?_
        have e : setM N2 (bs x.1) { sGet n N2 (bs x.1) with has := true, val := x.2.1.val } = apply1 n N (x.1, x.2.1) := by
          unfold apply1 sPut; rw [if_pos hc, ← hN2]
        rw [e]
        exact s_end fin
      · repeat refine s_nx ?_
        refine s_own st ?_
        refine storeDelete_spec (by omega) (by rw [hN2]; omega) ?_
        have e : setM N2 (bs x.1) { sGet n N2 (bs x.1) with has := false, val := [] } = apply1 n N (x.1, x.2.1) := by
          unfold apply1 sDel; rw [if_neg (by simp [hc]), ← hN2]
        rw [e]
        exact s_end fin
    refine s_ite (fun hc => ?_) fun hc => ?_
    · have hc' : (sGet n N (bs x.1)).cnt ≠ x.2.1.cnt := by simpa using hc
      repeat refine s_nx ?_
      refine s_own st ?_
      refine storeMove_spec (M := N) (by omega) (by omega) ?_
      exact s_end (next _ (by unfold apply0; rw [if_pos hc']))
    · have hc' : ¬ (sGet n N (bs x.1)).cnt ≠ x.2.1.cnt := by simpa using hc
      exact s_end (next _ (by unfold apply0; rw [if_neg hc']))
  · have hil : i = R.length := by simp only [decide_eq_false_iff_not] at hb; omega
    rw [hil, List.take_length] at hN
    rw [hN]
    exact h
end
end Go.Proofs.Ytfjjocopmknhgaa
/- Plain forms of functions, and that their code comes to them (package law07). -/
namespace Go.Proofs.Ytfjjocopmknhgaa
open Go Go.Sep
set_option linter.unusedVariables false
set_option linter.unusedSimpArgs false
set_option maxRecDepth 100000
set_option maxHeartbeats 4000000
attribute [local irreducible] G Gp Cx Tx Ex Sx Dx Ox Ax Lx Rx Fx Bx Bj Al Do Ld LdN St StN New CallF Ar DoU Rd Rd2 Pu Cd Ite Fv CallV CallY Ans0 Ans1 Ans2 Ans3 Ans4 Ans5 Ext Dead Dr WithS Sv LdS LdNS RdS Rd2S Nn Idx IdxA IdxS Fld Bld Slc SlcS Cat All LoopK RangeF RangeJ TakeD
namespace F_IRLaw07
instance at_126 : AT Try.prog 126 4 := ⟨by kernel_rfl⟩
instance cb_13 : CB Try.prog 13 := ⟨by kernel_rfl⟩
instance cb_15 : CB Try.prog 15 := ⟨by kernel_rfl⟩
instance cb_30 : CB Try.prog 30 := ⟨by kernel_rfl⟩
instance cb_35 : CB Try.prog 35 := ⟨by kernel_rfl⟩
instance cb_38 : CB Try.prog 38 := ⟨by kernel_rfl⟩
instance cb_58 : CB Try.prog 58 := ⟨by kernel_rfl⟩
instance cb_67 : CB Try.prog 67 := ⟨by kernel_rfl⟩
instance cb_73 : CB Try.prog 73 := ⟨by kernel_rfl⟩
instance ct_26 : CT Try.prog 26 := ⟨by kernel_rfl⟩
instance ct_3 : CT Try.prog 3 := ⟨by kernel_rfl⟩
instance ct_33 : CT Try.prog 33 := ⟨by kernel_rfl⟩
instance ct_4 : CT Try.prog 4 := ⟨by kernel_rfl⟩
instance ct_74 : CT Try.prog 74 := ⟨by kernel_rfl⟩
instance ct_9 : CT Try.prog 9 := ⟨by kernel_rfl⟩
instance ft_118_1 : FT Try.prog 118 1 1 1 := ⟨by kernel_rfl⟩
instance ft_126_0 : FT Try.prog 126 0 0 1 := ⟨by kernel_rfl⟩
instance ft_126_1 : FT Try.prog 126 1 1 1 := ⟨by kernel_rfl⟩
instance ft_126_2 : FT Try.prog 126 2 2 1 := ⟨by kernel_rfl⟩
instance ft_126_3 : FT Try.prog 126 3 3 1 := ⟨by kernel_rfl⟩
instance ft_76_0 : FT Try.prog 76 0 0 1 := ⟨by kernel_rfl⟩
instance ft_76_1 : FT Try.prog 76 1 1 1 := ⟨by kernel_rfl⟩
instance mx : MX Try.prog := ⟨mixed⟩
instance pl_50 : PLT Try.prog 50 [(0, 1), (1, 1), (2, 1), (3, 1), (4, 1)] := ⟨_, Try.underlying50, by kernel_rfl⟩
instance pl_84 : PLT Try.prog 84 [(0, 1), (1, 1), (2, 1), (3, 1)] := ⟨_, Try.underlying84, by kernel_rfl⟩
instance sl_33 : SLT Try.prog 33 5 1 := ⟨by kernel_rfl⟩
instance sl_47 : SLT Try.prog 47 9 1 := ⟨by kernel_rfl⟩
instance sl_48 : SLT Try.prog 48 84 4 := ⟨by kernel_rfl⟩
instance sl_70 : SLT Try.prog 70 126 4 := ⟨by kernel_rfl⟩
instance sl_74 : SLT Try.prog 74 118 2 := ⟨by kernel_rfl⟩
instance sl_77 : SLT Try.prog 77 81 5 := ⟨by kernel_rfl⟩
instance st_9 : STT Try.prog 9 := ⟨by kernel_rfl⟩
instance sz_126 : SZ Try.prog 126 4 := ⟨by kernel_rfl⟩
instance sz_76 : SZ Try.prog 76 2 := ⟨by kernel_rfl⟩
instance un_25 : UN Try.prog 25 (.pointer 112) := ⟨Try.underlying25⟩
instance zt_126 : ZT Try.prog 126 (.agg #[(.string ⟨#[]⟩), (Sl.val ⟨none, 0, 0⟩), (.bool false), (.int .i64 0)]) := ⟨Try.t126, by kernel_rfl, by kernel_rfl⟩
instance zt_50 : ZT Try.prog 50 (.agg #[(.int .i64 0), (Sl.val ⟨none, 0, 0⟩), (Sl.val ⟨none, 0, 0⟩), (Sl.val ⟨none, 0, 0⟩), (.int .i64 0)]) := ⟨Try.t50, by kernel_rfl, by kernel_rfl⟩
instance zt_76 : ZT Try.prog 76 (.agg #[(.int .i64 0), (Sl.val ⟨none, 0, 0⟩)]) := ⟨Try.t76, by kernel_rfl, by kernel_rfl⟩
instance zt_84 : ZT Try.prog 84 (.agg #[(.int .i64 0), (.string ⟨#[]⟩), (Sl.val ⟨none, 0, 0⟩), (.int .i64 0)]) := ⟨Try.t84, by kernel_rfl, by kernel_rfl⟩
instance zt_9 : ZT Try.prog 9 (.string ⟨#[]⟩) := ⟨Try.t9, by kernel_rfl, by kernel_rfl⟩
end F_IRLaw07
def law07_speaks.s1 (Q : Bool → K)  (t0_1 : Bool) : K :=
  Q t0_1
def law07_speaks  (Q : Bool → K) : K :=
  store_New.call 1 fun t6x0 t6x1 =>
  Ite ((t6x0).isNone)
    (Q false)
    (New 9 #[(.string ⟨#[110]⟩)] fun t13 =>
    Bld #[(.int .i64 0), (.string ⟨#[]⟩), (Sl.val ⟨none, 0, 0⟩), (.int .i64 0), (.int .i64 0), (.string ⟨#[]⟩), (Sl.val ⟨none, 0, 0⟩), (.int .i64 0)] (fun i => some (i * 4, 4)) [(0, (.agg #[(.int .i64 6), (.string ⟨#[110]⟩), (Sl.val ⟨none, 0, 0⟩), (.int .i64 5)])), (1, (.agg #[(.int .i64 1), (.string ⟨#[110]⟩), (Sl.val ⟨none, 0, 0⟩), (.int .i64 0)]))] fun ct16 =>
    New 84 ct16 fun t16 =>
    eval_Run.call t6x0 #[(.int .i64 1), (Sl.val ⟨none, 0, 0⟩), (Sl.val (Sl.mk (some t13) 1 1)), (Sl.val (Sl.mk (some t16) 2 2)), (.int .i64 0)] fun t18x0 t18x1 =>
    New 76 #[(.int .i64 0), (Sl.val ⟨none, 0, 0⟩)] fun r3 =>
    StN r3 2 t18x0 <|
    Ld r3 (Value.int .i64) fun t22 =>
    Ite (decide (t22 = 0))
      (Ld (r3.add 1) Sl.val fun t26 =>
      Ite (decide ((t26.n : Int) = 1))
        (Ld (r3.add 1) Sl.val fun t32 =>
        Idx t32 0 2 fun t33 =>
        Ld (t33.add 1) Sl.val fun t35 =>
        Rd Try.prog (convert 33 9 (Sl.val t35)) Value.string fun t36 =>
        Ite (t36.toList == (⟨#[0, 0, 0, 0, 0, 0, 0, 5]⟩ : ByteArray).toList)
          (law07_speaks.s1 Q (decide ((t18x1.n : Int) = 1)))
          (law07_speaks.s1 Q false))
        (law07_speaks.s1 Q false))
      (law07_speaks.s1 Q false))
theorem law07_speaks_ok  (Q : Bool → K) (w : World) (h : law07_speaks  Q w) : law07_speaks.call  Q w := by
  have hJ1000005 : JH 1000005 fun D => D [] (fun C => ∀ (t0_1 : Bool), C [(0, (.bool t0_1))] (law07_speaks.s1 Q t0_1)) := by intros; exact ⟨fun _ h => ⟨_, _, h⟩⟩
  exact g_walk 44 h Try.func17
def law07_great.s2 (Q : Bool → K) (X1 : Int → K) (t8_2 : Sl) (t9_2 : Int) (t10_2 : Int) (t23_2 : Bool) : K :=
  Ite t23_2
    (Q true)
    (Ar (IntKind.wrap .i64 (t10_2 + 1)) fun t24 =>
    X1 t24)
def law07_great.b1 (Q : Bool → K)  (X1 : Int → K) (t8_1 : Sl) (t9_1 : Int) (t10_1 : Int) : K :=
  Ite (decide (t10_1 < t9_1))
    (Idx t8_1 t10_1 4 fun t12 =>
    LdN t12 4 fun t13 =>
    New 126 #[(.string ⟨#[]⟩), (Sl.val ⟨none, 0, 0⟩), (.bool false), (.int .i64 0)] fun c4 =>
    StN c4 4 t13 <|
    Ld c4 Value.string fun t15 =>
    Ite (decide ((200 : Int) < (t15.size : Int)))
      (law07_great.s2 Q X1 t8_1 t9_1 t10_1 true)
      (Ld (c4.add 1) Sl.val fun t20 =>
      law07_great.s2 Q X1 t8_1 t9_1 t10_1 (decide ((200 : Int) < (t20.n : Int)))))
    (Q false)
def law07_great (cells0 : Sl) (Q : Bool → K) : K :=
  Ite (decide ((40 : Int) < (cells0.n : Int)))
    (Q true)
    (LoopK (α := Int) (fun X x => law07_great.b1 Q X cells0 (cells0.n : Int) x) 0)
theorem law07_great_ok (cells0 : Sl) (Q : Bool → K) (w : World) (h : law07_great cells0 Q w) : law07_great.call cells0 Q w := by
  have hJ7 : ∀ (X1 : Int → K), XH 4 X1 → JH 7 fun D => ∃ (t8_2 : Sl) (t9_2 : Int) (t10_2 : Int), D [(8, (Sl.val t8_2)), (9, (.int .i64 t9_2)), (10, (.int .i64 t10_2))] (fun C => ∀ (t23_2 : Bool), C [(8, (Sl.val t8_2)), (9, (.int .i64 t9_2)), (10, (.int .i64 t10_2)), (23, (.bool t23_2))] (law07_great.s2 Q X1 t8_2 t9_2 t10_2 t23_2)) := by intros; exact ⟨fun _ ⟨_, _, _, h⟩ => ⟨_, _, h⟩⟩
  have hL4 : ∀ (t8_1 : Sl) (t9_1 : Int), LH 4 (fun x : Int => [(8, (Sl.val t8_1)), (9, (.int .i64 t9_1)), (10, (.int .i64 x))]) (fun X x => law07_great.b1 Q X t8_1 t9_1 x) := by intros; exact ⟨⟩
  exact g_walk 25 h Try.func32
def law07_filled.b3 (Q : (Option Addr) → (Option Addr) → K) (X1 : Int → K) (X3 : Int → K) (s4_3 : (Option Addr)) (m6_3 : (Option Addr)) (c8_3 : Addr) (t18_3 : Sl) (t19_3 : Int) (t20_3 : Int) (k9_3 : Int) : K :=
  Ld (c8_3.add 3) (Value.int .i64) fun t40 =>
  Ar (bitsOf .and .i64 t40 3) fun t41 =>
  Ite (decide (k9_3 < t41))
    (Ld c8_3 Value.string fun t47 =>
    store_Store_Move.call s4_3 t47 k9_3 fun t49 =>
    Ld c8_3 Value.string fun t52 =>
    ref06_Store_Move.call m6_3 t52 k9_3 fun t54 =>
    Ar (IntKind.wrap .i64 (k9_3 + 1)) fun t44 =>
    X3 t44)
    (Ar (IntKind.wrap .i64 (t20_3 + 1)) fun t55 =>
    X1 t55)
def law07_filled.s2 (Q : (Option Addr) → (Option Addr) → K) (X1 : Int → K) (s4_2 : (Option Addr)) (m6_2 : (Option Addr)) (c8_2 : Addr) (t18_2 : Sl) (t19_2 : Int) (t20_2 : Int) : K :=
  LoopK (α := Int) (fun X x => law07_filled.b3 Q X1 X s4_2 m6_2 c8_2 t18_2 t19_2 t20_2 x) 0
def law07_filled.b1 (Q : (Option Addr) → (Option Addr) → K)  (X1 : Int → K) (s4_1 : (Option Addr)) (m6_1 : (Option Addr)) (t18_1 : Sl) (t19_1 : Int) (t20_1 : Int) : K :=
  Ite (decide (t20_1 < t19_1))
    (Idx t18_1 t20_1 4 fun t22 =>
    LdN t22 4 fun t23 =>
    New 126 #[(.string ⟨#[]⟩), (Sl.val ⟨none, 0, 0⟩), (.bool false), (.int .i64 0)] fun c8 =>
    StN c8 4 t23 <|
    Ld (c8.add 2) Value.bool fun t25 =>
    Ite t25
      (Ld c8 Value.string fun t28 =>
      Ld (c8.add 1) Sl.val fun t30 =>
      store_Store_Put.call s4_1 t28 t30 <|
      Ld c8 Value.string fun t34 =>
      Ld (c8.add 1) Sl.val fun t36 =>
      ref06_Store_Put.call m6_1 t34 t36 <|
      law07_filled.s2 Q X1 s4_1 m6_1 c8 t18_1 t19_1 t20_1)
      (law07_filled.s2 Q X1 s4_1 m6_1 c8 t18_1 t19_1 t20_1))
    (Q s4_1 m6_1)
def law07_filled (cells0 : Sl) (Q : (Option Addr) → (Option Addr) → K) : K :=
  store_New.call 3 fun t11x0 t11x1 =>
  ref06_New.call 3 fun t14 =>
  Ite ((t11x0).isNone)
    (Q none t14)
    (LoopK (α := Int) (fun X x => law07_filled.b1 Q X t11x0 t14 cells0 (cells0.n : Int) x) 0)
theorem law07_filled_ok (cells0 : Sl) (Q : (Option Addr) → (Option Addr) → K) (w : World) (h : law07_filled cells0 Q w) : law07_filled.call cells0 Q w := by
  have hL12 : ∀ (X1 : Int → K), XH 6 X1 → ∀ (s4_3 : (Option Addr)) (m6_3 : (Option Addr)) (c8_3 : Addr) (t18_3 : Sl) (t19_3 : Int) (t20_3 : Int), LH 12 (fun x : Int => [(4, (.pointer s4_3)), (6, (.pointer m6_3)), (8, (.pointer (some c8_3))), (9, (.int .i64 x)), (18, (Sl.val t18_3)), (19, (.int .i64 t19_3)), (20, (.int .i64 t20_3))]) (fun X x => law07_filled.b3 Q X1 X s4_3 m6_3 c8_3 t18_3 t19_3 t20_3 x) := by intros; exact ⟨⟩
  have hJ11 : ∀ (X1 : Int → K), XH 6 X1 → JH 11 fun D => ∃ (s4_2 : (Option Addr)) (m6_2 : (Option Addr)) (c8_2 : Addr) (t18_2 : Sl) (t19_2 : Int) (t20_2 : Int), D [(4, (.pointer s4_2)), (6, (.pointer m6_2)), (8, (.pointer (some c8_2))), (18, (Sl.val t18_2)), (19, (.int .i64 t19_2)), (20, (.int .i64 t20_2))] (fun C => C [(4, (.pointer s4_2)), (6, (.pointer m6_2)), (8, (.pointer (some c8_2))), (18, (Sl.val t18_2)), (19, (.int .i64 t19_2)), (20, (.int .i64 t20_2))] (law07_filled.s2 Q X1 s4_2 m6_2 c8_2 t18_2 t19_2 t20_2)) := by intros; exact ⟨fun _ ⟨_, _, _, _, _, _, h⟩ => ⟨_, _, h⟩⟩
  have hL6 : ∀ (s4_1 : (Option Addr)) (m6_1 : (Option Addr)) (t18_1 : Sl) (t19_1 : Int), LH 6 (fun x : Int => [(4, (.pointer s4_1)), (6, (.pointer m6_1)), (18, (Sl.val t18_1)), (19, (.int .i64 t19_1)), (20, (.int .i64 x))]) (fun X x => law07_filled.b1 Q X s4_1 m6_1 t18_1 t19_1 x) := by intros; exact ⟨⟩
  exact g_walk 58 h Try.func34
def law07_add (s0 : (Option Addr)) (x1 : Int) (Q : Int → K) : K :=
  New 9 #[(.string ⟨#[107]⟩)] fun t9 =>
  Bld #[(.int .i64 0), (.string ⟨#[]⟩), (Sl.val ⟨none, 0, 0⟩), (.int .i64 0)] (fun i => some (i * 4, 4)) [(0, (.agg #[(.int .i64 6), (.string ⟨#[107]⟩), (Sl.val ⟨none, 0, 0⟩), (.int .i64 x1)]))] fun ct12 =>
  New 84 ct12 fun t12 =>
  eval_Run.call s0 #[(.int .i64 1), (Sl.val ⟨none, 0, 0⟩), (Sl.val (Sl.mk (some t9) 1 1)), (Sl.val (Sl.mk (some t12) 1 1)), (.int .i64 0)] fun t14x0 t14x1 =>
  New 76 #[(.int .i64 0), (Sl.val ⟨none, 0, 0⟩)] fun r5 =>
  StN r5 2 t14x0 <|
  eval_Apply.call s0 t14x1 <|
  Ld r5 (Value.int .i64) fun t21 =>
  Q t21
theorem law07_add_ok (s0 : (Option Addr)) (x1 : Int) (Q : Int → K) (w : World) (h : law07_add s0 x1 Q w) : law07_add.call s0 x1 Q w := by
  exact g_walk 22 h Try.func41
end Go.Proofs.Ytfjjocopmknhgaa
/- The example of the law's chapter on transactions. -/
namespace Go.Proofs.Ytfjjocopmknhgaa
open Go Go.Sep Go.Sep.Bt
set_option linter.unusedSimpArgs false
set_option linter.unusedVariables false
set_option maxRecDepth 100000

def exOps : List OpX := [(⟨6, [110], [], 5⟩, ⟨none, 0, 0⟩), (⟨1, [110], [], 0⟩, ⟨none, 0, 0⟩)]
def exTx (a b : Nat) : TxX := ⟨1, [], [[110]], exOps, 0, ⟨none, 0, 0⟩, ⟨some ⟨a, 0, none⟩, 1, 1⟩, ⟨some ⟨b, 0, none⟩, 2, 2⟩⟩
theorem exRun (a b : Nat) : runW 1 [] (exTx a b) = ([([110], ⟨true, [0, 0, 0, 0, 0, 0, 0, 5], 0, 0⟩)], [(true, [0, 0, 0, 0, 0, 0, 0, 5])], 0) := by
  have hv : partV (uOf 5) 8 = [0, 0, 0, 0, 0, 0, 0, 5] := by decide
  have hh : homeOf [110] 1 = 0 := by decide
  have hn : nowM 1 [] [] [110] = ⟨false, [], 0, 0⟩ := by simp [nowM, mget, sGet, getM, hh]
  have hs1 : stepW 1 [] [] [] ⟨6, [110], [], 5⟩ = ([([110], ⟨true, [0, 0, 0, 0, 0, 0, 0, 5], 0, 0⟩)], [], 0) := by
    simp [stepW, addW, hn, overS, setW, mset, hv]
  have hn2 : nowM 1 [] [([110], ⟨true, [0, 0, 0, 0, 0, 0, 0, 5], 0, 0⟩)] [110] = ⟨true, [0, 0, 0, 0, 0, 0, 0, 5], 0, 0⟩ := by simp [nowM, mget]
  have hs2 : stepW 1 [] [([110], ⟨true, [0, 0, 0, 0, 0, 0, 0, 5], 0, 0⟩)] [] ⟨1, [110], [], 0⟩ = ([([110], ⟨true, [0, 0, 0, 0, 0, 0, 0, 5], 0, 0⟩)], [(true, [0, 0, 0, 0, 0, 0, 0, 5])], 0) := by
    simp [stepW, hn2]
  unfold runW
  rw [if_neg (by simp [exTx])]
  show opsW 1 [] exOps [] [] = _
  unfold exOps
  rw [opsW_cons, hs1, if_neg (by simp), opsW_cons, hs2, if_neg (by simp), opsW_nil]
section
variable {B : World} {Γ Δ : List HProp}
theorem speaks7 {q : Bool → K} (h : HG B Γ (q true)) : HG B Γ (law07_speaks.call q) := fun w hw => by
  refine law07_speaks_ok _ _ ?_
  refine hg hw ?_
  clear hw w
  unfold law07_speaks
  refine storeNew_spec (n := 1) (by omega) (by omega) fun st => ?_
  refine s_f ?_
  refine s_new fun t13 => ?_
  refine s_bldF (cs := exOps.flatMap opF) ?_
  refine s_new fun t16 => ?_
  refine s_own st ?_
  refine eval_Run_hg (t := exTx t13 t16) ?_ ?_ (fun hb => ?_) fun _ os O rows R hO hR _ => ?_
  · exact ⟨by simp [exTx], by simp [exTx, exOps, OpM.ok], by simp [exTx, exOps], by simp [exTx], by simp [exTx], by simp [exTx]⟩
  · intro w hw
    refine ⟨RdC.none', ?_, ?_, ?_⟩
    · exact RdC.of_blk (E := ty_string) (b := t13) (vs := [strV [110]]) (cs := #[strV [110]]) hw (by simp) rfl rfl 1
    · exact RdC.of_blk (E := ty_api_Op) (b := t16) (n := 2) (vs := exOps.flatMap opF) (cs := (exOps.flatMap opF).toArray) hw (by simp) (by simp) rfl 2
    · intro x hx
      simp only [exTx, exOps, List.mem_cons, List.not_mem_nil, or_false] at hx
      rcases hx with rfl | rfl <;> exact RdC.none'
  · exact absurd (by rw [exRun]) hb
  · rw [exRun] at hO hR
    have hO1 : ∃ s, O = [((true, [0, 0, 0, 0, 0, 0, 0, 5]), s)] := by
      match O, hO with
      | [(x, s)], hO => exact ⟨s, by simp at hO; rw [hO]⟩
      | _ :: _ :: _, hO => simp at hO
    obtain ⟨s, rfl⟩ := hO1
    have hRl : R.length = 1 := by
      have := congrArg List.length hR
      simpa [sortW] using this
    refine s_cap os fun a1 a2 a3 a4 => ?_
    refine s_cap rows fun b1 b2 b3 b4 => ?_
    rw [flatMap_len _ 2 oF_len] at a1
    rw [flatMap_len _ 5 rowF_len] at b1
    simp only [List.length_cons, List.length_nil] at a1
    have hon : os.n = 1 := by omega
    have hrn : rows.n = 1 := by omega
    refine s_new fun r3 => ?_
    refine s_stN (b := r3) (l' := [.int .i64 0, os.val]) ?_
    refine s_ld (b := r3) (x := 0) ?_
    refine s_t ?_
    refine s_ld (b := r3) (x := os) ?_
    refine s_t ?_
    refine s_ld (b := r3) (x := os) ?_
    refine s_idx (s := os) (i := 0) ?_
    refine s_ldE (s := os) (x := s) rfl ?_
    refine fun w hw => r_str (xs := [0, 0, 0, 0, 0, 0, 0, 5]) (by kernel_rfl) ?_ ?_
    · exact rdB_of (Γ := Γ) (Holds.flat.1 (hw.drops (Δ := Sep.stars (List.map oB [((true, [0, 0, 0, 0, 0, 0, 0, 5]), s)]) :: Γ)))
    refine hg hw ?_
    clear hw w
    refine s_t ?_
    unfold law07_speaks.s1
    rw [show decide ((rows.n : Int) = 1) = true by simp [hrn]]
    exact s_end h
end
end Go.Proofs.Ytfjjocopmknhgaa
/- How the arguments of laws read. -/
namespace Go.Proofs.Ytfjjocopmknhgaa
open Go Go.Sep
def Sh_ty_int64 : Sh := (.int .i64)
theorem sh_2 : mkSh Try.prog 9 2 = Sh_ty_int64 := by kernel_rfl
def Sh_ty_int : Sh := (.int .i64)
theorem sh_3 : mkSh Try.prog 9 3 = Sh_ty_int := by kernel_rfl
def Sh_ty_string : Sh := .str
theorem sh_9 : mkSh Try.prog 9 9 = Sh_ty_string := by kernel_rfl
def Sh_ty_s_argosylaw10_Move : Sh := (.sl (.fld 0 1 .str (.fld 1 1 (.int .i64) .nil)) 2)
theorem sh_22 : mkSh Try.prog 9 22 = Sh_ty_s_argosylaw10_Move := by kernel_rfl
def Sh_ty_s_uint8 : Sh := (.sl (.int .u8) 1)
theorem sh_33 : mkSh Try.prog 9 33 = Sh_ty_s_uint8 := by kernel_rfl
def Sh_ty_api_Txn : Sh := (.fld 0 1 (.int .i64) (.fld 1 1 (.sl .str 1) (.fld 2 1 (.sl .str 1) (.fld 3 1 (.sl (.fld 0 1 (.int .i64) (.fld 1 1 .str (.fld 2 1 (.sl (.int .u8) 1) (.fld 3 1 (.int .i64) .nil)))) 4) (.fld 4 1 (.int .i64) .nil)))))
theorem sh_50 : mkSh Try.prog 9 50 = Sh_ty_api_Txn := by kernel_rfl
def Sh_ty_s_argosylaw07_Cell : Sh := (.sl (.fld 0 1 .str (.fld 1 1 (.sl (.int .u8) 1) (.fld 2 1 .bool (.fld 3 1 (.int .i64) .nil)))) 4)
theorem sh_70 : mkSh Try.prog 9 70 = Sh_ty_s_argosylaw07_Cell := by kernel_rfl
def Sh_ty_s_s_string : Sh := (.sl (.sl .str 1) 1)
theorem sh_93 : mkSh Try.prog 9 93 = Sh_ty_s_s_string := by kernel_rfl
def Sh_ty_s_int : Sh := (.sl (.int .i64) 1)
theorem sh_94 : mkSh Try.prog 9 94 = Sh_ty_s_int := by kernel_rfl
def Sh_ty_s_uint64 : Sh := (.sl (.int .u64) 1)
theorem sh_97 : mkSh Try.prog 9 97 = Sh_ty_s_uint64 := by kernel_rfl
end Go.Proofs.Ytfjjocopmknhgaa
/- Plain forms of functions, and that their code comes to them (package law07_EvalNumbers). -/
namespace Go.Proofs.Ytfjjocopmknhgaa
open Go Go.Sep
set_option linter.unusedVariables false
set_option linter.unusedSimpArgs false
set_option maxRecDepth 100000
set_option maxHeartbeats 4000000
attribute [local irreducible] G Gp Cx Tx Ex Sx Dx Ox Ax Lx Rx Fx Bx Bj Al Do Ld LdN St StN New CallF Ar DoU Rd Rd2 Pu Cd Ite Fv CallV CallY Ans0 Ans1 Ans2 Ans3 Ans4 Ans5 Ext Dead Dr WithS Sv LdS LdNS RdS Rd2S Nn Idx IdxA IdxS Fld Bld Slc SlcS Cat All LoopK RangeF RangeJ TakeD
namespace F_IRLaw07EvalNumbers
instance cb_17 : CB Try.prog 17 := ⟨by kernel_rfl⟩
instance cb_18 : CB Try.prog 18 := ⟨by kernel_rfl⟩
instance cb_19 : CB Try.prog 19 := ⟨by kernel_rfl⟩
instance cb_20 : CB Try.prog 20 := ⟨by kernel_rfl⟩
instance cb_21 : CB Try.prog 21 := ⟨by kernel_rfl⟩
instance mx : MX Try.prog := ⟨mixed⟩
instance un_4 : UN Try.prog 4 .bool := ⟨Try.underlying4⟩
end F_IRLaw07EvalNumbers
def law07_EvalNumbers.s1 (Q : Bool → K)  (t4_1 : Bool) : K :=
  Q t4_1
def law07_EvalNumbers (n0 : Int) (value1 : Sl) (Q : Bool → K) : K :=
  law07_speaks.call  fun t11 =>
  Ite (!t11)
    (Q false)
    (eval_Number.call value1 fun t15x0 t15x1 =>
    ref07_Number.call value1 fun t20x0 t20x1 =>
    eval_Value.call n0 fun t25 =>
    eval_Number.call t25 fun t26x0 t26x1 =>
    Dr <|
    Ite (decide (t15x0 = t20x0))
      (Ite (t15x1 == t20x1)
        (eval_Value.call n0 fun t39 =>
        All [
          (Rd Try.prog (convert 33 9 (Sl.val t39)) Value.string fun t40 =>
          ref07_Value.call n0 fun t42 =>
          Rd Try.prog (convert 33 9 (Sl.val t42)) Value.string fun t43 =>
          Ite (t40.toList == t43.toList)
            (Ite (decide (t26x0 = n0))
              (law07_EvalNumbers.s1 Q t26x1)
              (law07_EvalNumbers.s1 Q false))
            (law07_EvalNumbers.s1 Q false)),
          (ref07_Value.call n0 fun t42 =>
          All [
            (Rd Try.prog (convert 33 9 (Sl.val t39)) Value.string fun t40 =>
            Rd Try.prog (convert 33 9 (Sl.val t42)) Value.string fun t43 =>
            Ite (t40.toList == t43.toList)
              (Ite (decide (t26x0 = n0))
                (law07_EvalNumbers.s1 Q t26x1)
                (law07_EvalNumbers.s1 Q false))
              (law07_EvalNumbers.s1 Q false)),
            (Rd Try.prog (convert 33 9 (Sl.val t42)) Value.string fun t43 =>
            Rd Try.prog (convert 33 9 (Sl.val t39)) Value.string fun t40 =>
            Ite (t40.toList == t43.toList)
              (Ite (decide (t26x0 = n0))
                (law07_EvalNumbers.s1 Q t26x1)
                (law07_EvalNumbers.s1 Q false))
              (law07_EvalNumbers.s1 Q false))
            ])
          ])
        (law07_EvalNumbers.s1 Q false))
      (law07_EvalNumbers.s1 Q false))
theorem law07_EvalNumbers_ok (n0 : Int) (value1 : Sl) (Q : Bool → K) (w : World) (h : law07_EvalNumbers n0 value1 Q w) : law07_EvalNumbers.call n0 value1 Q w := by
  have hJ1000006 : JH 1000006 fun D => D [] (fun C => ∀ (t4_1 : Bool), C [(4, (.bool t4_1))] (law07_EvalNumbers.s1 Q t4_1)) := by intros; exact ⟨fun _ h => ⟨_, _, h⟩⟩
  have hD6 : DH 6 0 [] (.s [0, 1, 2, 3] (.i (.s [4, 5, 6, 7, 8] (.i (.s [9, 12] (.a [(10, 0, .a [(11, 2, .a [(13, 0, .a [(14, 2, .s [15, 16, 17] (.i (.s [18, 19, 20, 21, 22] (.i (.s [23, 24, 25] .e) (.s [23, 24, 25] .e))) (.s [18, 19, 20, 21, 22, 23, 24, 25] .e)))])]), (13, 0, .a [(11, 2, .a [(14, 2, .s [15, 16, 17] (.i (.s [18, 19, 20, 21, 22] (.i (.s [23, 24, 25] .e) (.s [23, 24, 25] .e))) (.s [18, 19, 20, 21, 22, 23, 24, 25] .e)))]), (14, 2, .a [(11, 2, .s [15, 16, 17] (.i (.s [18, 19, 20, 21, 22] (.i (.s [23, 24, 25] .e) (.s [23, 24, 25] .e))) (.s [18, 19, 20, 21, 22, 23, 24, 25] .e)))])])])])) (.s [9, 10, 11, 12, 13, 14, 15, 16, 17, 18, 19, 20, 21, 22, 23, 24, 25] .e))) (.s [4, 5, 6, 7, 8, 9, 10, 11, 12, 13, 14, 15, 16, 17, 18, 19, 20, 21, 22, 23, 24, 25] .e))) := by intros; exact ⟨⟩
  exact g_walk 54 h Try.func4
end Go.Proofs.Ytfjjocopmknhgaa
/- Numbers and their bytes. -/
namespace Go.Proofs.Ytfjjocopmknhgaa
open Go Go.Sep Go.Sep.Bt
set_option linter.unusedSimpArgs false
set_option linter.unusedVariables false
set_option maxRecDepth 100000

theorem num8_part (u : Nat) (hu : u < 256 ^ 8) : ∀ i, i ≤ 8 → num8 ((List.range i).map fun j => u8 (u / 256 ^ (7 - j))) = u / 256 ^ (8 - i)
  | 0, _ => by
    rw [Nat.div_eq_of_lt (by simpa using hu)]; rfl
  | i + 1, hi => by
    rw [List.range_succ, List.map_append, List.map_singleton, num8_snoc, num8_part u hu i (by omega), u8N]
    have e : 256 ^ (8 - i) = 256 ^ (7 - i) * 256 := by rw [← Nat.pow_succ]; congr 1; omega
    rw [e, ← Nat.div_div_eq_div_mul, show 8 - (i + 1) = 7 - i by omega]
    have := Nat.div_add_mod (u / 256 ^ (7 - i)) 256
    omega
theorem part8 (u : Nat) : partV u 8 = (List.range 8).map fun j => u8 (u / 256 ^ (7 - j)) := by
  unfold partV
  refine List.map_congr_left fun j hj => ?_
  rw [if_pos (by omega)]
theorem num_val (n : Int) (h1 : -9223372036854775808 ≤ n) (h2 : n ≤ 9223372036854775807) : numOf (valOf n) = n := by
  unfold numOf valOf
  obtain ⟨h3, h4⟩ := uOf_lt n
  rw [part8, num8_part _ (by simpa using h3) 8 (Nat.le_refl _)]
  simp only [Nat.sub_self, Nat.pow_zero, Nat.div_one]
  rw [← h4]
  simp only [IntKind.wrap, IntKind.signed, IntKind.bits]
  simp
  omega
section
variable {B : World} {Γ Δ : List HProp}
theorem value_hg {n : Int} {q : Sl → K} (h : ∀ s, HG B (Bytes ty_uint8 s (valOf n) :: Γ) (q s)) : HG B Γ (eval_Value.call n q) := fun w hw => eval_Value_spec hw fun s w h' => h s w h'
theorem refValue_hg {n : Int} {q : Sl → K} (h : ∀ s, HG B (Bytes ty_uint8 s (valOf n) :: Γ) (q s)) : HG B Γ (ref07_Value.call n q) := fun w hw => ref07_Value_spec hw fun s w h' => h s w h'
theorem number_hg {s : Sl} {xs : List UInt8} {q : Int → Bool → K} (hr : ∀ w, Holds B Γ w → RdB w s xs) (h : HG B Γ (q (if xs.length = 8 then numOf xs else 0) (decide (xs.length = 8)))) : HG B Γ (eval_Number.call s q) := fun w hw => eval_Number_spec (hr w hw) (h w hw)
theorem refNumber_hg {s : Sl} {xs : List UInt8} {q : Int → Bool → K} (hr : ∀ w, Holds B Γ w → RdB w s xs) (h : HG B Γ (q (if xs.length = 8 then numOf xs else 0) (decide (xs.length = 8)))) : HG B Γ (ref07_Number.call s q) := fun w hw => ref07_Number_spec (hr w hw) (h w hw)
theorem str_hg {s : Sl} {xs : List UInt8} {q : ByteArray → K} (hr : ∀ w, Holds B Γ w → RdB w s xs) (h : HG B Γ (q (bs xs))) : HG B Γ (Rd Try.prog (convert ty_s_uint8 ty_string s.val) Value.string q) := fun w hw => r_str (by kernel_rfl) (hr w hw) (h w hw)
theorem EvalNumbers_hg {n : Int} {s : Sl} {xs : List UInt8} {q : Bool → K} (hn1 : -9223372036854775808 ≤ n) (hn2 : n ≤ 9223372036854775807) (hr : RdB B s xs) (h : HG B Γ (q true)) : HG B Γ (law07_EvalNumbers.call n s q) := fun w hw => by
  refine law07_EvalNumbers_ok _ _ _ _ ?_
  refine hg hw ?_
  clear hw w
  unfold law07_EvalNumbers
  refine speaks7 ?_
  refine s_f ?_
  refine number_hg (fun w hw => hr.old hw) ?_
  refine refNumber_hg (fun w hw => hr.old hw) ?_
  refine value_hg fun s1 => ?_
  refine number_hg (fun w hw => rdB_of hw) ?_
  have hl : (valOf n).length = 8 := valOf_len n
  rw [if_pos hl, num_val n hn1 hn2, show decide ((valOf n).length = 8) = true by simpa using hl]
  refine s_dr ?_
  refine s_t ?_ (by simp)
  refine s_t ?_ (by simp)
  refine value_hg fun s2 => ?_
  have fin : ∀ {Δ : List HProp} [Drops Δ Γ], HG B Δ (Ite ((bs (valOf n)).toList == (bs (valOf n)).toList) (Ite (decide (n = n)) (law07_EvalNumbers.s1 q true) (law07_EvalNumbers.s1 q false)) (law07_EvalNumbers.s1 q false)) := by
    intro Δ _
    refine s_t ?_ (by simp)
    refine s_t ?_ (by simp)
    unfold law07_EvalNumbers.s1
    exact s_end h
  refine s_all2 ?_ ?_
  · refine str_hg (fun w hw => rdB_of hw) ?_
    refine refValue_hg fun s3 => ?_
    refine str_hg (fun w hw => rdB_of hw) ?_
    exact fin
  · refine refValue_hg fun s3 => ?_
    refine s_all2 ?_ ?_
    · refine str_hg (fun w hw => rdB_of hw.tail) ?_
      refine str_hg (fun w hw => rdB_of hw) ?_
      exact fin
    · refine str_hg (fun w hw => rdB_of hw) ?_
      refine str_hg (fun w hw => rdB_of hw.tail) ?_
      exact fin
end
end Go.Proofs.Ytfjjocopmknhgaa

namespace Go.Proofs.Ytfjjocopmknhgaa
open Go Go.Sep Go.RowKit
theorem EvalNumbers_walk (W : World) (x : Int) (hx : (Lit.int .i64 x).wf = true) (s : Sl) (y0 : Rdy W Sh_ty_s_uint8 (Sl.val s).cells.toList) :
    Calls Try.prog 4 #[.int .i64 x, s.val] W (Ret fun v w' => v = .bool true ∧ Below W.heap.size W w') := by
  obtain ⟨xs, h⟩ := rdy_bytes y0
  simp [Lit.wf, IntKind.min, IntKind.max, IntKind.signed, IntKind.bits] at hx
  exact law_call (EvalNumbers_hg (Γ := []) (by omega) (by omega) h (fun w h => ⟨rfl, h⟩) W (Holds.start W))
end Go.Proofs.Ytfjjocopmknhgaa
/- Plain forms of functions, and that their code comes to them (package law07_EvalUndone). -/
namespace Go.Proofs.Ytfjjocopmknhgaa
open Go Go.Sep
set_option linter.unusedVariables false
set_option linter.unusedSimpArgs false
set_option maxRecDepth 100000
set_option maxHeartbeats 4000000
attribute [local irreducible] G Gp Cx Tx Ex Sx Dx Ox Ax Lx Rx Fx Bx Bj Al Do Ld LdN St StN New CallF Ar DoU Rd Rd2 Pu Cd Ite Fv CallV CallY Ans0 Ans1 Ans2 Ans3 Ans4 Ans5 Ext Dead Dr WithS Sv LdS LdNS RdS Rd2S Nn Idx IdxA IdxS Fld Bld Slc SlcS Cat All LoopK RangeF RangeJ TakeD
namespace F_IRLaw07EvalUndone
instance cb_13 : CB Try.prog 13 := ⟨by kernel_rfl⟩
instance cb_14 : CB Try.prog 14 := ⟨by kernel_rfl⟩
instance cb_17 : CB Try.prog 17 := ⟨by kernel_rfl⟩
instance cb_20 : CB Try.prog 20 := ⟨by kernel_rfl⟩
instance cb_38 : CB Try.prog 38 := ⟨by kernel_rfl⟩
instance cb_41 : CB Try.prog 41 := ⟨by kernel_rfl⟩
instance fc_36_1 : FC Try.prog 36 1 1 := ⟨by kernel_rfl⟩
instance mx : MX Try.prog := ⟨mixed⟩
instance un_25 : UN Try.prog 25 (.pointer 112) := ⟨Try.underlying25⟩
end F_IRLaw07EvalUndone
def law07_EvalUndone.s1 (Q : Bool → K)  (t4_1 : Bool) : K :=
  Q t4_1
def law07_EvalUndone.s2 (Q : Bool → K)  (t4_2 : Bool) : K :=
  Q t4_2
def law07_EvalUndone (start0 : Int) (n1 : Int) (Q : Bool → K) : K :=
  law07_speaks.call  fun t8 =>
  Ite (!t8)
    (Q false)
    (store_New.call 1 fun t11x0 t11x1 =>
    Ite ((t11x0).isNone)
      (Q false)
      (eval_Value.call start0 fun t18 =>
      store_Store_Put.call t11x0 ⟨#[107]⟩ t18 <|
      Ite (decide (n1 = (-9223372036854775808)))
        (Q true)
        (law07_add.call t11x0 n1 fun t24 =>
        Ite (decide (t24 ≠ 0))
          (Dr <|
          Ite (decide (t24 = 111))
            (store_Store_Get.call t11x0 ⟨#[107]⟩ fun t31 =>
            Fld t31 1 Sl.val fun t32 =>
            All [
              (Rd Try.prog (convert 33 9 (Sl.val t32)) Value.string fun t33 =>
              eval_Value.call start0 fun t35 =>
              Rd Try.prog (convert 33 9 (Sl.val t35)) Value.string fun t36 =>
              Ite (t33.toList == t36.toList)
                (Ite (decide ((0 : Int) < n1))
                  (Ite (decide ((0 : Int) < start0))
                    (law07_EvalUndone.s1 Q true)
                    (Ite (decide (n1 < 0))
                      (law07_EvalUndone.s1 Q (decide (start0 < 0)))
                      (law07_EvalUndone.s1 Q false)))
                  (Ite (decide (n1 < 0))
                    (law07_EvalUndone.s1 Q (decide (start0 < 0)))
                    (law07_EvalUndone.s1 Q false)))
                (law07_EvalUndone.s1 Q false)),
              (eval_Value.call start0 fun t35 =>
              All [
                (Rd Try.prog (convert 33 9 (Sl.val t32)) Value.string fun t33 =>
                Rd Try.prog (convert 33 9 (Sl.val t35)) Value.string fun t36 =>
                Ite (t33.toList == t36.toList)
                  (Ite (decide ((0 : Int) < n1))
                    (Ite (decide ((0 : Int) < start0))
                      (law07_EvalUndone.s1 Q true)
                      (Ite (decide (n1 < 0))
                        (law07_EvalUndone.s1 Q (decide (start0 < 0)))
                        (law07_EvalUndone.s1 Q false)))
                    (Ite (decide (n1 < 0))
                      (law07_EvalUndone.s1 Q (decide (start0 < 0)))
                      (law07_EvalUndone.s1 Q false)))
                  (law07_EvalUndone.s1 Q false)),
                (Rd Try.prog (convert 33 9 (Sl.val t35)) Value.string fun t36 =>
                Rd Try.prog (convert 33 9 (Sl.val t32)) Value.string fun t33 =>
                Ite (t33.toList == t36.toList)
                  (Ite (decide ((0 : Int) < n1))
                    (Ite (decide ((0 : Int) < start0))
                      (law07_EvalUndone.s1 Q true)
                      (Ite (decide (n1 < 0))
                        (law07_EvalUndone.s1 Q (decide (start0 < 0)))
                        (law07_EvalUndone.s1 Q false)))
                    (Ite (decide (n1 < 0))
                      (law07_EvalUndone.s1 Q (decide (start0 < 0)))
                      (law07_EvalUndone.s1 Q false)))
                  (law07_EvalUndone.s1 Q false))
                ])
              ])
            (law07_EvalUndone.s1 Q false))
          (Dr <|
          Ar (IntKind.wrap .i64 (0 - n1)) fun t57 =>
          law07_add.call t11x0 t57 fun t58 =>
          Ite (decide (t58 = 0))
            (store_Store_Get.call t11x0 ⟨#[107]⟩ fun t62 =>
            Fld t62 1 Sl.val fun t63 =>
            All [
              (Rd Try.prog (convert 33 9 (Sl.val t63)) Value.string fun t64 =>
              eval_Value.call start0 fun t66 =>
              Rd Try.prog (convert 33 9 (Sl.val t66)) Value.string fun t67 =>
              law07_EvalUndone.s2 Q (t64.toList == t67.toList)),
              (eval_Value.call start0 fun t66 =>
              All [
                (Rd Try.prog (convert 33 9 (Sl.val t63)) Value.string fun t64 =>
                Rd Try.prog (convert 33 9 (Sl.val t66)) Value.string fun t67 =>
                law07_EvalUndone.s2 Q (t64.toList == t67.toList)),
                (Rd Try.prog (convert 33 9 (Sl.val t66)) Value.string fun t67 =>
                Rd Try.prog (convert 33 9 (Sl.val t63)) Value.string fun t64 =>
                law07_EvalUndone.s2 Q (t64.toList == t67.toList))
                ])
              ])
            (law07_EvalUndone.s2 Q false)))))
theorem law07_EvalUndone_ok (start0 : Int) (n1 : Int) (Q : Bool → K) (w : World) (h : law07_EvalUndone start0 n1 Q w) : law07_EvalUndone.call start0 n1 Q w := by
  have hJ1000011 : JH 1000011 fun D => D [] (fun C => ∀ (t4_1 : Bool), C [(4, (.bool t4_1))] (law07_EvalUndone.s1 Q t4_1)) := by intros; exact ⟨fun _ h => ⟨_, _, h⟩⟩
  have hD11 : DH 11 0 [] (.s [0, 1, 2] (.i (.s [3, 7] (.a [(4, 0, .s [5] (.a [(6, 2, .a [(8, 0, .a [(9, 2, .s [10, 11, 12] (.i (.s [13, 14, 15] (.i (.s [16, 17, 18, 19] (.i (.s [20, 21, 22, 23, 24, 25, 26, 27, 28] .e) (.s [20, 21, 22] (.i (.s [23, 24, 25, 26, 27, 28] .e) (.s [23, 24, 25, 26, 27, 28] .e))))) (.s [16, 17, 18, 19, 20, 21, 22] (.i (.s [23, 24, 25, 26, 27, 28] .e) (.s [23, 24, 25, 26, 27, 28] .e))))) (.s [13, 14, 15, 16, 17, 18, 19, 20, 21, 22, 23, 24, 25, 26, 27, 28] .e)))])]), (8, 0, .a [(6, 2, .a [(9, 2, .s [10, 11, 12] (.i (.s [13, 14, 15] (.i (.s [16, 17, 18, 19] (.i (.s [20, 21, 22, 23, 24, 25, 26, 27, 28] .e) (.s [20, 21, 22] (.i (.s [23, 24, 25, 26, 27, 28] .e) (.s [23, 24, 25, 26, 27, 28] .e))))) (.s [16, 17, 18, 19, 20, 21, 22] (.i (.s [23, 24, 25, 26, 27, 28] .e) (.s [23, 24, 25, 26, 27, 28] .e))))) (.s [13, 14, 15, 16, 17, 18, 19, 20, 21, 22, 23, 24, 25, 26, 27, 28] .e)))]), (9, 2, .a [(6, 2, .s [10, 11, 12] (.i (.s [13, 14, 15] (.i (.s [16, 17, 18, 19] (.i (.s [20, 21, 22, 23, 24, 25, 26, 27, 28] .e) (.s [20, 21, 22] (.i (.s [23, 24, 25, 26, 27, 28] .e) (.s [23, 24, 25, 26, 27, 28] .e))))) (.s [16, 17, 18, 19, 20, 21, 22] (.i (.s [23, 24, 25, 26, 27, 28] .e) (.s [23, 24, 25, 26, 27, 28] .e))))) (.s [13, 14, 15, 16, 17, 18, 19, 20, 21, 22, 23, 24, 25, 26, 27, 28] .e)))])])]))])) (.s [3, 4, 5, 6, 7, 8, 9, 10, 11, 12, 13, 14, 15, 16, 17, 18, 19, 20, 21, 22, 23, 24, 25, 26, 27, 28] .e))) := by intros; exact ⟨⟩
  have hJ1000012 : JH 1000012 fun D => D [] (fun C => ∀ (t4_2 : Bool), C [(4, (.bool t4_2))] (law07_EvalUndone.s2 Q t4_2)) := by intros; exact ⟨fun _ h => ⟨_, _, h⟩⟩
  have hD12 : DH 12 0 [] (.s [0, 1, 2] (.a [(3, 0, .s [4, 5] (.i (.s [6, 10] (.a [(7, 0, .s [8] (.a [(9, 2, .a [(11, 0, .a [(12, 2, .s [13, 14, 15] .e)])]), (11, 0, .a [(9, 2, .a [(12, 2, .s [13, 14, 15] .e)]), (12, 2, .a [(9, 2, .s [13, 14, 15] .e)])])]))])) (.s [6, 7, 8, 9, 10, 11, 12, 13, 14, 15] .e)))])) := by intros; exact ⟨⟩
  exact g_walk 70 h Try.func8
end Go.Proofs.Ytfjjocopmknhgaa
/- What a transaction adds to numbers the one that adds the opposite takes away. -/
namespace Go.Proofs.Ytfjjocopmknhgaa
open Go Go.Sep Go.Sep.Bt
set_option linter.unusedSimpArgs false
set_option linter.unusedVariables false
set_option maxRecDepth 100000

abbrev kK : List UInt8 := [107]
def addTx (a b : Nat) (x : Int) : TxX := ⟨1, [], [kK], [(⟨6, kK, [], x⟩, ⟨none, 0, 0⟩)], 0, ⟨none, 0, 0⟩, ⟨some ⟨a, 0, none⟩, 1, 1⟩, ⟨some ⟨b, 0, none⟩, 1, 1⟩⟩
theorem addRun (a b : Nat) (M : Recs) (x : Int) : runW 1 M (addTx a b x) = ((addW 1 M [] kK x).1, [], (addW 1 M [] kK x).2) := by
  have h : runW 1 M (addTx a b x) = opsW 1 M [(⟨6, kK, [], x⟩, ⟨none, 0, 0⟩)] [] [] := by
    unfold runW
    rw [if_neg (by simp [addTx])]; rfl
  have hs : stepW 1 M [] [] ⟨6, kK, [], x⟩ = ((addW 1 M [] kK x).1, [], (addW 1 M [] kK x).2) := by simp [stepW]
  rw [h, opsW_cons, hs]
  split
  · rfl
  · rename_i h0
    have : (addW 1 M [] kK x).2 = 0 := by simpa using h0
    rw [opsW_nil, this]
/-- The key's record is this number. -/
structure NumIs (M : Recs) (x : Int) : Prop where
  has : (sGet 1 M (bs kK)).has = true
  val : (sGet 1 M (bs kK)).val = valOf x
  len : M.length ≤ 100
  le : -9223372036854775808 ≤ x
  ge : x ≤ 9223372036854775807
theorem NumIs.add {M : Recs} {x : Int} (h : NumIs M x) (d : Int) : addW 1 M [] kK d = if overS x d then ([], 111) else ([(kK, { sGet 1 M (bs kK) with has := true, val := valOf (x + d) })], 0) := by
  have hn : nowM 1 M [] kK = sGet 1 M (bs kK) := rfl
  unfold addW
  rw [hn, h.has, h.val, if_neg (by simp [valOf_len])]
  simp only [if_true]
  rw [num_val x h.le h.ge]
  split
  · rfl
  · simp [setW, mset, hn]
theorem sGet_put_has (M : Recs) (k : ByteArray) (xs : List UInt8) : sGet 1 (sPut 1 M k xs) k = { sGet 1 M k with has := true, val := xs } := by
  unfold sPut
  rw [sGet_set, if_pos rfl, if_neg (by simp)]
theorem NumIs.put {M : Recs} {x : Int} (hl : M.length ≤ 90) (h1 : -9223372036854775808 ≤ x) (h2 : x ≤ 9223372036854775807) : NumIs (sPut 1 M (bs kK) (valOf x)) x := by
  refine ⟨by rw [sGet_put_has], by rw [sGet_put_has], ?_, h1, h2⟩
  have := setM_len M (bs kK) { sGet 1 M (bs kK) with has := true, val := valOf x }
  unfold sPut
  omega
theorem apply_num {M : Recs} {x : Int} : applyM 1 M [(kK, { sGet 1 M (bs kK) with has := true, val := valOf x })] = sPut 1 M (bs kK) (valOf x) := by
  simp [applyM, apply1, apply0]
section
variable {B : World} {Γ Δ : List HProp} {st : Nat} {M : Recs}
theorem add_hg {x d : Int} {Q : Int → K} (h : NumIs M x) (hl : M.length ≤ 80) (hd1 : -9223372036854775808 ≤ d) (hd2 : d ≤ 9223372036854775807)
    (hbad : overS x d = true → HG B (StoreR st 1 M :: Γ) (Q 111)) (hgood : overS x d = false → HG B (StoreR st 1 (sPut 1 M (bs kK) (valOf (x + d))) :: Γ) (Q 0)) : HG B (StoreR st 1 M :: Γ) (law07_add.call (some ⟨st, 0, none⟩) d Q) := fun w hw => by
  refine law07_add_ok _ _ _ _ ?_
  refine hg hw ?_
  clear hw w
  unfold law07_add
  refine s_new fun t9 => ?_
  repeat refine s_nx ?_
  refine s_new fun t12 => ?_
  refine s_own st ?_
  refine eval_Run_hg (t := addTx t9 t12 d) ?_ ?_ (fun hb => ?_) fun hz os O rows R hO hR hRok => ?_
  · exact ⟨by simp [addTx], by simp [addTx, OpM.ok]; omega, by simp [addTx], by simp [addTx], by simp [addTx], by simp [addTx]⟩
  · intro w hw
    refine ⟨RdC.none', ?_, ?_, ?_⟩
    · exact RdC.of_blk (E := ty_string) (b := t9) (vs := [strV kK]) (cs := #[strV kK]) hw (by simp) rfl rfl 1
    · exact RdC.of_blk (E := ty_api_Op) (b := t12) (n := 1) (vs := opF (⟨6, kK, [], d⟩, ⟨none, 0, 0⟩)) (cs := (opF (⟨6, kK, [], d⟩, ⟨none, 0, 0⟩)).toArray) hw (by simp) (by simp) rfl 1
    · intro x hx
      simp only [addTx, List.mem_cons, List.not_mem_nil, or_false] at hx
      rcases hx with rfl
      exact RdC.none'
  · rw [addRun, h.add] at hb ⊢
    have ho : overS x d = true := by
      cases ho : overS x d with
      | true => rfl
      | false => rw [ho] at hb; simp at hb
    rw [ho]
    simp only [if_true]
    refine s_new fun r5 => ?_
    repeat refine s_nx ?_
    refine s_own st ?_
    refine apply_hg (R := []) (s := ⟨none, 0, 0⟩) (fun w hw => RdC.none') (by simp) (by simp) (by simp only [List.length_nil]; omega) ?_
    rw [show applyM 1 M (modW []) = M from rfl]
    repeat refine s_nx ?_
    exact s_end (hbad ho)
  · rw [addRun, h.add] at hz hR
    have ho : overS x d = false := by
      cases ho : overS x d with
      | false => rfl
      | true => rw [ho] at hz; simp at hz
    rw [ho] at hR
    simp only [Bool.false_eq_true, if_false] at hR
    have hR1 : modW R = [(kK, { sGet 1 M (bs kK) with has := true, val := valOf (x + d) })] := by rw [hR]; simp [sortW]
    have hRl : R.length = 1 := by
      have := congrArg List.length hR1
      simpa using this
    refine s_new fun r5 => ?_
    repeat refine s_nx ?_
    refine s_own st ?_
    refine apply_hg (R := R) (s := rows) (fun w hw => (own_rd (s := rows) hw).1) (fun y hy w hw => ?_) (fun y hy => ⟨?_, hRok y hy⟩) (by omega) ?_
    · have h2 : Holds B (Sep.stars (R.map wB) :: Γ) w := hw.drops
      obtain ⟨Δ, h3⟩ := stars_mem hy h2
      exact rdB_of h3
    · have : (y.1, y.2.1) ∈ modW R := List.mem_map.2 ⟨y, hy, rfl⟩
      rw [hR1, List.mem_singleton] at this
      rw [(Prod.mk.inj this).1]; simp
    rw [hR1, apply_num]
    repeat refine s_nx ?_
    exact s_end (hgood ho)
theorem EvalUndone_hg {start n : Int} {q : Bool → K} (hs1 : -9223372036854775808 ≤ start) (hs2 : start ≤ 9223372036854775807) (hn1 : -9223372036854775808 ≤ n) (hn2 : n ≤ 9223372036854775807) (h : HG B Γ (q true)) : HG B Γ (law07_EvalUndone.call start n q) := fun w hw => by
  refine law07_EvalUndone_ok _ _ _ _ ?_
  refine hg hw ?_
  clear hw w
  unfold law07_EvalUndone
  refine speaks7 ?_
  refine s_f ?_
  refine storeNew_spec (n := 1) (by omega) (by omega) fun st => ?_
  refine s_f ?_
  refine value_hg fun s1 => ?_
  refine s_own st ?_
  refine storePutV_spec (xs := valOf start) (by decide) (by simp) (fun w hw => rdB_of (hw.drops (Δ := Bytes ty_uint8 s1 (valOf start) :: Γ))) (by rw [valOf_len]; omega) ?_
  have h1 : NumIs (sPut 1 [] (bs kK) (valOf start)) start := NumIs.put (by simp) hs1 hs2
  have l1 : (sPut 1 [] (bs kK) (valOf start)).length ≤ 1 := setM_len _ _ _
  rw [show setM [] ⟨#[107]⟩ { sGet 1 [] ⟨#[107]⟩ with has := true, val := valOf start } = sPut 1 [] (bs kK) (valOf start) from rfl]
  generalize sPut 1 [] (bs kK) (valOf start) = M1 at h1 l1
  refine s_ite (fun hb => s_end h) fun hb => ?_
  have hnm : n ≠ -9223372036854775808 := by simpa using hb
  refine add_hg h1 (by omega) hn1 hn2 (fun ho => ?_) fun ho => ?_
  · refine s_t ?_
    refine s_dr ?_
    refine s_t ?_
    refine storeGet_spec (by decide) fun sl hok => ?_
    rw [show sGet 1 M1 ⟨#[107]⟩ = sGet 1 M1 (bs kK) from rfl, h1.val]
    have hov : 0 < n ∧ 9223372036854775807 - n < start ∨ n < 0 ∧ start < -9223372036854775808 - n := by simpa [overS] using ho
    have fin : ∀ {Δ : List HProp} [Drops Δ Γ], HG B Δ (Ite ((bs (valOf start)).toList == (bs (valOf start)).toList) (Ite (decide ((0 : Int) < n)) (Ite (decide ((0 : Int) < start)) (law07_EvalUndone.s1 q true) (Ite (decide (n < 0)) (law07_EvalUndone.s1 q (decide (start < 0))) (law07_EvalUndone.s1 q false))) (Ite (decide (n < 0)) (law07_EvalUndone.s1 q (decide (start < 0))) (law07_EvalUndone.s1 q false))) (law07_EvalUndone.s1 q false)) := by
      intro Δ _
      refine s_t ?_ (by simp)
      unfold law07_EvalUndone.s1
      refine s_ite (fun hc => ?_) fun hc => ?_
      · have hc' : 0 < n := by simpa using hc
        refine s_t ?_ (by simp; omega)
        exact s_end h
      · have hc' : ¬ 0 < n := by simpa using hc
        refine s_t ?_ (by simp; omega)
        rw [show decide (start < 0) = true by simp; omega]
        exact s_end h
    refine s_fld (x := sl) ?_
    refine s_all2 ?_ ?_
    · refine str_hg (fun w hw => rdB_of hw) ?_
      refine value_hg fun s3 => ?_
      refine str_hg (fun w hw => rdB_of hw) ?_
      exact fin
    · refine value_hg fun s3 => ?_
      refine s_all2 ?_ ?_
      · refine str_hg (fun w hw => rdB_of hw.tail) ?_
        refine str_hg (fun w hw => rdB_of hw) ?_
        exact fin
      · refine str_hg (fun w hw => rdB_of hw) ?_
        refine str_hg (fun w hw => rdB_of hw.tail) ?_
        exact fin
  · have hov : ¬ (0 < n ∧ 9223372036854775807 - n < start ∨ n < 0 ∧ start < -9223372036854775808 - n) := by simpa [overS] using ho
    refine s_f ?_
    refine s_dr ?_
    refine s_ar (e' := -n) (by rw [wrap64 (by omega) (by omega)]; omega) ?_
    have h2 : NumIs (sPut 1 M1 (bs kK) (valOf (start + n))) (start + n) := NumIs.put (by omega) (by omega) (by omega)
    have l2 : (sPut 1 M1 (bs kK) (valOf (start + n))).length ≤ M1.length + 1 := setM_len _ _ _
    generalize sPut 1 M1 (bs kK) (valOf (start + n)) = M2 at h2 l2
    have hno : overS (start + n) (-n) = false := by
      unfold overS
      rw [decide_eq_false_iff_not]
      omega
    refine add_hg h2 (by omega) (by omega) (by omega) (fun ho2 => by rw [hno] at ho2; cases ho2) fun _ => ?_
    rw [show start + n + -n = start by omega]
    refine s_t ?_
    refine storeGet_spec (by decide) fun sl hok => ?_
    rw [show sGet 1 (sPut 1 M2 (bs kK) (valOf start)) ⟨#[107]⟩ = sGet 1 (sPut 1 M2 (bs kK) (valOf start)) (bs kK) from rfl, sGet_put_has]
    have fin : ∀ {Δ : List HProp} [Drops Δ Γ], HG B Δ (law07_EvalUndone.s2 q ((bs (valOf start)).toList == (bs (valOf start)).toList)) := by
      intro Δ _
      rw [show ((bs (valOf start)).toList == (bs (valOf start)).toList) = true by simp]
      unfold law07_EvalUndone.s2
      exact s_end h
    refine s_fld (x := sl) ?_
    refine s_all2 ?_ ?_
    · refine str_hg (fun w hw => rdB_of hw) ?_
      refine value_hg fun s3 => ?_
      refine str_hg (fun w hw => rdB_of hw) ?_
      exact fin
    · refine value_hg fun s3 => ?_
      refine s_all2 ?_ ?_
      · refine str_hg (fun w hw => rdB_of hw.tail) ?_
        refine str_hg (fun w hw => rdB_of hw) ?_
        exact fin
      · refine str_hg (fun w hw => rdB_of hw) ?_
        refine str_hg (fun w hw => rdB_of hw.tail) ?_
        exact fin
end
end Go.Proofs.Ytfjjocopmknhgaa

namespace Go.Proofs.Ytfjjocopmknhgaa
open Go Go.Sep Go.RowKit
theorem EvalUndone_walk (W : World) (x : Int) (hx : (Lit.int .i64 x).wf = true) (y : Int) (hy : (Lit.int .i64 y).wf = true) :
    Calls Try.prog 8 #[.int .i64 x, .int .i64 y] W (Ret fun v w' => v = .bool true ∧ Below W.heap.size W w') := by
  simp [Lit.wf, IntKind.min, IntKind.max, IntKind.signed, IntKind.bits] at hx hy
  exact law_call (EvalUndone_hg (Γ := []) (by omega) (by omega) (by omega) (by omega) (fun w h => ⟨rfl, h⟩) W (Holds.start W))
end Go.Proofs.Ytfjjocopmknhgaa
