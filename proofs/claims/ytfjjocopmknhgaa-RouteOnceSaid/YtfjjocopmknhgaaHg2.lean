/- Slices of one's own: appended to, copied, cut, cloned. Holds for every program. -/
import Derived.Test.YtfjjocopmknhgaaHg
import Derived.Test.YtfjjocopmknhgaaSlices
import Derived.Lib.Overlaps
namespace Go.Sep
open Go Go.RowKit
set_option linter.unusedSimpArgs false
set_option linter.unusedVariables false

/-- The tables say: T is a slice of E, which has esz cells and few bytes; U is a slice. -/
def appT (P : Program) (T U E esz : Nat) : Bool := sliceT P T E esz && isSlT P U && match P.info? E with
  | some i => Nat.ble i.bytes 1000 && !Nat.beq i.bytes 0 && match i.zero with
    | some z => Nat.beq z.cells.size esz && z.cells.toList.all flatV
    | none => false
  | none => false
theorem appT_spec {P : Program} {T U E esz : Nat} (h : appT P T U E esz = true) : sliceT P T E esz = true ∧ isSlT P U = true ∧ ∃ n zv, bytesT P E n = true ∧ n ≤ 1000 ∧ n ≠ 0 ∧ zeroT P E zv ∧ zv.cells.size = esz ∧ ∀ v ∈ zv.cells.toList, flatV v = true := by
  unfold appT at h
  simp only [Bool.and_eq_true] at h
  obtain ⟨⟨h1, h2⟩, h3⟩ := h
  refine ⟨h1, h2, ?_⟩
  split at h3
  · rename_i i hi
    simp only [Bool.and_eq_true, Bool.not_eq_true'] at h3
    obtain ⟨⟨h4, h5⟩, h6⟩ := h3
    split at h6
    · rename_i z hz
      simp only [Bool.and_eq_true] at h6
      refine ⟨i.bytes, z, by unfold bytesT; rw [hi]; simp, Nat.le_of_ble_eq_true h4, (fun e => by rw [e] at h5; cases h5), ⟨i, hi, hz⟩, Nat.eq_of_beq_eq_true h6.1, List.all_eq_true.1 h6.2⟩
    · cases h6
  · cases h3
def apZT (P : Program) (T U E esz : Nat) : Bool := appT P T T E esz && match P.underlying U with
  | some (.int _) => true
  | _ => false

section
variable {P : Program} {B w : World} {Γ Δ : List HProp} {E esz : Nat} {s x : Sl} {vs us : List Value}

theorem s_append {T U Tr : Nat} {k : Sl → K} (hx : ∀ w, Holds B Γ w → RdC w x esz us) (hfl : ∀ u ∈ us, flatV u = true) (hroom : s.n + x.n ≤ 100000000) (h : ∀ s', s'.n = s.n + x.n → HG B (SlC E esz s' (vs ++ us) :: Δ) (k s')) [p : OwnS s Γ (SlC E esz s vs) Δ] (hT : appT P T U E esz = true := by kernel_rfl) :
    HG B Γ (Do P (Builtin.append_ #[T, U] Tr #[s.val, x.val]) Sl.val k) := fun w hw => by
  obtain ⟨h1, h2, n, zv, h3, h4, h5, h6, h7, _⟩ := appT_spec hT
  refine r_append (hw.perm p.perm) h1 h2 h3 h6 h7 (hx w hw) hfl ?_ h5 fun s' w' h' hn _ => h s' hn w' h'
  have h8 : (2 * (s.n + x.n) + 800) * n ≤ 200000800 * 1000 := Nat.mul_le_mul (by omega) h4
  omega

/-- Some cells behind a slice of one's own. -/
theorem s_app1 {T U Tr m : Nat} {us : List Value} {k : Sl → K} (h : ∀ s', s'.n = s.n + m → HG B (SlC E esz s' (vs ++ us) :: Δ) (k s')) [p : OwnS s Γ (SlC E esz s vs) Δ] (hn : s.n + m ≤ 100000000 := by omega) (hl : us.length = m * esz := by rfl) (hfl : us.all flatV = true := by rfl) (hT : appT P T U E esz = true := by kernel_rfl) :
    HG B Γ (New E us.toArray fun t => Do P (Builtin.append_ #[T, U] Tr #[s.val, Sl.val (Sl.mk (some t) m m)]) Sl.val k) := s_new fun b => by
  refine s_append (us := us) (fun w hw => RdC.of_blk hw List.mem_cons_self (by simp) hl m) (flat_all hfl) (by simp only; omega) (hT := hT) fun s' hs' => ?_
  exact s_end (Δ := SlC E esz s' (vs ++ us) :: Δ) (h s' hs')

theorem SlC_app_grow {a : Option Addr} {n c m : Nat} (hm : n + m ≤ c) {g : Hp} (h : SlC E esz ⟨a, n, c⟩ vs g) : ∃ js : List Value, js.length = m * esz ∧ SlC E esz ⟨a, n + m, c⟩ (vs ++ js) g := by
  obtain ⟨hl, hc, hs⟩ := h
  simp only at hl hc hs
  cases a with
  | none =>
    simp only at hs
    have h0 : n = 0 ∧ m = 0 := by omega
    obtain ⟨rfl, rfl⟩ := h0
    exact ⟨[], by simp, by simpa using hl, by simp only; omega, hs⟩
  | some a =>
    obtain ⟨hsp, cs, fz, hb, hf, hsz, hv⟩ := hs
    have hmul : n * esz + m * esz ≤ c * esz := by rw [← Nat.add_mul]; exact Nat.mul_le_mul_right _ hm
    refine ⟨(cs.toList.drop (a.off + vs.length)).take (m * esz), ?_, ?_, hm, hsp, cs, fz, hb, hf, hsz, fun i hi => ?_⟩
    · simp only [List.length_take, List.length_drop, Array.length_toList]; omega
    · simp only [List.length_append, List.length_take, List.length_drop, Array.length_toList, Nat.add_mul]; omega
    · rw [List.getElem?_append]
      split
      · rename_i h1; exact hv i h1
      · rename_i h1
        simp only [List.length_append, List.length_take, List.length_drop, Array.length_toList] at hi
        rw [List.getElem?_take, if_pos (by omega), List.getElem?_drop, show a.off + vs.length + (i - vs.length) = a.off + i by omega]
        simp

def layAt (vs : List Value) (p : Nat) (us : List Value) : List Value := vs.take p ++ us ++ vs.drop (p + us.length)
theorem layAt_len {p : Nat} (h : p + us.length ≤ vs.length) : (layAt vs p us).length = vs.length := by
  simp only [layAt, List.length_append, List.length_take, List.length_drop]; omega
/-- Cells are laid into a slice of one's own. -/
theorem lay_slice {a : Addr} {p : Nat} (h : Holds B (SlC E esz s vs :: Γ) w) (ha : s.a = some a) (hp : p + us.length ≤ vs.length) (hfl : ∀ u ∈ us, flatV u = true) :
    ∃ w', setCells (a.add p) us 0 w = w' ∧ (∀ P : Program, (storeCells (a.add p) us).run P w = .ok () w') ∧ Holds B (SlC E esz s (layAt vs p us) :: Γ) w' ∧ (∀ i, i < us.length → (∃ u, w.cell? ((a.add p).add i) = some u) ∧ w.frozen? ((a.add p).add i) = false) := by
  obtain ⟨cs, fz, h2, hsp, hf, hsz, hr, hl, hc⟩ := slOpen h ha
  obtain ⟨b, off, sp⟩ := a
  simp only at hsp h2 hf hsz hr; subst hsp
  have hb := h2.block
  have hmul : vs.length ≤ s.c * esz := by rw [hl]; exact Nat.mul_le_mul_right _ hc
  have hcell : ∀ i, i < us.length → (∃ u, w.cell? (((⟨b, off, none⟩ : Addr).add p).add i) = some u) ∧ w.frozen? (((⟨b, off, none⟩ : Addr).add p).add i) = false := fun i hi => by
    rw [add_mk, add_mk]
    have hlt : off + p + i < cs.size := by omega
    exact ⟨⟨_, cell_block hb (Array.getElem?_eq_getElem hlt)⟩, frozen_block hb (hf _ (by omega) (by omega))⟩
  refine ⟨_, rfl, fun P => run_storeCells us 0 w hfl fun j hj => by simpa using hcell j hj, ?_, hcell⟩
  rw [add_mk, setCells_heap _ _ _ _ _ hb]
  have h3 := h2.setBlock (o' := .cells ((us.zipIdx (off + p + 0)).foldl (fun c q => c.setIfInBounds q.2 q.1) cs) E fz) rfl
  refine slShut ha h3 ⟨rfl, hf, by rw [fold_size]; exact hsz, fun i hi => ?_, by rw [layAt_len hp]; exact hl, hc⟩
  rw [layAt_len hp] at hi
  simp only [Nat.add_zero]
  unfold layAt
  rw [List.append_assoc, List.getElem?_append]
  split
  · rename_i h1
    simp only [List.length_take] at h1
    rw [fold_out _ _ _ _ (by omega), hr i hi, List.getElem?_take, if_pos (by omega)]
  · rename_i h1
    simp only [List.length_take] at h1 ⊢
    rw [show min p vs.length = p by omega] at h1 ⊢
    rw [List.getElem?_append]
    split
    · rename_i h4
      rw [show off + i = off + p + (i - p) by omega, fold_in _ _ _ _ h4 (by omega)]
    · rename_i h4
      rw [fold_out _ _ _ _ (by omega), hr i hi, List.getElem?_drop, show p + us.length + (i - p - us.length) = i by omega]
theorem s_stEN {i off n : Nat} {us : List Value} {k : K} (h : HG B (SlC E esz s (layAt vs (i * esz + off) us) :: Δ) k) [p : OwnS s Γ (SlC E esz s vs) Δ] (hn : us.length = n := by rfl) (hp : i * esz + off + n ≤ vs.length := by omega) (hfl : us.all flatV = true := by rfl) : HG B Γ (StN ((elA s i esz).add off) n us.toArray k) := fun w hw => by
  have h1 := hw.perm p.perm
  obtain ⟨h2, h3, h4, h5⟩ := own_cap hw p
  cases ha : s.a with
  | none =>
    have h6 := h5 ha
    have h7 : vs.length = 0 := by rw [h2, show s.n = 0 by omega]; simp
    subst hn
    have h8 : us = [] := List.length_eq_zero_iff.1 (by omega)
    subst h8
    refine ⟨w, rfl, by simp, fun i hi => by simp at hi, by simp, ?_⟩
    have e : layAt vs (i * esz + off) [] = vs := by simp [layAt]
    rw [e] at h
    exact h w h1
  | some a =>
    subst hn
    have e : (elA s i esz).add off = a.add (i * esz + off) := by simp only [elA, ha, Option.getD_some]; rw [add_add' _ (h4 a ha)]
    obtain ⟨w', e1, _, h6, h7⟩ := lay_slice h1 ha hp (flat_all hfl)
    rw [e]
    exact ⟨w', by simpa using e1.symm, by simp, by simpa using h7, by simpa using flat_all hfl, h w' h6⟩
theorem s_stE {i off : Nat} {v : Value} {k : K} (h : HG B (SlC E esz s (vs.set (i * esz + off) v) :: Δ) k) [p : OwnS s Γ (SlC E esz s vs) Δ] (hp : i * esz + off < vs.length := by omega) (hv : flatV v = true := by rfl) : HG B Γ (St ((elA s i esz).add off) v k) := fun w hw => by
  have h1 := hw.perm p.perm
  obtain ⟨h2, h3, h4, h5⟩ := own_cap hw p
  cases ha : s.a with
  | none => have h6 := h5 ha; rw [show s.n = 0 by omega] at h2; omega
  | some a =>
    have e : (elA s i esz).add off = a.add (i * esz + off) := by simp only [elA, ha, Option.getD_some]; rw [add_add' _ (h4 a ha)]
    rw [e]
    exact r_stSl h1 ha hp hv fun w' h' => h w' h'

/-- Copied into a part of a slice of one's own. -/
theorem s_copy {T U t l : Nat} {d : Sl} {us : List Value} {k : Int → K} (hx : ∀ w, Holds B Γ w → RdC w x esz us) (hfl : ∀ u ∈ us.take ((s.n - l) * esz), flatV u = true) (hd : d = ⟨cutA s.a l s.c esz, s.n - l, s.c - l⟩) (hl : l ≤ s.n)
    (h : HG B (SlC E esz s (layAt vs (l * esz) (us.take ((s.n - l) * esz))) :: Δ) (k (min x.n (s.n - l) : Nat))) [p : OwnS s Γ (SlC E esz s vs) Δ] (hT : appT P T U E esz = true := by kernel_rfl) :
    HG B Γ (Do P (Builtin.copy_ #[T, U] t #[d.val, x.val]) (Value.int .i64) k) := fun w hw => by
  have hda : d.a = cutA s.a l s.c esz := by rw [hd]
  have hdn : d.n = s.n - l := by rw [hd]
  clear hd
  obtain ⟨hs1, _, _⟩ := appT_spec hT
  obtain ⟨hsl, hsz⟩ := sliceT_spec hs1
  have h1 := hw.perm p.perm
  obtain ⟨h2, h3, h4, h5⟩ := own_cap hw p
  have hr := hx w hw
  have hul := hr.len
  have hr2 : RdC w ⟨x.a, min x.n (s.n - l), x.c⟩ esz (us.take (min x.n (s.n - l) * esz)) := hr.take (Nat.min_le_left _ _)
  have hfc := run_firstCells (P := P) hr2
  have hval : ∀ m, Builtin.firstCells esz m (Sl.val ⟨x.a, min x.n (s.n - l), x.c⟩) = Builtin.firstCells esz m x.val := fun m => by
    obtain ⟨xa, xn, xc⟩ := x; cases xa <;> rfl
  rw [hval] at hfc
  have e0 : us.take (min x.n (s.n - l) * esz) = us.take ((s.n - l) * esz) := by
    rcases Nat.le_total x.n (s.n - l) with h6 | h6
    · rw [Nat.min_eq_left h6, ← hul, List.take_length, List.take_of_length_le (by rw [hul]; exact Nat.mul_le_mul_right _ h6)]
    · rw [Nat.min_eq_right h6]
  rw [e0] at hfc
  have hlen : (us.take ((s.n - l) * esz)).length ≤ (s.n - l) * esz := by rw [List.length_take]; omega
  have hmul : l * esz + (s.n - l) * esz = vs.length := by rw [← Nat.add_mul, h2]; congr 1; omega
  have hg0 : (#[T, U] : Array TypeId)[0]? = some T := rfl
  have hv0 : (#[d.val, x.val] : Array Value)[0]? = some d.val := rfl
  have hv1 : (#[d.val, x.val] : Array Value)[1]? = some x.val := rfl
  have hlo : (Builtin.lenOf x.val).run P w = .ok x.n w := by simp [Builtin.lenOf, Sl.val]
  cases ha : s.a with
  | none =>
    have h6 := h5 ha
    have h7 : s.n = 0 := by omega
    have h8 : us.take ((s.n - l) * esz) = [] := by rw [h7]; simp
    refine ⟨((min x.n (s.n - l) : Nat) : Int), w, ?_, ?_⟩
    rotate_left
    · rw [h8] at h
      have e : layAt vs (l * esz) [] = vs := by simp [layAt]
      rw [e] at h
      exact h w h1
    · unfold Builtin.copy_
      simp only [hg0, hv0, hv1]
      simp only [Sem.run_bind, run_underlying hsl, Result.andThen, Sl.val, sizeT_spec hsz]
      simp only [Sl.val] at hlo hfc
      simp only [hlo, Sem.run_bind, Result.andThen, hdn]
      rw [show Nat.min x.n (s.n - l) = min x.n (s.n - l) from rfl, hfc]
      rw [hda]
      simp [cutA, h8, goInt, storeCells]
      split <;> simp
  | some a =>
    have hsp := h4 a ha
    obtain ⟨w', _, hst', h6, _⟩ := lay_slice (p := l * esz) (us := us.take ((s.n - l) * esz)) h1 ha (by omega) hfl
    have hst := hst' P
    refine ⟨((min x.n (s.n - l) : Nat) : Int), w', ?_, h w' h6⟩
    unfold Builtin.copy_
    simp only [hg0, hv0, hv1]
    simp only [Sem.run_bind, run_underlying hsl, Result.andThen, Sl.val, sizeT_spec hsz]
    simp only [Sl.val] at hlo hfc
    simp only [hlo, Sem.run_bind, Result.andThen, hdn]
    rw [show Nat.min x.n (s.n - l) = min x.n (s.n - l) from rfl, hfc]
    rw [hda, ha]
    by_cases hcl : s.c = l
    · have h7 : s.n - l = 0 := by omega
      have h8 : us.take ((s.n - l) * esz) = [] := by rw [h7]; simp
      rw [h8] at hst
      have hw' : w' = w := by simpa [storeCells] using hst.symm
      simp [cutA, hcl, h8, goInt, storeCells, hw']
    · simp [cutA, hcl, hst, goInt]

/-- A clone: cells put behind an empty slice. -/
theorem s_clone {T U Tr : Nat} {us : List Value} {k : Sl → K} (hx : ∀ w, Holds B Γ w → RdC w x esz us) (hfl : ∀ u ∈ us, flatV u = true) (hroom : x.n ≤ 100000000) (h : ∀ s', s'.n = x.n → HG B (SlC E esz s' us :: Γ) (k s')) (hT : appT P T U E esz = true := by kernel_rfl) :
    HG B Γ (New E #[] fun t => Do P (Builtin.append_ #[T, U] Tr #[Sl.val (Sl.mk (some t) 0 0), x.val]) Sl.val k) := s_new fun b => by
  refine s_conv (A' := SlC E esz ⟨some ⟨b, 0, none⟩, 0, 0⟩ []) (blk_SlC (vs := []) rfl (by simp)) ?_
  refine s_append (us := us) (fun w hw => hx w hw.tail) hfl (by simp only; omega) (hT := hT) fun s' hs' => ?_
  have := h s' (by simpa using hs')
  simpa using this

/-- Zeros put behind a slice that has no room: a new one; the elder one stays. -/
theorem s_appZ {T U Tr : Nat} {m : Int} {k : Sl → K} (hm : 0 ≤ m) (hgrow : (s.c : Int) < s.n + m) (hroom : (s.n : Int) + m ≤ 100000000) (h : ∀ s' zs, s'.n = s.n + m.toNat → zs.length = m.toNat * esz → (∀ v ∈ zs, flatV v = true) → HG B (SlC E esz s' (vs ++ zs) :: Γ) (k s')) (hr : ∀ w, Holds B Γ w → RdC w s esz vs) (hsp : s.n ≤ s.c) (hT : apZT P T U E esz = true := by kernel_rfl) :
    HG B Γ (Do P (Builtin.append_ #[T, U] Tr #[s.val, .int .i64 m]) Sl.val k) := fun w hw => by
  unfold apZT at hT
  simp only [Bool.and_eq_true] at hT
  obtain ⟨hT, hU⟩ := hT
  obtain ⟨hs1, _, by', zv, hby, hle, hne, hz, hzs, hzf⟩ := appT_spec hT
  obtain ⟨hsl, hsz⟩ := sliceT_spec hs1
  obtain ⟨ib, hib, hbytes⟩ := bytesT_spec hby
  obtain ⟨n, rfl⟩ : ∃ n : Nat, m = n := ⟨m.toNat, by omega⟩
  simp only [Int.toNat_natCast] at h
  obtain ⟨kd, hU'⟩ : ∃ kd, P.underlying U = some (.int kd) := by
    split at hU
    · rename_i kd hk; exact ⟨kd, hk⟩
    · cases hU
  have hti : (typeInfo E).run P w = .ok ib w := by simp [typeInfo, program, hib, Sem.run]
  have hget : (#[T, U] : Array TypeId)[0]? = some T := rfl
  have hget1 : (#[T, U] : Array TypeId)[1]? = some U := rfl
  have hv0 : (#[s.val, Value.int .i64 (n : Int)] : Array Value)[0]? = some s.val := rfl
  have hv1 : (#[s.val, Value.int .i64 (n : Int)] : Array Value)[1]? = some (Value.int .i64 (n : Int)) := rfl
  have hwr : IntKind.wrap .i64 (n : Int) = n := wrap64 (by omega) (by omega)
  have hl0 : ¬ ((n : Int) < 0) := by omega
  have hbig2 : ¬ ((n : Int) * (ib.bytes : Int) > 2 ^ 48) := by
    rw [hbytes]
    have h1 : n * by' ≤ 100000000 * 1000 := Nat.mul_le_mul (by omega) hle
    have h2 : ((n * by' : Nat) : Int) ≤ 100000000 * 1000 := by omega
    rw [Int.natCast_mul] at h2
    omega
  have hcap := nextcap_le (show s.c < s.n + n by omega)
  have hcap2 : ¬ (Builtin.nextslicecap (s.n + n) s.c * ib.bytes > 2 ^ 48) := by
    rw [hbytes]
    have h1 := Nat.mul_le_mul hcap hle
    have h2 : (2 * (s.n + n) + 800) * 1000 ≤ 200000800 * 1000 := Nat.mul_le_mul_right _ (by omega)
    omega
  have hi64 : ¬ ((s.n + n : Nat) : Int) > IntKind.i64.max := by simp [IntKind.max, IntKind.signed, IntKind.bits]; omega
  have hn : ¬ (s.n + n ≤ s.c) := by omega
  have hio : (asIntOf (Value.int .i64 (n : Int))).run P w = .ok (.i64, (n : Int)) w := by simp [asIntOf]
  show ∃ x w', (Builtin.append_ #[T, U] Tr #[s.val, .int .i64 n]).run P w = .ok (Sl.val x) w' ∧ k x w'
  unfold Builtin.append_
  simp only [hget, hget1, hv0, hv1]
  simp only [Sem.run_bind, run_underlying hsl, Result.andThen, Sl.val, sizeT_spec hsz, run_underlying hU', Sem.run_pure, if_true, asInt, hio, hwr, hl0, if_false, hti, hbig2, Int.toNat_natCast]
  simp only [hn, if_false]
  simp only [Sem.run_bind, hti, Result.andThen]
  rw [if_neg (by rintro ⟨h1, _⟩; exact hi64 h1)]
  simp only [Sem.run_bind, hti, Result.andThen, Sem.run_pure]
  rw [if_neg hcap2]
  obtain ⟨newCap, w1, hch, hle1, hw1⟩ : ∃ nc w1, (choose (.appendCap (s.n + n) s.c E)).run P w = .ok nc w1 ∧ s.n + n ≤ nc ∧ w1 = { w with drawn := w.drawn + 1 } := by
    refine ⟨(Question.appendCap (s.n + n) s.c E).cut (w.tape w.drawn (.appendCap (s.n + n) s.c E)), _, by simp [choose, Sem.run, Question.forced], ?_, rfl⟩
    simp only [Question.cut]; omega
  have hw' : Holds B Γ w1 := by rw [hw1]; exact hw.drew _
  have hrs1 := hr w1 hw'
  have hti1 : (typeInfo E).run P w1 = .ok ib w1 := by simp [typeInfo, program, hib, Sem.run]
  have hf1 := run_firstCells (P := P) hrs1
  simp only [Sl.val] at hf1
  obtain ⟨zs, hzl, hzfl, hap⟩ : ∃ zs : List Value, zs.length = n * esz ∧ (∀ v ∈ zs, flatV v = true) ∧ (if n * esz = 0 then (pure #[] : Sem (Array Value)) else do pure (Builtin.zeroCells (← zeroValue E).cells n)).run P w1 = .ok zs.toArray w1 := by
    by_cases h0 : n * esz = 0
    · exact ⟨[], by simp [h0], by simp, by simp [h0]⟩
    · refine ⟨(Builtin.zeroCells zv.cells n).toList, by simp [Builtin.zeroCells, hzs], zeroCells_list _ _ hzf, ?_⟩
      rw [if_neg h0]
      simp [zeroT_spec hz]
  simp only [hch, hti1, run_askRoom, hf1, zeroT_spec hz, Sem.run_bind, Result.andThen, Sem.run_pure, newRow, newObj, Sem.run, Bool.not_true, Bool.false_eq_true, if_false] at hap ⊢
  simp only [hap]
  refine ⟨⟨some ⟨w1.heap.size, 0, none⟩, s.n + n, newCap⟩, _, rfl, h _ zs rfl (by simpa using hzl) hzfl _ ?_⟩
  have h2 := hw'.alloc (.cells (vs.toArray ++ zs.toArray ++ Builtin.zeroCells zv.cells (newCap - (s.n + n))) E)
  have hvl := hrs1.len
  refine h2.imp fun g hg => ⟨?_, hle1, rfl, _, (0, 0), hg, ?_, ?_, ?_⟩
  · simp [hvl, hzl, Nat.add_mul]
  · intro i _ _; simp
  · simp only [Nat.zero_add, Array.size_append, List.size_toArray, hvl, hzl, Builtin.zeroCells, Array.size_map, Array.size_range, hzs]
    rw [← Nat.add_mul, ← Nat.add_mul]
    exact Nat.mul_le_mul_right _ (by omega)
  · intro i hi
    simp only [Nat.zero_add]
    rw [Array.getElem?_append_left (by simpa using hi)]
    simp [List.getElem?_append, Array.getElem?_append]

/-! ### parts of a slice -/
theorem s_slc {lo hi mx : Nat} {l h' m : Int} {ks : Sl → K} (h : HG B Γ (ks ⟨cutA s.a lo mx esz, hi - lo, mx - lo⟩)) (hl : l = (lo : Int) := by first | rfl | omega) (hh : h' = (hi : Int) := by first | rfl | omega) (hm : m = (mx : Int) := by first | rfl | omega) (h1 : lo ≤ hi := by omega) (h2 : hi ≤ mx := by omega) (h3 : mx ≤ s.c := by omega) :
    HG B Γ (Slc s l h' m esz ks) := fun w hw => by
  subst hl; subst hh; subst hm
  exact ⟨_, by omega, by omega, by omega, by omega, by simp, h w hw⟩
theorem rd_own {s : Sl} {E esz : Nat} {vs : List Value} [p : OwnS s Γ (SlC E esz s vs) Δ] : ∀ w, Holds B Γ w → RdC w s esz vs := fun w hw => (own_rd hw (p := p)).1
/-- The slice of one's own from its beginning to m, with its room to c'. -/
theorem s_shrink {k : K} {m c' : Nat} (hm : m ≤ s.n) (hc : m ≤ c') (hc' : c' ≤ s.c) (h : HG B (SlC E esz ⟨s.a, m, c'⟩ (vs.take (m * esz)) :: Δ) k) [p : OwnS s Γ (SlC E esz s vs) Δ] : HG B Γ k := fun w hw => h w ((hw.perm p.perm).imp fun g hg => by
  obtain ⟨hl, _, hs⟩ := SlC.take hm g hg
  refine ⟨hl, hc, ?_⟩
  cases ha : s.a with
  | none => rw [ha] at hs; simp only at hs ⊢; omega
  | some a =>
    rw [ha] at hs
    obtain ⟨hsp, cs, fz, hb, hf, hsz, hv⟩ := hs
    have : c' * esz ≤ s.c * esz := Nat.mul_le_mul_right _ hc'
    exact ⟨hsp, cs, fz, hb, fun i h1 h2 => hf i h1 (by simp only at h2 ⊢; omega), by simp only at hsz ⊢; omega, hv⟩)
theorem s_ext {k : K} {m : Nat} (hm : s.n + m ≤ s.c) (h : ∀ js : List Value, js.length = m * esz → HG B (SlC E esz ⟨s.a, s.n + m, s.c⟩ (vs ++ js) :: Δ) k) [p : OwnS s Γ (SlC E esz s vs) Δ] : HG B Γ k := fun w hw => by
  have h1 := hw.perm p.perm
  have h2 : Holds B ((ex fun js : List Value => fun g => js.length = m * esz ∧ SlC E esz ⟨s.a, s.n + m, s.c⟩ (vs ++ js) g) :: Δ) w := h1.imp fun g hg => SlC_app_grow hm hg
  obtain ⟨js, h3⟩ := Holds.ex.1 h2
  exact h js (h3.fact fun g hg => hg.1) w (h3.imp fun g hg => hg.2)

/-! ### the library's Insert and Delete, as rules -/
theorem s_clear {T t l q m : Nat} {d : Sl} {k : Value → K} (hd : d = ⟨cutA s.a l m esz, q, m - l⟩) (hl : s.n ≤ l) (hq : l + q ≤ s.c) (hm : q = 0 ∨ m ≠ l) (h : HG B (SlC E esz s vs :: Δ) (k (.tuple #[]))) [p : OwnS s Γ (SlC E esz s vs) Δ] (hT : appT P T T E esz = true := by kernel_rfl) :
    HG B Γ (Do P (Builtin.clear_ #[T] t #[d.val]) id k) := fun w hw => by
  obtain ⟨h1, _, _, zv, _, _, _, h6, h7, h8⟩ := appT_spec hT
  exact r_clear (hw.perm p.perm) h1 h6 h7 h8 hl hq hm hd fun w' h' => h w' h'
theorem take_mul {n m esz : Nat} (h : vs.length = n * esz) (hm : m ≤ n) : (vs.take (m * esz)).length = m * esz := by
  have := Nat.mul_le_mul_right esz hm
  rw [List.length_take]; omega
theorem flat_sub {us : List Value} (h : ∀ v ∈ vs, flatV v = true) (hs : ∀ v ∈ us, v ∈ vs) : ∀ v ∈ us, flatV v = true := fun v hv => h v (hs v hv)
/-- What a slice says of its cells. -/
theorem s_len (s : Sl) {k : K} [p : OwnS s Γ (SlC E esz s vs) Δ] (h : vs.length = s.n * esz → s.n ≤ s.c → HG B Γ k) : HG B Γ k := fun w hw => h (own_cap hw p).1 (own_cap hw p).2.1 w hw
theorem cap_run {T t : Nat} {k : Int → K} (hT : appT P T T E esz = true) (h : HG B Γ (k (s.c : Int))) : HG B Γ (Do P (Builtin.cap_ #[T] t #[s.val]) (Value.int .i64) k) := fun w hw => by
  obtain ⟨h1, _⟩ := appT_spec hT
  obtain ⟨hsl, _⟩ := sliceT_spec h1
  refine ⟨s.c, w, ?_, h w hw⟩
  unfold Builtin.cap_
  have hget : (#[T] : Array TypeId)[0]? = some T := rfl
  have hv0 : (#[s.val] : Array Value)[0]? = some s.val := rfl
  simp only [hget, hv0]
  simp only [Sem.run_bind, run_underlying hsl, Result.andThen, Sl.val]
  rfl
/-- Two slices of one's own, in two blocks. -/
theorem own_apart {s x : Sl} {a c : Addr} {E E' esz esz' : Nat} {vs us : List Value} (h : Holds B (SlC E esz s vs :: SlC E' esz' x us :: Γ) w) (ha : s.a = some a) (hc : x.a = some c) : a.block ≠ c.block := by
  obtain ⟨cs, fz, h1, _⟩ := slOpen h ha
  obtain ⟨cs', fz', h2, _⟩ := slOpen h1.swap hc
  exact h2.swap.apart
end
end Go.Sep
