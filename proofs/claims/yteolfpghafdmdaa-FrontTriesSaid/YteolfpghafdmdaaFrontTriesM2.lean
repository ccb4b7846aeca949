/- Texts of the claim FrontTries, one behind the other. -/
import Derived.Test.YteolfpghafdmdaaFrontTriesM1
import Derived.Lib.Overlaps
import Derived.MapKept
import GoSem.Instr.MapUpdate
import Derived.Shelf.SortM.Plain
import Derived.Shelf.SortM.SortNone
import Derived.Ground.SlgmProg
import Derived.Test.YteolfpghafdmdaaProg
import Derived.Maps.RangeRun
/- Slices of one's own: appended to, copied, cut, cloned. Holds for every program. -/
namespace Go.Sep
open Go Go.RowKit
set_option linter.unusedSimpArgs false
set_option linter.unusedVariables false

/-- The tables say: T is a slice of E, which has esz cells and few bytes; U is a slice. -/
def appT (P : Program) (T U E esz : Nat) : Bool := sliceT P T E esz && isSlT P U && match P.info? E with
  | some i => Nat.ble i.bytes 1000 && !Nat.beq i.bytes 0 && match i.zero with
    | some z => Nat.beq z.cells.size esz && z.cells.toList.all flatV
    | none => false
  | none => false
theorem appT_spec {P : Program} {T U E esz : Nat} (h : appT P T U E esz = true) : sliceT P T E esz = true ∧ isSlT P U = true ∧ ∃ n zv, bytesT P E n = true ∧ n ≤ 1000 ∧ n ≠ 0 ∧ zeroT P E zv ∧ zv.cells.size = esz ∧ ∀ v ∈ zv.cells.toList, flatV v = true := by
  unfold appT at h
  simp only [Bool.and_eq_true] at h
  obtain ⟨⟨h1, h2⟩, h3⟩ := h
  refine ⟨h1, h2, ?_⟩
  split at h3
  · rename_i i hi
    simp only [Bool.and_eq_true, Bool.not_eq_true'] at h3
    obtain ⟨⟨h4, h5⟩, h6⟩ := h3
    split at h6
    · rename_i z hz
      simp only [Bool.and_eq_true] at h6
      refine ⟨i.bytes, z, by unfold bytesT; rw [hi]; simp, Nat.le_of_ble_eq_true h4, (fun e => by rw [e] at h5; cases h5), ⟨i, hi, hz⟩, Nat.eq_of_beq_eq_true h6.1, List.all_eq_true.1 h6.2⟩
    · cases h6
  · cases h3
def apZT (P : Program) (T U E esz : Nat) : Bool := appT P T T E esz && match P.underlying U with
  | some (.int _) => true
  | _ => false

section
variable {P : Program} {B w : World} {Γ Δ : List HProp} {E esz : Nat} {s x : Sl} {vs us : List Value}

theorem s_append {T U Tr : Nat} {k : Sl → K} (hx : ∀ w, Holds B Γ w → RdC w x esz us) (hfl : ∀ u ∈ us, flatV u = true) (hroom : s.n + x.n ≤ 100000000) (h : ∀ s', s'.n = s.n + x.n → HG B (SlC E esz s' (vs ++ us) :: Δ) (k s')) [p : OwnS s Γ (SlC E esz s vs) Δ] (hT : appT P T U E esz = true := by kernel_rfl) :
    HG B Γ (Do P (Builtin.append_ #[T, U] Tr #[s.val, x.val]) Sl.val k) := fun w hw => by
  obtain ⟨h1, h2, n, zv, h3, h4, h5, h6, h7, _⟩ := appT_spec hT
  refine r_append (hw.perm p.perm) h1 h2 h3 h6 h7 (hx w hw) hfl ?_ h5 fun s' w' h' hn _ => h s' hn w' h'
  have h8 : (2 * (s.n + x.n) + 800) * n ≤ 200000800 * 1000 := Nat.mul_le_mul (by omega) h4
  omega

/-- Some cells behind a slice of one's own. -/
theorem s_app1 {T U Tr m : Nat} {us : List Value} {k : Sl → K} (h : ∀ s', s'.n = s.n + m → HG B (SlC E esz s' (vs ++ us) :: Δ) (k s')) [p : OwnS s Γ (SlC E esz s vs) Δ] (hn : s.n + m ≤ 100000000 := by omega) (hl : us.length = m * esz := by rfl) (hfl : us.all flatV = true := by rfl) (hT : appT P T U E esz = true := by kernel_rfl) :
    HG B Γ (New E us.toArray fun t => Do P (Builtin.append_ #[T, U] Tr #[s.val, Sl.val (Sl.mk (some t) m m)]) Sl.val k) := s_new fun b => by
  refine s_append (us := us) (fun w hw => RdC.of_blk hw List.mem_cons_self (by simp) hl m) (flat_all hfl) (by simp only; omega) (hT := hT) fun s' hs' => ?_
  exact s_end (Δ := SlC E esz s' (vs ++ us) :: Δ) (h s' hs')

theorem SlC_app_grow {a : Option Addr} {n c m : Nat} (hm : n + m ≤ c) {g : Hp} (h : SlC E esz ⟨a, n, c⟩ vs g) : ∃ js : List Value, js.length = m * esz ∧ SlC E esz ⟨a, n + m, c⟩ (vs ++ js) g := by
  obtain ⟨hl, hc, hs⟩ := h
  simp only at hl hc hs
  cases a with
  | none =>
    simp only at hs
    have h0 : n = 0 ∧ m = 0 := by omega
    obtain ⟨rfl, rfl⟩ := h0
    exact ⟨[], by simp, by simpa using hl, by simp only; omega, hs⟩
  | some a =>
    obtain ⟨hsp, cs, fz, hb, hf, hsz, hv⟩ := hs
    have hmul : n * esz + m * esz ≤ c * esz := by rw [← Nat.add_mul]; exact Nat.mul_le_mul_right _ hm
    refine ⟨(cs.toList.drop (a.off + vs.length)).take (m * esz), ?_, ?_, hm, hsp, cs, fz, hb, hf, hsz, fun i hi => ?_⟩
    · simp only [List.length_take, List.length_drop, Array.length_toList]; omega
    · simp only [List.length_append, List.length_take, List.length_drop, Array.length_toList, Nat.add_mul]; omega
    · rw [List.getElem?_append]
      split
      · rename_i h1; exact hv i h1
      · rename_i h1
        simp only [List.length_append, List.length_take, List.length_drop, Array.length_toList] at hi
        rw [List.getElem?_take, if_pos (by omega), List.getElem?_drop, show a.off + vs.length + (i - vs.length) = a.off + i by omega]
        simp

def layAt (vs : List Value) (p : Nat) (us : List Value) : List Value := vs.take p ++ us ++ vs.drop (p + us.length)
theorem layAt_len {p : Nat} (h : p + us.length ≤ vs.length) : (layAt vs p us).length = vs.length := by
  simp only [layAt, List.length_append, List.length_take, List.length_drop]; omega
/-- Cells are laid into a slice of one's own. -/
theorem lay_slice {a : Addr} {p : Nat} (h : Holds B (SlC E esz s vs :: Γ) w) (ha : s.a = some a) (hp : p + us.length ≤ vs.length) (hfl : ∀ u ∈ us, flatV u = true) :
    ∃ w', setCells (a.add p) us 0 w = w' ∧ (∀ P : Program, (storeCells (a.add p) us).run P w = .ok () w') ∧ Holds B (SlC E esz s (layAt vs p us) :: Γ) w' ∧ (∀ i, i < us.length → (∃ u, w.cell? ((a.add p).add i) = some u) ∧ w.frozen? ((a.add p).add i) = false) := by
  obtain ⟨cs, fz, h2, hsp, hf, hsz, hr, hl, hc⟩ := slOpen h ha
  obtain ⟨b, off, sp⟩ := a
  simp only at hsp h2 hf hsz hr; subst hsp
  have hb := h2.block
  have hmul : vs.length ≤ s.c * esz := by rw [hl]; exact Nat.mul_le_mul_right _ hc
  have hcell : ∀ i, i < us.length → (∃ u, w.cell? (((⟨b, off, none⟩ : Addr).add p).add i) = some u) ∧ w.frozen? (((⟨b, off, none⟩ : Addr).add p).add i) = false := fun i hi => by
    rw [add_mk, add_mk]
    have hlt : off + p + i < cs.size := by omega
    exact ⟨⟨_, cell_block hb (Array.getElem?_eq_getElem hlt)⟩, frozen_block hb (hf _ (by omega) (by omega))⟩
  refine ⟨_, rfl, fun P => run_storeCells us 0 w hfl fun j hj => by simpa using hcell j hj, ?_, hcell⟩
  rw [add_mk, setCells_heap _ _ _ _ _ hb]
  have h3 := h2.setBlock (o' := .cells ((us.zipIdx (off + p + 0)).foldl (fun c q => c.setIfInBounds q.2 q.1) cs) E fz) rfl
  refine slShut ha h3 ⟨rfl, hf, by rw [fold_size]; exact hsz, fun i hi => ?_, by rw [layAt_len hp]; exact hl, hc⟩
  rw [layAt_len hp] at hi
  simp only [Nat.add_zero]
  unfold layAt
  rw [List.append_assoc, List.getElem?_append]
  split
  · rename_i h1
    simp only [List.length_take] at h1
    rw [fold_out _ _ _ _ (by omega), hr i hi, List.getElem?_take, if_pos (by omega)]
  · rename_i h1
    simp only [List.length_take] at h1 ⊢
    rw [show min p vs.length = p by omega] at h1 ⊢
    rw [List.getElem?_append]
    split
    · rename_i h4
      rw [show off + i = off + p + (i - p) by omega, fold_in _ _ _ _ h4 (by omega)]
    · rename_i h4
      rw [fold_out _ _ _ _ (by omega), hr i hi, List.getElem?_drop, show p + us.length + (i - p - us.length) = i by omega]
theorem s_stEN {i off n : Nat} {us : List Value} {k : K} (h : HG B (SlC E esz s (layAt vs (i * esz + off) us) :: Δ) k) [p : OwnS s Γ (SlC E esz s vs) Δ] (hn : us.length = n := by rfl) (hp : i * esz + off + n ≤ vs.length := by omega) (hfl : us.all flatV = true := by rfl) : HG B Γ (StN ((elA s i esz).add off) n us.toArray k) := fun w hw => by
  have h1 := hw.perm p.perm
  obtain ⟨h2, h3, h4, h5⟩ := own_cap hw p
  cases ha : s.a with
  | none =>
    have h6 := h5 ha
    have h7 : vs.length = 0 := by rw [h2, show s.n = 0 by omega]; simp
    subst hn
    have h8 : us = [] := List.length_eq_zero_iff.1 (by omega)
    subst h8
    refine ⟨w, rfl, by simp, fun i hi => by simp at hi, by simp, ?_⟩
    have e : layAt vs (i * esz + off) [] = vs := by simp [layAt]
    rw [e] at h
    exact h w h1
  | some a =>
    subst hn
    have e : (elA s i esz).add off = a.add (i * esz + off) := by simp only [elA, ha, Option.getD_some]; rw [add_add' _ (h4 a ha)]
    obtain ⟨w', e1, _, h6, h7⟩ := lay_slice h1 ha hp (flat_all hfl)
    rw [e]
    exact ⟨w', by simpa using e1.symm, by simp, by simpa using h7, by simpa using flat_all hfl, h w' h6⟩
theorem s_stE {i off : Nat} {v : Value} {k : K} (h : HG B (SlC E esz s (vs.set (i * esz + off) v) :: Δ) k) [p : OwnS s Γ (SlC E esz s vs) Δ] (hp : i * esz + off < vs.length := by omega) (hv : flatV v = true := by rfl) : HG B Γ (St ((elA s i esz).add off) v k) := fun w hw => by
  have h1 := hw.perm p.perm
  obtain ⟨h2, h3, h4, h5⟩ := own_cap hw p
  cases ha : s.a with
  | none => have h6 := h5 ha; rw [show s.n = 0 by omega] at h2; omega
  | some a =>
    have e : (elA s i esz).add off = a.add (i * esz + off) := by simp only [elA, ha, Option.getD_some]; rw [add_add' _ (h4 a ha)]
    rw [e]
    exact r_stSl h1 ha hp hv fun w' h' => h w' h'

/-- Copied into a part of a slice of one's own. -/
theorem s_copy {T U t l : Nat} {d : Sl} {us : List Value} {k : Int → K} (hx : ∀ w, Holds B Γ w → RdC w x esz us) (hfl : ∀ u ∈ us.take ((s.n - l) * esz), flatV u = true) (hd : d = ⟨cutA s.a l s.c esz, s.n - l, s.c - l⟩) (hl : l ≤ s.n)
    (h : HG B (SlC E esz s (layAt vs (l * esz) (us.take ((s.n - l) * esz))) :: Δ) (k (min x.n (s.n - l) : Nat))) [p : OwnS s Γ (SlC E esz s vs) Δ] (hT : appT P T U E esz = true := by kernel_rfl) :
    HG B Γ (Do P (Builtin.copy_ #[T, U] t #[d.val, x.val]) (Value.int .i64) k) := fun w hw => by
  have hda : d.a = cutA s.a l s.c esz := by rw [hd]
  have hdn : d.n = s.n - l := by rw [hd]
  clear hd
  obtain ⟨hs1, _, _⟩ := appT_spec hT
  obtain ⟨hsl, hsz⟩ := sliceT_spec hs1
  have h1 := hw.perm p.perm
  obtain ⟨h2, h3, h4, h5⟩ := own_cap hw p
  have hr := hx w hw
  have hul := hr.len
  have hr2 : RdC w ⟨x.a, min x.n (s.n - l), x.c⟩ esz (us.take (min x.n (s.n - l) * esz)) := hr.take (Nat.min_le_left _ _)
  have hfc := run_firstCells (P := P) hr2
  have hval : ∀ m, Builtin.firstCells esz m (Sl.val ⟨x.a, min x.n (s.n - l), x.c⟩) = Builtin.firstCells esz m x.val := fun m => by
    obtain ⟨xa, xn, xc⟩ := x; cases xa <;> rfl
  rw [hval] at hfc
  have e0 : us.take (min x.n (s.n - l) * esz) = us.take ((s.n - l) * esz) := by
    rcases Nat.le_total x.n (s.n - l) with h6 | h6
    · rw [Nat.min_eq_left h6, ← hul, List.take_length, List.take_of_length_le (by rw [hul]; exact Nat.mul_le_mul_right _ h6)]
    · rw [Nat.min_eq_right h6]
  rw [e0] at hfc
  have hlen : (us.take ((s.n - l) * esz)).length ≤ (s.n - l) * esz := by rw [List.length_take]; omega
  have hmul : l * esz + (s.n - l) * esz = vs.length := by rw [← Nat.add_mul, h2]; congr 1; omega
  have hg0 : (#[T, U] : Array TypeId)[0]? = some T := rfl
  have hv0 : (#[d.val, x.val] : Array Value)[0]? = some d.val := rfl
  have hv1 : (#[d.val, x.val] : Array Value)[1]? = some x.val := rfl
  have hlo : (Builtin.lenOf x.val).run P w = .ok x.n w := by simp [Builtin.lenOf, Sl.val]
  cases ha : s.a with
  | none =>
    have h6 := h5 ha
    have h7 : s.n = 0 := by omega
    have h8 : us.take ((s.n - l) * esz) = [] := by rw [h7]; simp
    refine ⟨((min x.n (s.n - l) : Nat) : Int), w, ?_, ?_⟩
    rotate_left
    · rw [h8] at h
      have e : layAt vs (l * esz) [] = vs := by simp [layAt]
      rw [e] at h
      exact h w h1
    · unfold Builtin.copy_
      simp only [hg0, hv0, hv1]
      simp only [Sem.run_bind, run_underlying hsl, Result.andThen, Sl.val, sizeT_spec hsz]
      simp only [Sl.val] at hlo hfc
      simp only [hlo, Sem.run_bind, Result.andThen, hdn]
      rw [show Nat.min x.n (s.n - l) = min x.n (s.n - l) from rfl, hfc]
      rw [hda]
      simp [cutA, h8, goInt, storeCells]
      split <;> simp
  | some a =>
    have hsp := h4 a ha
    obtain ⟨w', _, hst', h6, _⟩ := lay_slice (p := l * esz) (us := us.take ((s.n - l) * esz)) h1 ha (by omega) hfl
    have hst := hst' P
    refine ⟨((min x.n (s.n - l) : Nat) : Int), w', ?_, h w' h6⟩
    unfold Builtin.copy_
    simp only [hg0, hv0, hv1]
    simp only [Sem.run_bind, run_underlying hsl, Result.andThen, Sl.val, sizeT_spec hsz]
    simp only [Sl.val] at hlo hfc
    simp only [hlo, Sem.run_bind, Result.andThen, hdn]
    rw [show Nat.min x.n (s.n - l) = min x.n (s.n - l) from rfl, hfc]
    rw [hda, ha]
    by_cases hcl : s.c = l
    · have h7 : s.n - l = 0 := by omega
      have h8 : us.take ((s.n - l) * esz) = [] := by rw [h7]; simp
      rw [h8] at hst
      have hw' : w' = w := by simpa [storeCells] using hst.symm
      simp [cutA, hcl, h8, goInt, storeCells, hw']
    · simp [cutA, hcl, hst, goInt]

/-- A clone: cells put behind an empty slice. -/
theorem s_clone {T U Tr : Nat} {us : List Value} {k : Sl → K} (hx : ∀ w, Holds B Γ w → RdC w x esz us) (hfl : ∀ u ∈ us, flatV u = true) (hroom : x.n ≤ 100000000) (h : ∀ s', s'.n = x.n → HG B (SlC E esz s' us :: Γ) (k s')) (hT : appT P T U E esz = true := by kernel_rfl) :
    HG B Γ (New E #[] fun t => Do P (Builtin.append_ #[T, U] Tr #[Sl.val (Sl.mk (some t) 0 0), x.val]) Sl.val k) := s_new fun b => by
  refine s_conv (A' := SlC E esz ⟨some ⟨b, 0, none⟩, 0, 0⟩ []) (blk_SlC (vs := []) rfl (by simp)) ?_
  refine s_append (us := us) (fun w hw => hx w hw.tail) hfl (by simp only; omega) (hT := hT) fun s' hs' => ?_
  have := h s' (by simpa using hs')
  simpa using this

/-- Zeros put behind a slice that has no room: a new one; the elder one stays. -/
theorem s_appZ {T U Tr : Nat} {m : Int} {k : Sl → K} (hm : 0 ≤ m) (hgrow : (s.c : Int) < s.n + m) (hroom : (s.n : Int) + m ≤ 100000000) (h : ∀ s' zs, s'.n = s.n + m.toNat → zs.length = m.toNat * esz → (∀ v ∈ zs, flatV v = true) → HG B (SlC E esz s' (vs ++ zs) :: Γ) (k s')) (hr : ∀ w, Holds B Γ w → RdC w s esz vs) (hsp : s.n ≤ s.c) (hT : apZT P T U E esz = true := by kernel_rfl) :
    HG B Γ (Do P (Builtin.append_ #[T, U] Tr #[s.val, .int .i64 m]) Sl.val k) := fun w hw => by
  unfold apZT at hT
  simp only [Bool.and_eq_true] at hT
  obtain ⟨hT, hU⟩ := hT
  obtain ⟨hs1, _, by', zv, hby, hle, hne, hz, hzs, hzf⟩ := appT_spec hT
  obtain ⟨hsl, hsz⟩ := sliceT_spec hs1
  obtain ⟨ib, hib, hbytes⟩ := bytesT_spec hby
  obtain ⟨n, rfl⟩ : ∃ n : Nat, m = n := ⟨m.toNat, by omega⟩
  simp only [Int.toNat_natCast] at h
  obtain ⟨kd, hU'⟩ : ∃ kd, P.underlying U = some (.int kd) := by
    split at hU
    · rename_i kd hk; exact ⟨kd, hk⟩
    · cases hU
  have hti : (typeInfo E).run P w = .ok ib w := by simp [typeInfo, program, hib, Sem.run]
  have hget : (#[T, U] : Array TypeId)[0]? = some T := rfl
  have hget1 : (#[T, U] : Array TypeId)[1]? = some U := rfl
  have hv0 : (#[s.val, Value.int .i64 (n : Int)] : Array Value)[0]? = some s.val := rfl
  have hv1 : (#[s.val, Value.int .i64 (n : Int)] : Array Value)[1]? = some (Value.int .i64 (n : Int)) := rfl
  have hwr : IntKind.wrap .i64 (n : Int) = n := wrap64 (by omega) (by omega)
  have hl0 : ¬ ((n : Int) < 0) := by omega
  have hbig2 : ¬ ((n : Int) * (ib.bytes : Int) > 2 ^ 48) := by
    rw [hbytes]
    have h1 : n * by' ≤ 100000000 * 1000 := Nat.mul_le_mul (by omega) hle
    have h2 : ((n * by' : Nat) : Int) ≤ 100000000 * 1000 := by omega
    rw [Int.natCast_mul] at h2
    omega
  have hcap := nextcap_le (show s.c < s.n + n by omega)
  have hcap2 : ¬ (Builtin.nextslicecap (s.n + n) s.c * ib.bytes > 2 ^ 48) := by
    rw [hbytes]
    have h1 := Nat.mul_le_mul hcap hle
    have h2 : (2 * (s.n + n) + 800) * 1000 ≤ 200000800 * 1000 := Nat.mul_le_mul_right _ (by omega)
    omega
  have hi64 : ¬ ((s.n + n : Nat) : Int) > IntKind.i64.max := by simp [IntKind.max, IntKind.signed, IntKind.bits]; omega
  have hn : ¬ (s.n + n ≤ s.c) := by omega
  have hio : (asIntOf (Value.int .i64 (n : Int))).run P w = .ok (.i64, (n : Int)) w := by simp [asIntOf]
  show ∃ x w', (Builtin.append_ #[T, U] Tr #[s.val, .int .i64 n]).run P w = .ok (Sl.val x) w' ∧ k x w'
  unfold Builtin.append_
  simp only [hget, hget1, hv0, hv1]
  simp only [Sem.run_bind, run_underlying hsl, Result.andThen, Sl.val, sizeT_spec hsz, run_underlying hU', Sem.run_pure, if_true, asInt, hio, hwr, hl0, if_false, hti, hbig2, Int.toNat_natCast]
  simp only [hn, if_false]
  simp only [Sem.run_bind, hti, Result.andThen]
  rw [if_neg (by rintro ⟨h1, _⟩; exact hi64 h1)]
  simp only [Sem.run_bind, hti, Result.andThen, Sem.run_pure]
  rw [if_neg hcap2]
  obtain ⟨newCap, w1, hch, hle1, hw1⟩ : ∃ nc w1, (choose (.appendCap (s.n + n) s.c E)).run P w = .ok nc w1 ∧ s.n + n ≤ nc ∧ w1 = { w with drawn := w.drawn + 1 } := by
    refine ⟨(Question.appendCap (s.n + n) s.c E).cut (w.tape w.drawn (.appendCap (s.n + n) s.c E)), _, by simp [choose, Sem.run, Question.forced], ?_, rfl⟩
    simp only [Question.cut]; omega
  have hw' : Holds B Γ w1 := by rw [hw1]; exact hw.drew _
  have hrs1 := hr w1 hw'
  have hti1 : (typeInfo E).run P w1 = .ok ib w1 := by simp [typeInfo, program, hib, Sem.run]
  have hf1 := run_firstCells (P := P) hrs1
  simp only [Sl.val] at hf1
  obtain ⟨zs, hzl, hzfl, hap⟩ : ∃ zs : List Value, zs.length = n * esz ∧ (∀ v ∈ zs, flatV v = true) ∧ (if n * esz = 0 then (pure #[] : Sem (Array Value)) else do pure (Builtin.zeroCells (← zeroValue E).cells n)).run P w1 = .ok zs.toArray w1 := by
    by_cases h0 : n * esz = 0
    · exact ⟨[], by simp [h0], by simp, by simp [h0]⟩
    · refine ⟨(Builtin.zeroCells zv.cells n).toList, by simp [Builtin.zeroCells, hzs], zeroCells_list _ _ hzf, ?_⟩
      rw [if_neg h0]
      simp [zeroT_spec hz]
  simp only [hch, hti1, run_askRoom, hf1, zeroT_spec hz, Sem.run_bind, Result.andThen, Sem.run_pure, newRow, newObj, Sem.run, Bool.not_true, Bool.false_eq_true, if_false] at hap ⊢
  simp only [hap]
  refine ⟨⟨some ⟨w1.heap.size, 0, none⟩, s.n + n, newCap⟩, _, rfl, h _ zs rfl (by simpa using hzl) hzfl _ ?_⟩
  have h2 := hw'.alloc (.cells (vs.toArray ++ zs.toArray ++ Builtin.zeroCells zv.cells (newCap - (s.n + n))) E)
  have hvl := hrs1.len
  refine h2.imp fun g hg => ⟨?_, hle1, rfl, _, (0, 0), hg, ?_, ?_, ?_⟩
  · simp [hvl, hzl, Nat.add_mul]
  · intro i _ _; simp
  · simp only [Nat.zero_add, Array.size_append, List.size_toArray, hvl, hzl, Builtin.zeroCells, Array.size_map, Array.size_range, hzs]
    rw [← Nat.add_mul, ← Nat.add_mul]
    exact Nat.mul_le_mul_right _ (by omega)
  · intro i hi
    simp only [Nat.zero_add]
    rw [Array.getElem?_append_left (by simpa using hi)]
    simp [List.getElem?_append, Array.getElem?_append]

/-! ### parts of a slice -/
theorem s_slc {lo hi mx : Nat} {l h' m : Int} {ks : Sl → K} (h : HG B Γ (ks ⟨cutA s.a lo mx esz, hi - lo, mx - lo⟩)) (hl : l = (lo : Int) := by first | rfl | omega) (hh : h' = (hi : Int) := by first | rfl | omega) (hm : m = (mx : Int) := by first | rfl | omega) (h1 : lo ≤ hi := by omega) (h2 : hi ≤ mx := by omega) (h3 : mx ≤ s.c := by omega) :
    HG B Γ (Slc s l h' m esz ks) := fun w hw => by
  subst hl; subst hh; subst hm
  exact ⟨_, by omega, by omega, by omega, by omega, by simp, h w hw⟩
theorem rd_own {s : Sl} {E esz : Nat} {vs : List Value} [p : OwnS s Γ (SlC E esz s vs) Δ] : ∀ w, Holds B Γ w → RdC w s esz vs := fun w hw => (own_rd hw (p := p)).1
/-- The slice of one's own from its beginning to m, with its room to c'. -/
theorem s_shrink {k : K} {m c' : Nat} (hm : m ≤ s.n) (hc : m ≤ c') (hc' : c' ≤ s.c) (h : HG B (SlC E esz ⟨s.a, m, c'⟩ (vs.take (m * esz)) :: Δ) k) [p : OwnS s Γ (SlC E esz s vs) Δ] : HG B Γ k := fun w hw => h w ((hw.perm p.perm).imp fun g hg => by
  obtain ⟨hl, _, hs⟩ := SlC.take hm g hg
  refine ⟨hl, hc, ?_⟩
  cases ha : s.a with
  | none => rw [ha] at hs; simp only at hs ⊢; omega
  | some a =>
    rw [ha] at hs
    obtain ⟨hsp, cs, fz, hb, hf, hsz, hv⟩ := hs
    have : c' * esz ≤ s.c * esz := Nat.mul_le_mul_right _ hc'
    exact ⟨hsp, cs, fz, hb, fun i h1 h2 => hf i h1 (by simp only at h2 ⊢; omega), by simp only at hsz ⊢; omega, hv⟩)
theorem s_ext {k : K} {m : Nat} (hm : s.n + m ≤ s.c) (h : ∀ js : List Value, js.length = m * esz → HG B (SlC E esz ⟨s.a, s.n + m, s.c⟩ (vs ++ js) :: Δ) k) [p : OwnS s Γ (SlC E esz s vs) Δ] : HG B Γ k := fun w hw => by
  have h1 := hw.perm p.perm
  have h2 : Holds B ((ex fun js : List Value => fun g => js.length = m * esz ∧ SlC E esz ⟨s.a, s.n + m, s.c⟩ (vs ++ js) g) :: Δ) w := h1.imp fun g hg => SlC_app_grow hm hg
  obtain ⟨js, h3⟩ := Holds.ex.1 h2
  exact h js (h3.fact fun g hg => hg.1) w (h3.imp fun g hg => hg.2)

/-! ### the library's Insert and Delete, as rules -/
theorem s_clear {T t l q m : Nat} {d : Sl} {k : Value → K} (hd : d = ⟨cutA s.a l m esz, q, m - l⟩) (hl : s.n ≤ l) (hq : l + q ≤ s.c) (hm : q = 0 ∨ m ≠ l) (h : HG B (SlC E esz s vs :: Δ) (k (.tuple #[]))) [p : OwnS s Γ (SlC E esz s vs) Δ] (hT : appT P T T E esz = true := by kernel_rfl) :
    HG B Γ (Do P (Builtin.clear_ #[T] t #[d.val]) id k) := fun w hw => by
  obtain ⟨h1, _, _, zv, _, _, _, h6, h7, h8⟩ := appT_spec hT
  exact r_clear (hw.perm p.perm) h1 h6 h7 h8 hl hq hm hd fun w' h' => h w' h'
theorem take_mul {n m esz : Nat} (h : vs.length = n * esz) (hm : m ≤ n) : (vs.take (m * esz)).length = m * esz := by
  have := Nat.mul_le_mul_right esz hm
  rw [List.length_take]; omega
theorem flat_sub {us : List Value} (h : ∀ v ∈ vs, flatV v = true) (hs : ∀ v ∈ us, v ∈ vs) : ∀ v ∈ us, flatV v = true := fun v hv => h v (hs v hv)
/-- What a slice says of its cells. -/
theorem s_len (s : Sl) {k : K} [p : OwnS s Γ (SlC E esz s vs) Δ] (h : vs.length = s.n * esz → s.n ≤ s.c → HG B Γ k) : HG B Γ k := fun w hw => h (own_cap hw p).1 (own_cap hw p).2.1 w hw
theorem cap_run {T t : Nat} {k : Int → K} (hT : appT P T T E esz = true) (h : HG B Γ (k (s.c : Int))) : HG B Γ (Do P (Builtin.cap_ #[T] t #[s.val]) (Value.int .i64) k) := fun w hw => by
  obtain ⟨h1, _⟩ := appT_spec hT
  obtain ⟨hsl, _⟩ := sliceT_spec h1
  refine ⟨s.c, w, ?_, h w hw⟩
  unfold Builtin.cap_
  have hget : (#[T] : Array TypeId)[0]? = some T := rfl
  have hv0 : (#[s.val] : Array Value)[0]? = some s.val := rfl
  simp only [hget, hv0]
  simp only [Sem.run_bind, run_underlying hsl, Result.andThen, Sl.val]
  rfl
/-- Two slices of one's own, in two blocks. -/
theorem own_apart {s x : Sl} {a c : Addr} {E E' esz esz' : Nat} {vs us : List Value} (h : Holds B (SlC E esz s vs :: SlC E' esz' x us :: Γ) w) (ha : s.a = some a) (hc : x.a = some c) : a.block ≠ c.block := by
  obtain ⟨cs, fz, h1, _⟩ := slOpen h ha
  obtain ⟨cs', fz', h2, _⟩ := slOpen h1.swap hc
  exact h2.swap.apart
end
end Go.Sep
/- The library's Insert, Delete and Clone on slices of one's own. Holds for every program. -/
namespace Go.Sep
open Go Go.RowKit
set_option linter.unusedSimpArgs false
set_option linter.unusedVariables false

/-- slices.Insert, as it is printed. -/
def insK (P : Program) (T J R esz : Nat) (rot : Sl → Int → K → K) (s0 : Sl) (i1 : Int) (v2 : Sl) (Q : Sl → K) : K :=
  Slc s0 i1 (s0.n : Int) (s0.c : Int) esz fun _ =>
  Ite (decide ((v2.n : Int) = 0))
    (Q s0)
    (Ite (decide (i1 = (s0.n : Int)))
      (Do P (Builtin.append_ #[T, T] T #[(Sl.val s0), (Sl.val v2)]) Sl.val fun t25 =>
      Q t25)
      (Ar (IntKind.wrap .i64 ((s0.n : Int) + (v2.n : Int))) fun t28 =>
      Do P (Builtin.cap_ #[T] J #[(Sl.val s0)]) (Value.int .i64) fun t30 =>
      Ite (decide (t30 < t28))
        (Slc s0 0 i1 (s0.c : Int) esz fun t34 =>
        Ar (IntKind.wrap .i64 ((s0.n : Int) + (v2.n : Int))) fun t37 =>
        Ar (IntKind.wrap .i64 (t37 - i1)) fun t39 =>
        Do P (Builtin.append_ #[T, J] T #[(Sl.val t34), (.int .i64 t39)]) Sl.val fun t40 =>
        Slc t40 i1 (t40.n : Int) (t40.c : Int) esz fun t43 =>
        Do P (Builtin.copy_ #[T, T] J #[(Sl.val t43), (Sl.val v2)]) (Value.int .i64) fun t45 =>
        Dr <|
        Ar (IntKind.wrap .i64 (i1 + (v2.n : Int))) fun t49 =>
        Slc t40 t49 (t40.n : Int) (t40.c : Int) esz fun t50 =>
        Slc s0 i1 (s0.n : Int) (s0.c : Int) esz fun t53 =>
        Do P (Builtin.copy_ #[T, T] J #[(Sl.val t50), (Sl.val t53)]) (Value.int .i64) fun t54 =>
        Q t40)
        (Ar (IntKind.wrap .i64 ((s0.n : Int) + (v2.n : Int))) fun t59 =>
        Slc s0 0 t59 (s0.c : Int) esz fun t60 =>
        Ar (IntKind.wrap .i64 (i1 + (v2.n : Int))) fun t65 =>
        Slc t60 t65 (t60.n : Int) (t60.c : Int) esz fun t66 =>
        Rd P (Extern.SlicesOverlaps.overlaps #[T, T] #[R] [(Sl.val v2), (Sl.val t66)].toArray) Value.bool fun t67 =>
        Ite (!t67)
          (Dr <|
          Ar (IntKind.wrap .i64 (i1 + (v2.n : Int))) fun t72 =>
          Slc t60 t72 (t60.n : Int) (t60.c : Int) esz fun t73 =>
          Slc t60 i1 (t60.n : Int) (t60.c : Int) esz fun t76 =>
          Do P (Builtin.copy_ #[T, T] J #[(Sl.val t73), (Sl.val t76)]) (Value.int .i64) fun t77 =>
          Slc t60 i1 (t60.n : Int) (t60.c : Int) esz fun t80 =>
          Do P (Builtin.copy_ #[T, T] J #[(Sl.val t80), (Sl.val v2)]) (Value.int .i64) fun t82 =>
          Q t60)
          (Slc t60 (s0.n : Int) (t60.n : Int) (t60.c : Int) esz fun t86 =>
          Do P (Builtin.copy_ #[T, T] J #[(Sl.val t86), (Sl.val v2)]) (Value.int .i64) fun t88 =>
          Slc t60 i1 (t60.n : Int) (t60.c : Int) esz fun t91 =>
          rot t91 (v2.n : Int) <|
          Q t60))))
/-- slices.Delete, as it is printed. -/
def delK (P : Program) (T Z esz : Nat) (s0 : Sl) (i1 j2 : Int) (Q : Sl → K) : K :=
  Slc s0 i1 j2 (s0.n : Int) esz fun _ =>
  Ite (decide (i1 = j2))
    (Q s0)
    (Dr <|
    Slc s0 0 i1 (s0.c : Int) esz fun t22 =>
    Slc s0 j2 (s0.n : Int) (s0.c : Int) esz fun t25 =>
    Do P (Builtin.append_ #[T, T] T #[(Sl.val t22), (Sl.val t25)]) Sl.val fun t26 =>
    Slc t26 (t26.n : Int) (s0.n : Int) (t26.c : Int) esz fun t31 =>
    Do P (Builtin.clear_ #[T] Z #[(Sl.val t31)]) id fun _ =>
    Q t26)
/-- slices.Clone, as it is printed. -/
def cloneK (P : Program) (E T : Nat) (s0 : Sl) (Q : Sl → K) : K :=
  Ite ((s0).a.isNone)
    (Q (Sl.mk none 0 0))
    (New E #[] fun t5 =>
    Do P (Builtin.append_ #[T, T] T #[(Sl.val (Sl.mk (some t5) 0 0)), (Sl.val s0)]) Sl.val fun t7 =>
    Q t7)

theorem layAt_mid {A X C us : List Value} {p : Nat} (hp : p = A.length) (h : X.length = us.length) : layAt (A ++ (X ++ C)) p us = A ++ (us ++ C) := by
  subst hp
  simp only [layAt, List.take_left, List.append_assoc, List.append_cancel_left_eq]
  rw [← h, List.drop_append, List.drop_eq_nil_of_le (by omega), List.nil_append, show A.length + X.length - A.length = X.length by omega, List.drop_left]

section
variable {P : Program} {B w : World} {Γ Δ Δ2 : List HProp} {E esz : Nat} {s x : Sl} {vs us : List Value}

theorem s_ovl {T R t l : Nat} {d : Sl} {cs : List Value} {k : Bool → K} (hd : d = ⟨cutA s.a l s.c esz, s.n - l, s.c - l⟩) (h : HG B Γ (k false)) [p : OwnS s Γ (SlC E esz s vs) Δ] [q : Own t Δ (blk t (.cells cs.toArray E (0, 0))) Δ2] (hc : 0 < s.c) (he : 0 < esz) (hT : appT P T T E esz = true) :
    HG B Γ (Rd P (Extern.SlicesOverlaps.overlaps #[T, T] #[R] [(Sl.val ⟨some ⟨t, 0, none⟩, 1, 1⟩), (Sl.val d)].toArray) Value.bool k) := fun w hw => by
  obtain ⟨hs1, _⟩ := appT_spec hT
  obtain ⟨hsl, hsz⟩ := sliceT_spec hs1
  obtain ⟨_, _, hsp, hnil⟩ := own_cap hw p
  have h1 := hw.perm (p.perm.trans (q.perm.cons _))
  cases ha : s.a with
  | none => have := hnil ha; omega
  | some a =>
    obtain ⟨cs2, fz, h2, _, _, hsz2, _, _, _⟩ := slOpen h1 ha
    have hb2 := h2.block
    have hb1 := h2.swap.block
    have hne := h2.swap.apart
    obtain ⟨b, off, sp⟩ := a
    have hsp' := hsp _ ha
    simp only at hsp'; subst hsp'
    simp only at hb2 hne hsz2
    have hmul : 0 < s.c * esz := Nat.mul_pos hc he
    refine ⟨false, ?_, h w hw⟩
    have hcut : ∃ o, cutA s.a l s.c esz = some ⟨b, o, none⟩ := by
      rw [ha]; unfold cutA
      split
      · exact ⟨_, rfl⟩
      · exact ⟨_, by simp only [Option.map_some, add_mk]; rfl⟩
    obtain ⟨o, ho⟩ := hcut
    subst hd
    simp only [Sl.val, ho]
    exact Go.Lib.run_overlaps_apart w T R E hsl esz (fun w => sizeT_spec hsz) ⟨t, 0, none⟩ ⟨b, o, none⟩ 1 1 _ _ hne E E cs.toArray.size cs2.size (by simp [World.shape?, hb1]) (by simp [World.shape?, hb2]) (by omega) (by simp [World.frozen?, hb1]) (by simp [World.frozen?, hb1])

theorem blk_rd {t : Nat} {cs : List Value} {T : TypeId} {k : Nat} (he : cs.length = esz) [q : Own t Γ (blk t (.cells cs.toArray T (0, 0))) Δ] : ∀ w, Holds B Γ w → RdC w ⟨some ⟨t, 0, none⟩, 1, k⟩ esz cs := fun w hw =>
  RdC.of_blk (E := T) (hw.perm q.perm) List.mem_cons_self (by simp) (by simpa using he) k
theorem flat_take {n : Nat} (h : ∀ v ∈ vs, flatV v = true) : ∀ v ∈ vs.take n, flatV v = true := fun v hv => h v (List.mem_of_mem_take hv)
theorem flat_drop {n : Nat} (h : ∀ v ∈ vs, flatV v = true) : ∀ v ∈ vs.drop n, flatV v = true := fun v hv => h v (List.mem_of_mem_drop hv)
theorem cutA_spot {a : Option Addr} {l m : Nat} (h : ∀ b, a = some b → b.spot = none) : ∀ b, cutA a l m esz = some b → b.spot = none := fun b hb => by
  unfold cutA at hb
  split at hb
  · exact h b hb
  · cases ha : a with
    | none => rw [ha] at hb; cases hb
    | some c =>
      rw [ha] at hb
      obtain ⟨cb, co, cs⟩ := c
      have := h _ ha
      simp only at this; subst this
      simp only [Option.map_some, add_mk, Option.some.injEq] at hb
      rw [← hb]
/-- One more among a slice's elements. -/
theorem s_ins {T J R i t : Nat} {rot : Sl → Int → K → K} {Q : Sl → K} (hi : i ≤ s.n) (hn : s.n < 50000000) (he : us.length = esz) (he0 : 0 < esz) (hvf : ∀ v ∈ vs, flatV v = true) (huf : ∀ v ∈ us, flatV v = true)
    (h : ∀ s', s'.n = s.n + 1 → HG B (SlC E esz s' (vs.take (i * esz) ++ us ++ vs.drop (i * esz)) :: Δ2) (Q s')) [p : OwnS s Γ (SlC E esz s vs) Δ] [q : Own t Δ (blk t (.cells us.toArray E (0, 0))) Δ2] (hT : appT P T T E esz = true) (hJ : apZT P T J E esz = true) :
    HG B Γ (insK P T J R esz rot s i ⟨some ⟨t, 0, none⟩, 1, 1⟩ Q) := by
  refine fun w hw => ?_
  refine hg (hw.perm (p.perm.trans (q.perm.cons _))) ?_
  clear hw w p q
  refine s_cap s fun h1 h2 h3 h4 => ?_
  unfold insK
  dsimp only
  refine s_slc (lo := i) (hi := s.n) (mx := s.c) ?_
  refine s_f ?_
  refine s_ite (fun hb => ?_) fun hb => ?_
  · have hin : i = s.n := by simp only [decide_eq_true_eq] at hb; omega
    refine s_append (us := us) (blk_rd he) huf (by simp only; omega) (hT := hT) fun s' hs' => ?_
    have e1 : vs.take (i * esz) = vs := List.take_of_length_le (by rw [h1, hin]; exact Nat.le_refl _)
    have e2 : vs.drop (i * esz) = [] := List.drop_eq_nil_of_le (by rw [h1, hin]; exact Nat.le_refl _)
    have h5 := h s' (by simpa using hs')
    rw [e1, e2, List.append_nil] at h5
    exact s_end (Δ := SlC E esz s' (vs ++ us) :: Δ2) h5
  have hin : i < s.n := by simp only [decide_eq_false_iff_not] at hb; omega
  have hsa : ∃ a, s.a = some a := by
    cases ha : s.a with
    | none => have := h4 ha; omega
    | some a => exact ⟨a, rfl⟩
  have hle : i * esz ≤ s.n * esz := Nat.mul_le_mul_right _ hi
  have hle1 : (i + 1) * esz ≤ s.n * esz := Nat.mul_le_mul_right _ hin
  have hx1 : (s.n + 1) * esz = s.n * esz + esz := by rw [Nat.add_mul, Nat.one_mul]
  have hx2 : (i + 1) * esz = i * esz + esz := by rw [Nat.add_mul, Nat.one_mul]
  have hx3 : (s.n + 1 - i) * esz = s.n * esz + esz - i * esz := by rw [Nat.sub_mul, hx1]
  have hx4 : (s.n + 1 - (i + 1)) * esz = s.n * esz - i * esz := by rw [show s.n + 1 - (i + 1) = s.n - i by omega, Nat.sub_mul]
  have hvs : vs = vs.take (i * esz) ++ vs.drop (i * esz) := (List.take_append_drop _ _).symm
  have hA : (vs.take (i * esz)).length = i * esz := take_mul h1 hi
  have hC : (vs.drop (i * esz)).length = s.n * esz - i * esz := by rw [List.length_drop, h1]
  have hvfa := flat_take (n := i * esz) hvf
  have hvfc := flat_drop (n := i * esz) hvf
  refine s_ai ?_
  refine cap_run hT ?_
  refine s_ite (fun hb => ?_) fun hb => ?_
  · have hgrow : s.c < s.n + 1 := by simp only [decide_eq_true_eq] at hb; omega
    refine s_slc (lo := 0) (hi := i) (mx := s.c) ?_
    refine s_ai ?_
    refine s_ai ?_
    rw [cut0 h3]
    have hm : ∀ z : Nat, z = 1 → ((s.n : Int) + (z : Int) - i).toNat = s.n + 1 - i := by omega
    refine s_appZ (s := ⟨s.a, i - 0, s.c - 0⟩) (vs := vs.take (i * esz)) (by omega) (by simp only; omega) (by simp only; omega) (fun s' zs hs' hz hzf => ?_) (fun w hw => (own_rd hw (p := ownS_sl)).1.take (by omega)) (by simp only; omega) (hT := hJ)
    simp only [Nat.sub_zero] at hs'
    have hs'n : s'.n = s.n + 1 := by have := hm _ rfl; omega
    refine s_cap s' fun h5 h6 h7 h8 => ?_
    refine s_slc (lo := i) (hi := s'.n) (mx := s'.c) ?_
    rw [hm _ rfl] at hz hs'
    refine s_copy (s := s') (l := i) (us := us) (blk_rd he) (flat_take huf) rfl (by omega) (hT := hT) ?_
    refine s_dr ?_
    refine s_ai ?_
    refine s_slc (lo := i + 1) (hi := s'.n) (mx := s'.c) ?_
    refine s_slc (lo := i) (hi := s.n) (mx := s.c) ?_
    refine s_copy (s := s') (l := i + 1) (us := vs.drop (i * esz)) (fun w hw => (own_rd (s := s) hw).1.drop hi h2 h3) (flat_take hvfc) rfl (by omega) (hT := hT) ?_
    have e : layAt (layAt (vs.take (i * esz) ++ zs) (i * esz) (us.take ((s'.n - i) * esz))) ((i + 1) * esz) ((vs.drop (i * esz)).take ((s'.n - (i + 1)) * esz)) = vs.take (i * esz) ++ us ++ vs.drop (i * esz) := by
      rw [hs'n, hx3, hx4, List.take_of_length_le (l := us) (by omega), List.take_of_length_le (l := vs.drop (i * esz)) (by omega)]
      have hz2 : zs = zs.take esz ++ (zs.drop esz ++ []) := by simp
      rw [hz2, layAt_mid hA.symm (by rw [List.length_take, hz]; omega), ← List.append_assoc, layAt_mid (by rw [List.length_append, hA]; omega) (by rw [List.length_drop, hz, hC, hx3]; omega)]
      simp
    rw [e]
    exact s_end (h s' hs'n)
  · have hroom : s.n + 1 ≤ s.c := by simp only [decide_eq_false_iff_not] at hb; omega
    refine s_ai ?_
    refine s_slc (lo := 0) (hi := s.n + 1) (mx := s.c) ?_
    rw [cut0 h3]
    refine s_ext (s := s) (m := 1) hroom fun js hj => ?_
    simp only [Nat.sub_zero]
    generalize hs' : (⟨s.a, s.n + 1, s.c⟩ : Sl) = s'
    have hs'n : s'.n = s.n + 1 := by rw [← hs']
    have hs'c : s'.c = s.c := by rw [← hs']
    have hsp' : ∀ a, s'.a = some a → a.spot = none := by rw [← hs']; exact h3
    refine s_ai ?_
    refine s_slc (lo := i + 1) (hi := s'.n) (mx := s'.c) ?_
    refine s_ovl (s := s') rfl ?_ (by omega) he0 hT
    refine s_t ?_
    refine s_dr ?_
    refine s_ai ?_
    refine s_slc (lo := i + 1) (hi := s'.n) (mx := s'.c) ?_
    refine s_slc (lo := i) (hi := s'.n) (mx := s'.c) ?_
    have hjf : ∀ v ∈ ((vs ++ js).drop (i * esz)).take ((s'.n - (i + 1)) * esz), flatV v = true := fun v hv => by
      rw [List.drop_append_of_le_length (by omega), hs'n, hx4, ← hC, List.take_left] at hv
      exact hvfc v hv
    refine s_cap s' fun h5 h6 h7 h8 => ?_
    refine s_copy (s := s') (l := i + 1) (us := (vs ++ js).drop (i * esz)) (fun w hw => (own_rd (s := s') hw).1.drop (by omega) h6 h7) hjf rfl (by omega) (hT := hT) ?_
    refine s_slc (lo := i) (hi := s'.n) (mx := s'.c) ?_
    refine s_copy (s := s') (l := i) (us := us) (blk_rd he) (flat_take huf) rfl (by omega) (hT := hT) ?_
    have e : layAt (layAt (vs ++ js) ((i + 1) * esz) (((vs ++ js).drop (i * esz)).take ((s'.n - (i + 1)) * esz))) (i * esz) (us.take ((s'.n - i) * esz)) = vs.take (i * esz) ++ us ++ vs.drop (i * esz) := by
      rw [List.drop_append_of_le_length (by omega), hs'n, hx4, ← hC, List.take_left, hx3, List.take_of_length_le (l := us) (by omega)]
      generalize hAA : vs.take (i * esz) = A at *
      generalize hCC : vs.drop (i * esz) = C at *
      have e1 : vs ++ js = (A ++ (C ++ js).take esz) ++ ((C ++ js).drop esz ++ []) := by rw [hvs]; simp
      rw [e1, layAt_mid (by rw [List.length_append, hA, List.length_take, List.length_append]; omega) (by rw [List.length_drop, List.length_append]; omega), List.append_assoc, layAt_mid hA.symm (by rw [List.length_take, List.length_append]; omega)]
      simp
    rw [e]
    exact s_end (h s' hs'n)

/-- Some elements of a slice go. -/
theorem s_del {T Z i j : Nat} {Q : Sl → K} (hij : i < j) (hj : j ≤ s.n) (hn : s.n < 50000000) (hvf : ∀ v ∈ vs, flatV v = true)
    (h : ∀ s', s'.n = s.n - (j - i) → HG B (SlC E esz s' (vs.take (i * esz) ++ vs.drop (j * esz)) :: Δ) (Q s')) [p : OwnS s Γ (SlC E esz s vs) Δ] (hT : appT P T T E esz = true) :
    HG B Γ (delK P T Z esz s i j Q) := by
  refine fun w hw => ?_
  refine hg (hw.perm p.perm) ?_
  clear hw w p
  refine s_cap s fun h1 h2 h3 h4 => ?_
  unfold delK
  refine s_slc (lo := i) (hi := j) (mx := s.n) ?_
  refine s_f ?_
  refine s_dr ?_
  refine s_slc (lo := 0) (hi := i) (mx := s.c) ?_
  refine s_slc (lo := j) (hi := s.n) (mx := s.c) ?_
  rw [cut0 h3]
  intro w hw
  have hx : RdC w ⟨cutA s.a j s.c esz, s.n - j, s.c - j⟩ esz (vs.drop (j * esz)) := (own_rd (s := s) hw).1.drop hj h2 h3
  obtain ⟨g1, g2, by', zv, g3, g4, g5, g6, g7, _⟩ := appT_spec hT
  refine hg (k := fun w => RdC w ⟨cutA s.a j s.c esz, s.n - j, s.c - j⟩ esz (vs.drop (j * esz)) → Do P _ _ _ w) hw (s_shrink (s := s) (m := i) (c' := s.c) (by omega) (by omega) (Nat.le_refl _) fun w hw hx => ?_) hx
  have hroom : (2 * (i + (s.n - j)) + 800) * by' ≤ 2 ^ 48 := by
    have h8 : (2 * (i + (s.n - j)) + 800) * by' ≤ 200000800 * 1000 := Nat.mul_le_mul (by omega) g4
    omega
  obtain ⟨s', w', hr, hh, hn', hsome, hin⟩ := run_append (Tr := T) hw g1 g2 g3 g6 g7 hx (flat_drop hvf) hroom g5
  simp only at hn'
  refine ⟨s', w', by simpa using hr, hg hh ?_⟩
  have hs' := hin (by simp only; omega)
  have hc' : s'.c = s.c := by rw [hs']
  simp only [Nat.sub_zero] at hn' hs' ⊢
  refine s_slc (lo := s'.n) (hi := s.n) (mx := s'.c) ?_
  refine s_clear (s := s') (l := s'.n) (q := s.n - s'.n) (m := s'.c) rfl (Nat.le_refl _) (by omega) (.inr (by omega)) ?_ (hT := hT)
  exact h s' (by omega)
theorem s_clone0 {T : Nat} {Q : Sl → K} (hx : ∀ w, Holds B Γ w → RdC w s esz us) (hfl : ∀ u ∈ us, flatV u = true) (hroom : s.n ≤ 100000000) (h : ∀ s', s'.n = s.n → HG B (SlC E esz s' us :: Γ) (Q s')) (hT : appT P T T E esz = true) :
    HG B Γ (cloneK P E T s Q) := by
  unfold cloneK
  refine fun w hw => ?_
  refine hg hw ?_
  have hr := hx w hw
  refine s_ite (fun hb => ?_) fun hb => ?_
  · have hn := hr.nil (by simpa using hb)
    have hl := hr.len
    rw [hn, Nat.zero_mul] at hl
    have : us = [] := List.length_eq_zero_iff.1 hl
    subst this
    intro w hw
    exact h ⟨none, 0, 0⟩ hn.symm w (hw.nilSl E esz)
  · exact s_clone hx hfl hroom h (hT := hT)
end

/-! ### loops and calls -/
section
variable {P : Program} {B w : World} {Γ Δ : List HProp} {k : K}
theorem least {p : Nat → Prop} (h : ∃ n, p n) : ∃ n, p n ∧ ∀ m, p m → n ≤ m := by
  obtain ⟨n, hn⟩ := h
  induction n using Nat.strongRecOn with
  | ind n ih =>
    by_cases h : ∃ m, m < n ∧ p m
    · obtain ⟨m, h1, h2⟩ := h; exact ih m h1 h2
    · exact ⟨n, hn, fun m hm => Nat.le_of_not_lt fun h2 => h ⟨m, h2, hm⟩⟩
/-- A loop: what is owned, and how much is left to do, may hang on what no value tells. -/
theorem s_loop {α ι : Type} {body : (α → K) → α → K} {x : α} (J : α → ι → Prop) (Γf : α → ι → List HProp) (m : α → ι → Nat) (i : ι) (h0 : J x i)
    (h : ∀ (k' : α → K) x i, J x i → (∀ x' i', J x' i' → m x' i' < m x i → HG B (Γf x' i') (k' x')) → HG B (Γf x i) (body k' x)) (hΓ : Γf x i = Γ := by rfl) : HG B Γ (LoopK body x) := fun w hw => by
  subst hΓ
  let I : α → World → Prop := fun x w => ∃ i, J x i ∧ Holds B (Γf x i) w
  let p : α → World → Nat → Prop := fun x w n => ∃ i, J x i ∧ Holds B (Γf x i) w ∧ m x i = n
  have hp : ∀ x w, I x w → ∃ n, p x w n := fun x w ⟨i, h1, h2⟩ => ⟨_, i, h1, h2, rfl⟩
  let μ : α → World → Nat := fun x w => @dite _ (I x w) (Classical.propDecidable _) (fun h => Classical.choose (least (hp x w h))) fun _ => 0
  have hμ : ∀ x w (h : I x w), p x w (μ x w) ∧ ∀ n, p x w n → μ x w ≤ n := fun x w h => by
    have := Classical.choose_spec (least (hp x w h))
    simpa [μ, h] using this
  refine LoopK.of I μ ⟨i, h0, hw⟩ fun x w hI => ?_
  obtain ⟨i, hj, hw, hm⟩ := (hμ x w hI).1
  refine h _ x i hj (fun x' i' hj' hlt w' hw' => ⟨⟨i', hj', hw'⟩, ?_⟩) w hw
  have := (hμ x' w' ⟨i', hj', hw'⟩).2 _ ⟨i', hj', hw', rfl⟩
  omega
/-- A loop that leaves what is owned. -/
theorem s_loopC {α : Type} {body : (α → K) → α → K} {x : α} (J : α → Prop) (m : α → Nat) (h0 : J x)
    (h : ∀ (k' : α → K) x, J x → (∀ x', J x' → m x' < m x → HG B Γ (k' x')) → HG B Γ (body k' x)) : HG B Γ (LoopK body x) :=
  s_loop (ι := Unit) (fun x _ => J x) (fun _ _ => Γ) (fun x _ => m x) () h0 fun k' x _ hj hk => h k' x hj fun x' hj' hm => hk x' () hj' hm
theorem s_all1 {x : K} (h : HG B Γ x) : HG B Γ (All [x]) := fun w hw => all_cons (h w hw) all_nil
theorem s_all2 {x y : K} (h1 : HG B Γ x) (h2 : HG B Γ y) : HG B Γ (All [x, y]) := fun w hw => all_cons (h1 w hw) (all_cons (h2 w hw) all_nil)
theorem s_callv {g : Nat} {args : List Value} {k : Value → K} (h : HG B Γ (CallF P g args.toArray k)) (hc : callable P g = true := by kernel_rfl) : HG B Γ (CallV P (.func (.func g) #[] #[]) args k) := fun w hw =>
  ⟨g, #[], #[], rfl, hc, by have := h w hw; simpa [CallF] using this⟩
theorem s_callvC {g : Nat} {args cs : List Value} {k : Value → K} (h : HG B Γ (CallF P g (args ++ cs).toArray k)) (hc : callable P g = true := by kernel_rfl) : HG B Γ (CallV P (.func (.func g) #[] cs.toArray) args k) := fun w hw =>
  ⟨g, #[], cs.toArray, rfl, hc, by have := h w hw; simpa [CallF] using this⟩
end

abbrev bs (l : List UInt8) : ByteArray := ⟨l.toArray⟩
abbrev strV (l : List UInt8) : Value := .string (bs l)
theorem bs_of (b : ByteArray) : ∃ l, b = bs l := ⟨b.data.toList, by simp [bs]⟩
theorem bs_list (l : List UInt8) : (bs l).toList = l := by simp
theorem bytesLess_dec : ∀ (x y : List UInt8), Op.bytesLess x y = decide (x < y)
  | [], [] => by simp [Op.bytesLess]
  | _ :: _, [] => by simp [Op.bytesLess]
  | [], _ :: _ => by simp [Op.bytesLess]
  | a :: x, b :: y => by
    rw [Op.bytesLess, bytesLess_dec x y]
    simp only [List.cons_lt_cons_iff]
    by_cases h1 : a < b <;> by_cases h2 : a = b <;> by_cases h3 : x < y <;> simp [h1, h2, h3]
theorem gt_dec (x y : List UInt8) : (!(Op.bytesLess x y || x == y)) = decide (y < x) := by
  rw [bytesLess_dec]
  by_cases h1 : x < y
  · have : ¬ y < x := fun h => List.lt_irrefl x (List.lt_trans h1 h)
    simp [h1, this]
  · by_cases h2 : x = y
    · subst h2; simp [h1]
    · have h3 : y < x := by
        have h4 : y ≤ x := by rw [← List.not_lt]; exact h1
        rcases List.le_iff_lt_or_eq.1 h4 with h5 | h5
        · exact h5
        · exact absurd h5.symm h2
      simp [h1, h2, h3]

section
variable {B w : World} {Γ Δ : List HProp} {k : K} {α : Type} {F : α → HProp} {A C : List α} {x : α}
theorem mid_perm : (((A ++ x :: C).map F) ++ Γ).Perm (((A ++ C).map F) ++ F x :: Γ) := by
  have h2 : ((A ++ x :: C).map F).Perm (F x :: (A ++ C).map F) := (List.perm_middle (a := x) (l₁ := A) (l₂ := C)).map _
  refine (h2.append_right Γ).trans ?_
  exact (List.perm_middle (a := F x) (l₁ := (A ++ C).map F) (l₂ := Γ)).symm
/-- One among several. -/
theorem s_mid (h : HG B (F x :: Sep.stars ((A ++ C).map F) :: Γ) k) : HG B (Sep.stars ((A ++ x :: C).map F) :: Γ) k := fun w hw =>
  h w (Holds.flat.2 ((Holds.flat.1 hw).perm mid_perm)).swap
theorem s_unmid (h : HG B (Sep.stars ((A ++ x :: C).map F) :: Γ) k) : HG B (F x :: Sep.stars ((A ++ C).map F) :: Γ) k := fun w hw =>
  h w (Holds.flat.2 ((Holds.flat.1 hw.swap).perm mid_perm.symm))
end

/-! ### a place is searched -/
/-- slices.BinarySearchFunc, as it is printed. -/
def bsK (P : Program) (esz : Nat) (x0 : Sl) (tv : Value) (cmp2 : Value) (Q : Int → Bool → K) : K :=
  LoopK (α := Int × Int) (fun X x =>
    Ite (decide (x.1 < x.2))
      (Ar (IntKind.wrap .i64 (x.1 + x.2)) fun t20 =>
      Ar (IntKind.wrap .u64 t20) fun t21 =>
      Cd (0 ≤ (1 : Int)) <|
      Ar (shrOf .u64 t21 1) fun t22 =>
      Ar (IntKind.wrap .i64 t22) fun t23 =>
      Idx x0 t23 esz fun t27 =>
      LdN t27 esz fun t28 =>
      CallV P cmp2 [(.agg t28), tv] <| Ans1 (fun (t30 : Int) => (Value.int .i64) t30) fun t30 =>
      Ite (decide (t30 < 0))
        (Ar (IntKind.wrap .i64 (t23 + 1)) fun t33 =>
        X (t33, x.2))
        (X (x.1, t23)))
      (Ite (decide (x.1 < (x0.n : Int)))
        (Idx x0 x.1 esz fun t43 =>
        LdN t43 esz fun t44 =>
        CallV P cmp2 [(.agg t44), tv] <| Ans1 (fun (t46 : Int) => (Value.int .i64) t46) fun t46 =>
        Q x.1 (decide (t46 = 0)))
        (Q x.1 false))) (0, (x0.n : Int))

section
variable {P : Program} {B w : World} {Γ Δ : List HProp}
theorem flatMap_el {α : Type} {f : α → List Value} {esz : Nat} (hf : ∀ x, (f x).length = esz) : ∀ {L : List α} {i : Nat} {x : α}, L[i]? = some x → ((L.flatMap f).drop (i * esz)).take esz = f x
  | [], i, x, h => by simp at h
  | a :: L, 0, x, h => by
    simp only [List.getElem?_cons_zero, Option.some.injEq] at h
    subst h
    simp only [Nat.zero_mul, List.drop_zero, List.flatMap_cons]
    rw [← hf a, List.take_left]
  | a :: L, i + 1, x, h => by
    simp only [List.getElem?_cons_succ] at h
    rw [List.flatMap_cons, Nat.add_mul, Nat.one_mul, Nat.add_comm, ← List.drop_drop, ← hf a, List.drop_left]
    rw [hf a]
    exact flatMap_el hf h
theorem flatMap_off {α : Type} {f : α → List Value} {esz : Nat} (hf : ∀ x, (f x).length = esz) {L : List α} {i off : Nat} {x : α} (h : L[i]? = some x) (ho : off < esz) : (L.flatMap f)[i * esz + off]? = (f x)[off]? := by
  rw [← flatMap_el hf h, List.getElem?_take, if_pos ho, List.getElem?_drop]
/-- An element of a slice that is read: not one's own, or one's own. -/
theorem s_idxN {α : Type} (f : α → List Value) {esz : Nat} {L : List α} {s : Sl} {j : Nat} {jj : Int} {x : α} {k : Array Value → K} (hf : ∀ x, (f x).length = esz) (hr : ∀ w, Holds B Γ w → RdC w s esz (L.flatMap f)) (hx : L[j]? = some x) (h : HG B Γ (k (f x).toArray)) (hj : jj = (j : Int) := by first | rfl | omega) (he : 0 < esz := by omega) :
    HG B Γ (Idx s jj esz fun t => LdN t esz k) := fun w hw => by subst hj; exact r_idxN f hf he (hr w hw) hx rfl fun t => h w hw
/-- An element that is read, of one cell. -/
theorem s_idx1 {α : Type} {c : α → Value} {L : List α} {s : Sl} {j : Nat} {jj : Int} {x : α} {k : α → K} (hr : ∀ w, Holds B Γ w → RdC w s 1 (L.map c)) (hx : L[j]? = some x) (h : HG B Γ (k x)) (hj : jj = (j : Int) := by first | rfl | omega) : HG B Γ (Idx s jj 1 fun t => Ld t c k) := fun w hw => by
  subst hj; exact r_idx1 (hr w hw) hx (h w hw)
theorem s_idxS {L : List (List UInt8)} {s : Sl} {j : Nat} {jj : Int} {x : List UInt8} {k : ByteArray → K} (hr : ∀ w, Holds B Γ w → RdC w s 1 (L.map strV)) (hx : L[j]? = some x) (h : HG B Γ (k (bs x))) (hj : jj = (j : Int) := by first | rfl | omega) : HG B Γ (Idx s jj 1 fun t => Ld t Value.string k) :=
  s_idx1 (L := L.map bs) (fun w hw => by have := hr w hw; simpa [Function.comp_def] using this) (by rw [List.getElem?_map, hx]; rfl) h hj
theorem rd_len {α : Type} {f : α → List Value} {esz : Nat} {L : List α} {s : Sl} (hf : ∀ x, (f x).length = esz) (he : 0 < esz) (hr : RdC w s esz (L.flatMap f)) : s.n = L.length := by
  have := hr.len
  rw [flatMap_len f esz hf] at this
  exact (Nat.eq_of_mul_eq_mul_right he this).symm
/-- The place of a key among a slice's elements. -/
theorem s_bs {α : Type} {f : α → List Value} {esz E : Nat} {s : Sl} {L : List α} {c : α → Int} {tv cv : Value} {Q : Int → Bool → K} {p : Nat} (hf : ∀ x, (f x).length = esz) (hL : L.length < 1000000000)
    (hlo : ∀ i x, L[i]? = some x → i < p → c x < 0) (hhi : ∀ i x, L[i]? = some x → p ≤ i → 0 ≤ c x) (hp : p ≤ L.length)
    (hc : ∀ x ∈ L, ∀ q : Int → K, HG B Γ (q (c x)) → HG B Γ (CallV P cv [(.agg (f x).toArray), tv] (Ans1 (fun (t : Int) => (Value.int .i64) t) q)))
    (h : HG B Γ (Q p (decide (∃ x, L[p]? = some x ∧ c x = 0)))) [o : OwnS s Γ (SlC E esz s (L.flatMap f)) Δ] (he : 0 < esz) : HG B Γ (bsK P esz s tv cv Q) := by
  refine s_cap s fun h1 h2 h3 h4 => ?_
  rw [flatMap_len f esz hf] at h1
  have hn : s.n = L.length := (Nat.eq_of_mul_eq_mul_right he h1).symm
  have ldel : ∀ (i : Nat) (x : α) (k : Array Value → K), L[i]? = some x → HG B Γ (k (f x).toArray) → HG B Γ (LdN (elA s i esz) esz k) := fun i x k hx hk => by
    rw [← add0 (elA s i esz)]
    exact s_ldEN (s := s) (by simpa using flatMap_el hf hx) (hf x) hk
  unfold bsK
  refine s_loopC (fun x : Int × Int => ∃ a b : Nat, x = ((a : Int), (b : Int)) ∧ a ≤ p ∧ p ≤ b ∧ b ≤ L.length) (fun x => (x.2 - x.1).toNat) ⟨0, L.length, by rw [hn]; rfl, by omega, hp, Nat.le_refl _⟩ fun k' x hx hk => ?_
  obtain ⟨a, b, rfl, ha, hb, hbl⟩ := hx
  dsimp only
  refine s_ite (fun hlt => ?_) fun hlt => ?_
  · have hab : a < b := by simp only [decide_eq_true_eq] at hlt; omega
    refine s_ai ?_
    rw [show IntKind.wrap .u64 ((a : Int) + b) = ((a + b : Nat) : Int) by rw [wrapU64 (by omega) (by omega)]; omega]
    refine s_ar rfl ?_
    refine s_cd (by omega) ?_
    refine s_ar (e' := (((a + b) / 2 : Nat) : Int)) ?_ ?_
    · show ((a + b : Nat) : Int).fdiv 2 = _
      rw [Int.fdiv_eq_ediv_of_nonneg _ (by omega)]; omega
    refine s_ai ?_
    refine s_idx (s := s) (i := (a + b) / 2) ?_ rfl (by omega)
    obtain ⟨x, hx⟩ : ∃ x, L[(a + b) / 2]? = some x := ⟨_, List.getElem?_eq_getElem (by omega)⟩
    refine ldel _ x _ hx (hc x (List.mem_of_getElem? hx) _ ?_)
    refine s_ite (fun h5 => ?_) fun h5 => ?_
    · have h6 : c x < 0 := by simpa using h5
      refine s_ai ?_
      refine hk _ ⟨(a + b) / 2 + 1, b, by simp, ?_, hb, hbl⟩ (by simp only; omega)
      · refine Nat.lt_of_not_le fun h7 => ?_
        have := hhi _ x hx h7; omega
    · have h6 : 0 ≤ c x := by simpa using h5
      refine hk _ ⟨a, (a + b) / 2, by simp, ha, ?_, by omega⟩ (by simp only; omega)
      · refine Nat.le_of_not_lt fun h7 => ?_
        have := hlo _ x hx h7; omega
  · have hab : a = p ∧ b = p := by simp only [decide_eq_false_iff_not] at hlt; omega
    obtain ⟨rfl, rfl⟩ := hab
    refine s_ite (fun h5 => ?_) fun h5 => ?_
    · have h6 : b < L.length := by simp only [decide_eq_true_eq] at h5; omega
      refine s_idx (s := s) (i := b) ?_ rfl (by omega)
      obtain ⟨x, hx⟩ : ∃ x, L[b]? = some x := ⟨_, List.getElem?_eq_getElem h6⟩
      refine ldel _ x _ hx (hc x (List.mem_of_getElem? hx) _ ?_)
      have e : decide (∃ x, L[b]? = some x ∧ c x = 0) = decide (c x = 0) := by simp [hx]
      rw [e] at h
      exact h
    · have h6 : ¬ b < L.length := by simp only [decide_eq_false_iff_not] at h5; omega
      have e : decide (∃ x, L[b]? = some x ∧ c x = 0) = false := by
        simp only [decide_eq_false_iff_not]
        rintro ⟨x, hx, _⟩
        rw [List.getElem?_eq_none (by omega)] at hx; cases hx
      rw [e] at h
      exact h
end
end Go.Sep
/- Maps: what a map of one's own does, as a list of keys and values. -/
namespace Go.Sep
open Go Go.RowKit Go.MapKept
set_option linter.unusedSimpArgs false
set_option linter.unusedVariables false
set_option linter.unusedSectionVars false

section
variable {α β : Type} [DecidableEq α]
def mget (k : α) : List (α × β) → Option β
  | [] => none
  | p :: m => if k = p.1 then some p.2 else mget k m
def mset (k : α) (v : β) : List (α × β) → List (α × β)
  | [] => [(k, v)]
  | p :: m => if k = p.1 then (k, v) :: m else p :: mset k v m
def mdel (k : α) : List (α × β) → List (α × β)
  | [] => []
  | p :: m => if k = p.1 then m else p :: mdel k m

theorem mfind (k : α) : ∀ m : List (α × β), (mget k m = none ∧ (∀ v, mset k v m = m ++ [(k, v)]) ∧ mdel k m = m ∧ ∀ p ∈ m, p.1 ≠ k) ∨
    ∃ j x, j < m.length ∧ m[j]? = some (k, x) ∧ (∀ i, i < j → ∀ p, m[i]? = some p → p.1 ≠ k) ∧ mget k m = some x ∧ (∀ v, mset k v m = m.set j (k, v)) ∧ mdel k m = m.eraseIdx j
  | [] => .inl ⟨rfl, fun _ => rfl, rfl, by simp⟩
  | p :: m => by
    by_cases hk : k = p.1
    · refine .inr ⟨0, p.2, by simp, by rw [hk]; rfl, fun i hi => by omega, by simp [mget, hk], fun v => by simp [mset, hk], by simp [mdel, hk]⟩
    · rcases mfind k m with ⟨h1, h2, h3, h4⟩ | ⟨j, x, hj, h0, hb, h1, h2, h3⟩
      · refine .inl ⟨by simp [mget, hk, h1], fun v => by simp [mset, hk, h2], by simp [mdel, hk, h3], fun q hq => ?_⟩
        rcases List.mem_cons.1 hq with rfl | hq
        · exact fun e => hk e.symm
        · exact h4 q hq
      · refine .inr ⟨j + 1, x, by simpa using hj, by simpa using h0, fun i hi q hq => ?_, by simp [mget, hk, h1], fun v => by simp [mset, hk, h2], by simp [mdel, hk, h3]⟩
        cases i with
        | zero => simp at hq; subst hq; exact fun e => hk e.symm
        | succ i => exact hb i (by omega) q (by simpa using hq)
end

/-- A way to write keys. -/
structure KeyE {α : Type} (d : TypeDesc) (enc : α → Value) : Prop where
  key : ∀ a, IsKey d (enc a)
  inj : ∀ a b, enc a = enc b → a = b
  bits : ∀ a, Instr.sameBits 10000 (enc a) (enc a) = true
theorem keyE_int (k : IntKind) : KeyE (.int k) (Value.int k) := ⟨fun _ => rfl, fun a b h => by injection h, fun a => by simp [Instr.sameBits]⟩
theorem keyE_string : KeyE .string Value.string := ⟨fun _ => trivial, fun a b h => by injection h, fun a => by
  show (a == a) = true
  rw [bytes_beq]⟩

section
variable {α β : Type} [DecidableEq α] {P : Program} {B w : World} {Γ : List HProp} {enc : α → Value} {cV : β → Value}

def mrel (enc : α → Value) (cV : β → Value) (es : Array MapEntry) (m : List (α × β)) : Prop := es.toList.map (fun e => (e.key, e.val)) = m.map fun p => (enc p.1, cV p.2)
/-- The entries' stamps are unlike, and below the clock. -/
def stamps (es : Array MapEntry) (c : Nat) : Prop := (es.toList.map (·.born)).Nodup ∧ ∀ e ∈ es.toList, e.born < c
theorem stamps_nil (c : Nat) : stamps #[] c := ⟨by simp, by simp⟩
theorem stamps_push {es : Array MapEntry} {c : Nat} (h : stamps es c) (k v : Value) : stamps (es.push { key := k, val := v, born := c }) (c + 1) := by
  refine ⟨?_, fun e he => ?_⟩
  · simp only [Array.toList_push, List.map_append, List.map_cons, List.map_nil]
    rw [List.nodup_append]
    refine ⟨h.1, by simp, fun x hx y hy => ?_⟩
    simp only [List.mem_singleton] at hy
    subst hy
    obtain ⟨e, he, rfl⟩ := List.mem_map.1 hx
    have := h.2 e he
    omega
  · simp only [Array.toList_push] at he
    rcases List.mem_append.1 he with he | he
    · have := h.2 e he; omega
    · simp only [List.mem_singleton] at he; subst he; exact Nat.lt_succ_self _
theorem stamps_modify {es : Array MapEntry} {c : Nat} (h : stamps es c) (j : Nat) (k v : Value) : stamps (es.modify j fun e => { e with key := k, val := v }) c := by
  have e1 : (es.modify j fun e => { e with key := k, val := v }).toList.map (·.born) = es.toList.map (·.born) := by
    apply List.ext_getElem?
    intro i
    simp only [List.getElem?_map, Array.getElem?_toList, Array.getElem?_modify]
    split
    · cases es[i]? <;> rfl
    · rfl
  refine ⟨by rw [e1]; exact h.1, fun e he => ?_⟩
  have : e.born ∈ es.toList.map (·.born) := by rw [← e1]; exact List.mem_map_of_mem he
  obtain ⟨e', he', hb⟩ := List.mem_map.1 this
  rw [← hb]; exact h.2 e' he'
theorem stamps_erase {es : Array MapEntry} {c : Nat} (h : stamps es c) (j : Nat) : stamps (es.eraseIdxIfInBounds j) c := by
  have hs : List.Sublist (es.eraseIdxIfInBounds j).toList es.toList := by
    unfold Array.eraseIdxIfInBounds
    split
    · rw [Array.toList_eraseIdx]; exact List.eraseIdx_sublist _ _
    · exact List.Sublist.refl _
  exact ⟨h.1.sublist (hs.map _), fun e he => h.2 e (hs.subset he)⟩
def MapR (enc : α → Value) (cV : β → Value) (b : Nat) (m : List (α × β)) : HProp := ex fun es : Array MapEntry => ex fun c : Nat => fun g => (mrel enc cV es m ∧ stamps es c) ∧ blk b (.map es c) g

theorem MapR.opens {b : Nat} {m : List (α × β)} (h : Holds B (MapR enc cV b m :: Γ) w) : ∃ es c, (mrel enc cV es m ∧ stamps es c) ∧ Holds B (blk b (.map es c) :: Γ) w := by
  obtain ⟨es, h⟩ := Holds.ex.1 h
  obtain ⟨c, h⟩ := Holds.ex.1 h
  exact ⟨es, c, h.fact fun g hg => hg.1, h.imp fun g hg => hg.2⟩
theorem MapR.shuts {b : Nat} {m : List (α × β)} {es : Array MapEntry} {c : Nat} (hr : mrel enc cV es m ∧ stamps es c) (h : Holds B (blk b (.map es c) :: Γ) w) : Holds B (MapR enc cV b m :: Γ) w :=
  Holds.ex.2 ⟨es, Holds.ex.2 ⟨c, h.imp fun g hg => ⟨hr, hg⟩⟩⟩

theorem mrel_at {es : Array MapEntry} {m : List (α × β)} (hr : mrel enc cV es m) (i : Nat) : (es.toList[i]?).map (fun e => (e.key, e.val)) = (m[i]?).map fun p => (enc p.1, cV p.2) := by
  have := congrArg (·[i]?) hr
  simpa using this
theorem mrel_keys {d : TypeDesc} (hE : KeyE d enc) {es : Array MapEntry} {m : List (α × β)} (hr : mrel enc cV es m) : ∀ x ∈ es.toList, IsKey d x.key := by
  intro x hx
  have : (x.key, x.val) ∈ m.map fun p => (enc p.1, cV p.2) := by rw [← hr]; exact List.mem_map_of_mem hx
  obtain ⟨p, _, hp⟩ := List.mem_map.1 this
  have : enc p.1 = x.key := congrArg Prod.fst hp
  rw [← this]; exact hE.key _

/-- Where a key is found. -/
theorem mfound {d : TypeDesc} (hE : KeyE d enc) {es : Array MapEntry} {m : List (α × β)} (hr : mrel enc cV es m) (k : α) :
    (Instr.findNow d (enc k) es.toList 0 = some none ∧ mget k m = none ∧ (∀ v, mset k v m = m ++ [(k, v)]) ∧ mdel k m = m) ∨
    ∃ j x, Instr.findNow d (enc k) es.toList 0 = some (some (j, cV x)) ∧ j < m.length ∧ m[j]? = some (k, x) ∧ mget k m = some x ∧ (∀ v, mset k v m = m.set j (k, v)) ∧ mdel k m = m.eraseIdx j := by
  have hlen : es.toList.length = m.length := by have := congrArg List.length hr; simpa using this
  rcases mfind k m with ⟨h1, h2, h3, h4⟩ | ⟨j, x, hj, h0, hb, h1, h2, h3⟩
  · refine .inl ⟨?_, h1, h2, h3⟩
    rcases findNow_spec (hE.key k) es.toList 0 (mrel_keys hE hr) with ⟨g1, _⟩ | ⟨i, e, g1, g2, g3⟩
    · exact g1
    · have := mrel_at hr i
      rw [g2] at this
      cases hm : m[i]? with
      | none => rw [hm] at this; simp at this
      | some p =>
        rw [hm] at this
        simp only [Option.map_some, Option.some.injEq, Prod.mk.injEq] at this
        exact absurd (hE.inj _ _ (this.1.symm.trans g3)) (h4 p (List.mem_of_getElem? hm))
  · have key : ∀ (l : List MapEntry) (m : List (α × β)) (j i : Nat), l.map (fun e => (e.key, e.val)) = m.map (fun p => (enc p.1, cV p.2)) → m[j]? = some (k, x) → (∀ i, i < j → ∀ p, m[i]? = some p → p.1 ≠ k) →
        Instr.findNow d (enc k) l i = some (some (i + j, cV x)) := by
      intro l
      induction l with
      | nil => intro m j i hr hm _; cases m <;> simp at hr hm
      | cons e l ih =>
        intro m j i hr hm hb
        cases m with
        | nil => simp at hr
        | cons p m =>
          simp only [List.map_cons, List.cons.injEq, Prod.mk.injEq] at hr
          obtain ⟨⟨e1, e2⟩, hr⟩ := hr
          obtain ⟨r, hs, hiff⟩ := sameNow_of_keys (hE.key k) (hE.key p.1)
          unfold Instr.findNow
          rw [e1, hs]
          cases j with
          | zero =>
            simp only [List.getElem?_cons_zero, Option.some.injEq] at hm
            subst hm
            have : r = true := hiff.2 rfl
            subst this
            simp only [e2, Nat.add_zero]
          | succ j =>
            have hne : p.1 ≠ k := hb 0 (by omega) p rfl
            have : r = false := by
              cases r with
              | false => rfl
              | true => exact absurd (hE.inj _ _ (hiff.1 rfl)) (fun e => hne e.symm)
            subst this
            simp only
            rw [ih m j (i + 1) hr (by simpa using hm) (fun i' hi' q hq => hb (i' + 1) (by omega) q (by simpa using hq))]
            congr 3; omega
    refine .inr ⟨j, x, ?_, hj, h0, h1, h2, h3⟩
    have := key es.toList m j 0 hr h0 hb
    rwa [Nat.zero_add] at this

/-- A map type, its key's kind and its element. -/
def mapIs (P : Program) (T : TypeId) (d : TypeDesc) (E : TypeId) : Prop := ∃ kt, P.underlying T = some (.map kt E) ∧ P.underlying kt = some d

theorem r_mkMap {T : TypeId} {d : TypeDesc} {E : TypeId} {k : Option Nat → K} (h : Holds B Γ w) (hk : ∀ b w, Holds B (MapR enc cV b [] :: Γ) w → k (some b) w) :
    Do P (Instr.makeMap T none) Value.map k w := by
  refine ⟨some w.heap.size, { w with heap := w.heap.push (.map #[] 0) }, rfl, hk _ _ (MapR.shuts (es := #[]) (c := 0) ⟨rfl, stamps_nil 0⟩ (h.alloc _))⟩

theorem run_look {T E : TypeId} {d : TypeDesc} {b : Nat} {m : List (α × β)} {z : β} {a : α} (hT : mapIs P T d E) (hE : KeyE d enc) (hz : zeroT P E (cV z)) {es : Array MapEntry} {c : Nat} (hb : w.heap[b]? = some (.map es c)) (hr : mrel enc cV es m) (ok : Bool) :
    (Instr.lookup T (.map (some b)) (enc a) ok).run P w = .ok (if ok then .tuple #[cV ((mget a m).getD z), .bool (mget a m).isSome] else cV ((mget a m).getD z)) w := by
  obtain ⟨kt, hT, hd⟩ := hT
  unfold Instr.lookup
  simp only [Sem.run_bind, run_underlying hT, Result.andThen, MapKept.run_getObj_map hb, run_checkKey hd (hE.key a), Sem.run_pure]
  rcases mfound hE hr a with ⟨h1, h2, _⟩ | ⟨j, x, h1, _, _, h2, _⟩
  · simp only [run_findKey hd h1, Result.andThen, Sem.run_bind, zeroT_spec hz, Sem.run_pure, h2]
    cases ok <;> rfl
  · simp only [run_findKey hd h1, Result.andThen, Sem.run_bind, Sem.run_pure, h2]
    cases ok <;> rfl

theorem r_look2 {T E : TypeId} {d : TypeDesc} {b : Nat} {m : List (α × β)} {z : β} {a : α} {k : β → Bool → K} (hT : mapIs P T d E) (hE : KeyE d enc) (hz : zeroT P E (cV z)) (h : Holds B (MapR enc cV b m :: Γ) w)
    (hk : k ((mget a m).getD z) (mget a m).isSome w) : Rd2 P (Instr.lookup T (.map (some b)) (enc a) true) (fun x y => .tuple #[cV x, .bool y]) k w := by
  obtain ⟨es, c, ⟨hr, hst⟩, h⟩ := MapR.opens h
  exact ⟨_, _, run_look hT hE hz h.block hr true, hk⟩
theorem r_look1 {T E : TypeId} {d : TypeDesc} {b : Nat} {m : List (α × β)} {z : β} {a : α} {k : β → K} (hT : mapIs P T d E) (hE : KeyE d enc) (hz : zeroT P E (cV z)) (h : Holds B (MapR enc cV b m :: Γ) w)
    (hk : k ((mget a m).getD z) w) : Rd P (Instr.lookup T (.map (some b)) (enc a) false) cV k w := by
  obtain ⟨es, c, ⟨hr, hst⟩, h⟩ := MapR.opens h
  exact ⟨_, run_look hT hE hz h.block hr false, hk⟩

theorem Holds.setMap {b : Nat} {es es' : Array MapEntry} {c c' : Nat} (h : Holds B (blk b (.map es c) :: Γ) w) : (setObj b (.map es' c')).run P w = .ok () { w with heap := w.heap.setIfInBounds b (.map es' c') } ∧
    Holds B (blk b (.map es' c') :: Γ) { w with heap := w.heap.setIfInBounds b (.map es' c') } :=
  ⟨run_setObj_map _ h.block, h.setBlock rfl⟩

theorem r_look2g {γ : Type} {cG : γ → Value} {g : β → γ} {T E : TypeId} {d : TypeDesc} {b : Nat} {m : List (α × β)} {z : β} {a : α} {k : γ → Bool → K} (hc : ∀ x, cV x = cG (g x)) (hT : mapIs P T d E) (hE : KeyE d enc) (hz : zeroT P E (cV z)) (h : Holds B (MapR enc cV b m :: Γ) w)
    (hk : k (g ((mget a m).getD z)) (mget a m).isSome w) : Rd2 P (Instr.lookup T (.map (some b)) (enc a) true) (fun x y => .tuple #[cG x, .bool y]) k w := by
  obtain ⟨es, c, ⟨hr, hst⟩, h⟩ := MapR.opens h
  have := run_look (a := a) hT hE hz h.block hr true
  exact ⟨g ((mget a m).getD z), _, by rw [hc] at this; exact this, hk⟩

theorem r_upd {T E : TypeId} {d : TypeDesc} {b : Nat} {m : List (α × β)} {a : α} {v : β} {k : K} (hT : mapIs P T d E) (hE : KeyE d enc) (h : Holds B (MapR enc cV b m :: Γ) w)
    (hk : ∀ w', Holds B (MapR enc cV b (mset a v m) :: Γ) w' → k w') : DoU P (Instr.mapUpdate T (.map (some b)) (enc a) (cV v)) k w := by
  obtain ⟨kt, hT, hd⟩ := hT
  obtain ⟨es, c, ⟨hr, hst⟩, h⟩ := MapR.opens h
  have hb := h.block
  have hlen : es.size = m.length := by have := congrArg List.length hr; simpa using this
  unfold Instr.mapUpdate DoU
  simp only [Sem.run_bind, run_underlying hT, Result.andThen, MapKept.run_getObj_map hb, run_checkKey hd (hE.key a)]
  rcases mfound hE hr a with ⟨h1, _, h2, _⟩ | ⟨j, x, h1, hj, h0, _, h2, _⟩
  · simp only [run_findKey hd h1, Result.andThen]
    obtain ⟨e1, h3⟩ := h.setMap (P := P) (es' := es.push { key := enc a, val := cV v, born := c }) (c' := c + 1)
    refine ⟨_, _, e1, hk _ (MapR.shuts ⟨?_, stamps_push hst _ _⟩ h3)⟩
    rw [h2]
    simp only [mrel, Array.toList_push, List.map_append, List.map_cons, List.map_nil]
    rw [show es.toList.map (fun e => (e.key, e.val)) = _ from hr]
  · have hes : ∃ e, es.toList[j]? = some e ∧ e.key = enc a := by
      have := mrel_at hr j
      rw [h0] at this
      cases he : es.toList[j]? with
      | none => rw [he] at this; simp at this
      | some e =>
        rw [he] at this
        simp only [Option.map_some, Option.some.injEq, Prod.mk.injEq] at this
        exact ⟨e, rfl, this.1⟩
    obtain ⟨e, he, hek⟩ := hes
    have he2 : es[j]? = some e := by rw [← he, Array.getElem?_toList]
    simp only [run_findKey hd h1, Result.andThen, Sem.run_bind, he2, Option.map_some, Option.getD_some, hek, Instr.keyThatStays, hE.bits, if_true, Sem.run_pure]
    obtain ⟨e1, h3⟩ := h.setMap (P := P) (es' := es.modify j fun e => { e with key := enc a, val := cV v }) (c' := c)
    refine ⟨_, _, e1, hk _ (MapR.shuts ⟨?_, stamps_modify hst _ _ _⟩ h3)⟩
    rw [h2]
    simp only [mrel]
    apply List.ext_getElem?
    intro i
    have hi := mrel_at hr i
    simp only [List.getElem?_map, Array.getElem?_toList, Array.getElem?_modify] at hi ⊢
    by_cases hij : j = i
    · subst hij
      rw [List.getElem?_set_self hj, he2]
      simp
    · rw [List.getElem?_set_ne hij, if_neg hij]
      exact hi

theorem r_mdelete {T KT E t : TypeId} {d : TypeDesc} {b : Nat} {m : List (α × β)} {a : α} {k : Value → K} (hT : mapIs P T d E) (hE : KeyE d enc) (h : Holds B (MapR enc cV b m :: Γ) w)
    (hk : ∀ w', Holds B (MapR enc cV b (mdel a m) :: Γ) w' → k (.tuple #[]) w') : Do P (Builtin.delete_ #[T, KT] t #[.map (some b), enc a]) id k w := by
  obtain ⟨kt, hT, hd⟩ := hT
  obtain ⟨es, c, ⟨hr, hst⟩, h⟩ := MapR.opens h
  have hb := h.block
  have hlen : es.size = m.length := by have := congrArg List.length hr; simpa using this
  have e0 : #[T, KT][0]? = some T := rfl
  have e1 : #[Value.map (some b), enc a][0]? = some (.map (some b)) := rfl
  have e2 : #[Value.map (some b), enc a][1]? = some (enc a) := rfl
  unfold Builtin.delete_ Do
  simp only [e0, e1, e2, Sem.run_bind, run_underlying hT, Result.andThen, MapKept.run_getObj_map hb, run_checkKey hd (hE.key a)]
  rcases mfound hE hr a with ⟨h1, _, _, h2⟩ | ⟨j, x, h1, hj, h0, _, _, h2⟩
  · simp only [run_findKey hd h1, Result.andThen, Sem.run_bind]
    obtain ⟨e3, h3⟩ := h.setMap (P := P) (es' := es) (c' := c)
    refine ⟨.tuple #[], _, ?_, hk _ (MapR.shuts ⟨?_, hst⟩ h3)⟩
    · simp only [Sem.run_bind, e3, Result.andThen, Sem.run_pure]; rfl
    rw [h2]; exact hr
  · simp only [run_findKey hd h1, Result.andThen, Sem.run_bind]
    obtain ⟨e3, h3⟩ := h.setMap (P := P) (es' := es.eraseIdxIfInBounds j) (c' := c)
    refine ⟨.tuple #[], _, ?_, hk _ (MapR.shuts ⟨?_, stamps_erase hst _⟩ h3)⟩
    · simp only [Sem.run_bind, e3, Result.andThen, Sem.run_pure]; rfl
    rw [h2]
    have hjs : j < es.size := by omega
    simp only [mrel, Array.eraseIdxIfInBounds, dif_pos hjs, Array.toList_eraseIdx]
    have mape : ∀ {α β : Type} (f : α → β) (l : List α) (i : Nat), (l.eraseIdx i).map f = (l.map f).eraseIdx i := by
      intro α β f l
      induction l with
      | nil => intro i; simp
      | cons x l ih => intro i; cases i <;> simp [ih]
    rw [mape, mape, show es.toList.map (fun e => (e.key, e.val)) = _ from hr]

theorem r_mclear {T t : TypeId} {d : TypeDesc} {E : TypeId} {b : Nat} {m : List (α × β)} {k : Value → K} (hT : mapIs P T d E) (h : Holds B (MapR enc cV b m :: Γ) w)
    (hk : ∀ w', Holds B (MapR enc cV b [] :: Γ) w' → k (.tuple #[]) w') : Do P (Builtin.clear_ #[T] t #[.map (some b)]) id k w := by
  obtain ⟨kt, hT, hd⟩ := hT
  obtain ⟨es, c, ⟨hr, hst⟩, h⟩ := MapR.opens h
  have hb := h.block
  have e0 : #[T][0]? = some T := rfl
  have e1 : #[Value.map (some b)][0]? = some (.map (some b)) := rfl
  unfold Builtin.clear_ Do
  simp only [e0, e1, Sem.run_bind, run_underlying hT, Result.andThen, MapKept.run_getObj_map hb]
  obtain ⟨e3, h3⟩ := h.setMap (P := P) (es' := #[]) (c' := c)
  exact ⟨.tuple #[], _, by simp only [Sem.run_bind, e3, Result.andThen, Sem.run_pure]; rfl, hk _ (MapR.shuts (es := #[]) (m := []) ⟨rfl, stamps_nil _⟩ h3)⟩
end
section
variable {α β γ : Type} [DecidableEq α]
theorem mget_map (g : β → γ) (k : α) : ∀ m : List (α × β), mget k (m.map fun p => (p.1, g p.2)) = (mget k m).map g
  | [] => rfl
  | p :: m => by
    simp only [List.map_cons, mget]
    split
    · rfl
    · exact mget_map g k m
theorem mdel_map (g : β → γ) (k : α) : ∀ m : List (α × β), mdel k (m.map fun p => (p.1, g p.2)) = (mdel k m).map fun p => (p.1, g p.2)
  | [] => rfl
  | p :: m => by
    simp only [List.map_cons, mdel]
    split
    · rfl
    · rw [List.map_cons, mdel_map g k m]
theorem mset_map (g : β → γ) (k : α) (v : β) : ∀ m : List (α × β), mset k (g v) (m.map fun p => (p.1, g p.2)) = (mset k v m).map fun p => (p.1, g p.2)
  | [] => rfl
  | p :: m => by
    simp only [List.map_cons, mset]
    split
    · rfl
    · rw [List.map_cons, mset_map g k v m]
theorem mset_none {k : α} {v : β} {m : List (α × β)} (h : mget k m = none) : mset k v m = m ++ [(k, v)] := by
  rcases mfind k m with ⟨_, h2, _⟩ | ⟨_, _, _, _, _, h1, _⟩
  · exact h2 v
  · rw [h] at h1; cases h1
theorem mdel_len {k : α} {m : List (α × β)} {x : β} (h : mget k m = some x) : (mdel k m).length + 1 = m.length := by
  rcases mfind k m with ⟨h1, _⟩ | ⟨j, _, hj, _, _, _, _, h2⟩
  · rw [h] at h1; cases h1
  · rw [h2, List.length_eraseIdx, if_pos hj]; omega
end
end Go.Sep
/- Maps of one's own, and lists of what is owned. Holds for every program. -/
namespace Go.Sep
open Go Go.RowKit
set_option linter.unusedSimpArgs false
set_option linter.unusedVariables false
section
variable {α β : Type} [DecidableEq α] {P : Program} {B w : World} {Γ Δ : List HProp} {enc : α → Value} {cV : β → Value} {k : K}
instance (priority := high) own_map {α β : Type} [DecidableEq α] {enc : α → Value} {cV : β → Value} {b : Nat} {m : List (α × β)} {Γ : List HProp} : Own b (MapR enc cV b m :: Γ) (MapR enc cV b m) Γ := ⟨.refl _⟩
theorem s_mkMap {T : TypeId} {k : Option Nat → K} (h : ∀ b, HG B (MapR enc cV b [] :: Γ) (k (some b))) : HG B Γ (Do P (Instr.makeMap T none) Value.map k) := fun w hw => by
  refine ⟨some w.heap.size, { w with heap := w.heap.push (.map #[] 0) }, rfl, h _ _ (MapR.shuts (es := #[]) (c := 0) ⟨rfl, stamps_nil 0⟩ (hw.alloc _))⟩
theorem s_look2 {γ : Type} {cG : γ → Value} {g : β → γ} {T E : TypeId} {d : TypeDesc} {b : Nat} {m : List (α × β)} {z : β} {a : α} {k : γ → Bool → K} (hc : ∀ x, cV x = cG (g x)) (hT : mapIs P T d E) (hE : KeyE d enc) (hz : zeroT P E (cV z)) (h : HG B Γ (k (g ((mget a m).getD z)) (mget a m).isSome)) [p : Own b Γ (MapR enc cV b m) Δ] :
    HG B Γ (Rd2 P (Instr.lookup T (.map (some b)) (enc a) true) (fun x y => .tuple #[cG x, .bool y]) k) := fun w hw => r_look2g hc hT hE hz (hw.perm p.perm) (h w hw)
theorem s_look1 {γ : Type} {cG : γ → Value} {g : β → γ} {T E : TypeId} {d : TypeDesc} {b : Nat} {m : List (α × β)} {z : β} {a : α} {k : γ → K} (hc : ∀ x, cV x = cG (g x)) (hT : mapIs P T d E) (hE : KeyE d enc) (hz : zeroT P E (cV z)) (h : HG B Γ (k (g ((mget a m).getD z)))) [p : Own b Γ (MapR enc cV b m) Δ] :
    HG B Γ (Rd P (Instr.lookup T (.map (some b)) (enc a) false) cG k) := fun w hw => by
  obtain ⟨x, hx, hk⟩ := r_look1 (P := P) (T := T) (a := a) (k := fun y w => y = (mget a m).getD z ∧ k (g y) w) hT hE hz (hw.perm p.perm) ⟨rfl, h w hw⟩
  obtain ⟨rfl, hk⟩ := hk
  exact ⟨_, by rw [hx, hc], hk⟩
theorem s_upd {γ : Type} {cG : γ → Value} {T E : TypeId} {d : TypeDesc} {b : Nat} {m : List (α × β)} {a : α} {v : β} {x : Value} (hx : x = cV v) (hT : mapIs P T d E) (hE : KeyE d enc) (h : HG B (MapR enc cV b (mset a v m) :: Δ) k) [p : Own b Γ (MapR enc cV b m) Δ] :
    HG B Γ (DoU P (Instr.mapUpdate T (.map (some b)) (enc a) x) k) := fun w hw => by subst hx; exact r_upd hT hE (hw.perm p.perm) fun w' h' => h w' h'
theorem s_mdelete {T KT E t : TypeId} {d : TypeDesc} {b : Nat} {m : List (α × β)} {a : α} {k : Value → K} (hT : mapIs P T d E) (hE : KeyE d enc) (h : HG B (MapR enc cV b (mdel a m) :: Δ) (k (.tuple #[]))) [p : Own b Γ (MapR enc cV b m) Δ] :
    HG B Γ (Do P (Builtin.delete_ #[T, KT] t #[.map (some b), enc a]) id k) := fun w hw => r_mdelete hT hE (hw.perm p.perm) fun w' h' => h w' h'
theorem s_bldF {zero : Array Value} {pl : Nat → Option (Nat × Nat)} {vs : List (Nat × Value)} {cs : List Value} {k : Array Value → K} (h : HG B Γ (k cs.toArray)) (hc : Instr.fill pl zero vs = some cs.toArray := by rfl) : HG B Γ (Bld zero pl vs k) := fun w hw => ⟨_, hc, h w hw⟩
/-- What is owned of each entry, when one is set. -/
theorem s_mset {F : α × β → HProp} {m : List (α × β)} {a : α} {v : β} (h : HG B (Sep.stars ((mset a v m).map F) :: Γ) k) : HG B (F (a, v) :: Sep.stars (m.map F) :: Γ) k := by
  rcases mfind a m with ⟨_, h2, _, _⟩ | ⟨j, x, hj, h0, _, _, h2, _⟩
  · rw [h2 v] at h
    have e : m = m ++ [] := by simp
    rw [e]
    exact s_unmid (A := m) (C := []) (x := (a, v)) h
  · rw [h2 v] at h
    have hj' := List.getElem?_eq_some_iff.1 h0
    have e1 : m = m.take j ++ (a, x) :: m.drop (j + 1) := by
      obtain ⟨h3, h4⟩ := hj'
      rw [← h4, ← List.drop_eq_getElem_cons h3, List.take_append_drop]
    have e2 : m.set j (a, v) = m.take j ++ (a, v) :: m.drop (j + 1) := by
      rw [List.set_eq_take_append_cons_drop, if_pos hj]
    rw [e2] at h
    rw [e1]
    refine s_swap ?_
    refine s_mid ?_
    refine s_end (Δ := F (a, v) :: Sep.stars ((m.take j ++ m.drop (j + 1)).map F) :: Γ) ?_
    exact s_unmid h
theorem mget_mset (m : List (α × β)) (a a' : α) (v : β) : mget a' (mset a v m) = if a' = a then some v else mget a' m := by
  induction m with
  | nil => simp [mset, mget]
  | cons p m ih =>
    unfold mset
    split
    · rename_i h
      subst h
      by_cases h2 : a' = p.1 <;> simp [mget, h2]
    · rename_i h
      by_cases h2 : a' = p.1
      · simp [mget, h2]
        intro h3; exact absurd h3.symm h
      · simp [mget, h2, ih]
theorem mset_keys (m : List (α × β)) (a : α) (v : β) : (mset a v m).map Prod.fst = if a ∈ m.map Prod.fst then m.map Prod.fst else m.map Prod.fst ++ [a] := by
  induction m with
  | nil => simp [mset]
  | cons p m ih =>
    unfold mset
    split
    · rename_i h; simp [h]
    · rename_i h
      simp only [List.map_cons, ih, List.mem_cons, h, false_or]
      split <;> simp
theorem mget_some {m : List (α × β)} {a : α} {v : β} (h : mget a m = some v) : (a, v) ∈ m := by
  induction m with
  | nil => cases h
  | cons p m ih =>
    unfold mget at h
    split at h
    · rename_i h1; injection h with h; subst h1; subst h; exact List.mem_cons_self
    · exact List.mem_cons_of_mem _ (ih h)
end
end Go.Sep
/- Transactions as they lie in memory. -/
namespace Go.Proofs.Yteolfpghafdmdaa
open Go Go.Sep
set_option linter.unusedSimpArgs false
set_option linter.unusedVariables false

structure OpM where
  kind : Int
  key : List UInt8
  val : List UInt8
  n : Int
deriving DecidableEq
abbrev OpX := OpM × Sl
abbrev opF (x : OpX) : List Value := [.int .i64 x.1.kind, strV x.1.key, x.2.val, .int .i64 x.1.n]
theorem opF_len (x : OpX) : (opF x).length = 4 := rfl
structure TxX where
  kind : Int
  reads : List (List UInt8)
  writes : List (List UInt8)
  ops : List OpX
  to : Int
  rs : Sl
  ws : Sl
  os : Sl
abbrev txL (t : TxX) : List Value := [.int .i64 t.kind, t.rs.val, t.ws.val, t.os.val, .int .i64 t.to]
/-- A transaction's memory can be read. -/
def txRd (w : World) (t : TxX) : Prop := RdC w t.rs 1 (t.reads.map strV) ∧ RdC w t.ws 1 (t.writes.map strV) ∧ RdC w t.os 4 (t.ops.flatMap opF) ∧ ∀ x ∈ t.ops, RdB w x.2 x.1.val
end Go.Proofs.Yteolfpghafdmdaa
/- The shelf contract of slices.Sort on strings, laid at this program. -/
namespace Go.Proofs.Yteolfpghafdmdaa
open Go.Proofs Go.Shelf
def sortRen : Go.Shelf.Ren := ⟨fun | 6 => 49 | 8 => 55 | 9 => 54 | 19 => 66 | 20 => 67 | 21 => 57 | 22 => 58 | 23 => 59 | 24 => 60 | 25 => 61 | 26 => 62 | 27 => 63 | 28 => 64 | 29 => 65 | 36 => 71 | 31 => 72 | 32 => 73 | 37 => 74 | 38 => 75 | 39 => 76 | 41 => 77 | n => n, fun | 27 => 33 | 29 => 9 | 3 => 3 | 32 => 148 | 26 => 33 | 0 => 0 | 44 => 162 | 46 => 27 | 4 => 4 | 36 => 155 | 35 => 154 | 41 => 149 | 5 => 5 | 9 => 9 | 53 => 167 | 57 => 171 | 63 => 173 | 64 => 174 | n => n, fun | n => n⟩
theorem sortLay : Go.Proofs.SlLaysM.n6 Try.prog sortRen := {
  mixed := by kernel_rfl
  f6 := ⟨Try.f49.name, by decide, Try.func49.trans (congrArg some (by kernel_rfl))⟩
  f8 := Try.func55.trans (congrArg some (by kernel_rfl))
  f9 := ⟨Try.f54.name, by decide, Try.func54.trans (congrArg some (by kernel_rfl))⟩
  f19 := Try.func66.trans (congrArg some (by kernel_rfl))
  f20 := Try.func67.trans (congrArg some (by kernel_rfl))
  f21 := ⟨Try.f57.name, by decide, Try.func57.trans (congrArg some (by kernel_rfl))⟩
  f22 := ⟨Try.f58.name, by decide, Try.func58.trans (congrArg some (by kernel_rfl))⟩
  f23 := ⟨Try.f59.name, by decide, Try.func59.trans (congrArg some (by kernel_rfl))⟩
  f24 := ⟨Try.f60.name, by decide, Try.func60.trans (congrArg some (by kernel_rfl))⟩
  f25 := ⟨Try.f61.name, by decide, Try.func61.trans (congrArg some (by kernel_rfl))⟩
  f26 := ⟨Try.f62.name, by decide, Try.func62.trans (congrArg some (by kernel_rfl))⟩
  f27 := ⟨Try.f63.name, by decide, Try.func63.trans (congrArg some (by kernel_rfl))⟩
  f28 := ⟨Try.f64.name, by decide, Try.func64.trans (congrArg some (by kernel_rfl))⟩
  f29 := ⟨Try.f65.name, by decide, Try.func65.trans (congrArg some (by kernel_rfl))⟩
  f31 := Try.func72.trans (congrArg some (by kernel_rfl))
  f32 := Try.func73.trans (congrArg some (by kernel_rfl))
  f36 := ⟨Try.f71.name, by decide, Try.func71.trans (congrArg some (by kernel_rfl))⟩
  f37 := ⟨Try.f74.name, by decide, Try.func74.trans (congrArg some (by kernel_rfl))⟩
  f38 := ⟨Try.f75.name, by decide, Try.func75.trans (congrArg some (by kernel_rfl))⟩
  f39 := ⟨Try.f76.name, by decide, Try.func76.trans (congrArg some (by kernel_rfl))⟩
  f41 := ⟨Try.f77.name, by decide, Try.func77.trans (congrArg some (by kernel_rfl))⟩
  t0 := Try.underlying0
  a0 := Try.isAgg0
  z0 := Try.sizeOf0
  v0 := Try.zeroValue0
  t3 := Try.underlying3
  a3 := Try.isAgg3
  z3 := Try.sizeOf3
  v3 := Try.zeroValue3
  t4 := Try.underlying4
  a4 := Try.isAgg4
  z4 := Try.sizeOf4
  v4 := Try.zeroValue4
  t5 := Try.underlying5
  a5 := Try.isAgg5
  z5 := Try.sizeOf5
  v5 := Try.zeroValue5
  t9 := Try.underlying9
  a9 := Try.isAgg9
  z9 := Try.sizeOf9
  v9 := Try.zeroValue9
  t26 := Try.underlying33
  a26 := Try.isAgg33
  z26 := Try.sizeOf33
  v26 := Try.zeroValue33
  t27 := Try.underlying33
  a27 := Try.isAgg33
  z27 := Try.sizeOf33
  v27 := Try.zeroValue33
  t29 := Try.underlying9
  a29 := Try.isAgg9
  z29 := Try.sizeOf9
  v29 := Try.zeroValue9
  t32 := Try.underlying148
  a32 := Try.isAgg148
  z32 := Try.sizeOf148
  v32 := Try.zeroValue148
  t35 := Try.underlying154
  a35 := Try.isAgg154
  z35 := Try.sizeOf154
  v35 := Try.zeroValue154
  t36 := Try.underlying155
  a36 := Try.isAgg155
  z36 := Try.sizeOf155
  v36 := Try.zeroValue155
  t41 := Try.underlying149
  a41 := Try.isAgg149
  z41 := Try.sizeOf149
  v41 := Try.zeroValue149
  t44 := Try.underlying162
  a44 := Try.isAgg162
  z44 := Try.sizeOf162
  v44 := Try.zeroValue162
  t46 := Try.underlying27
  a46 := Try.isAgg27
  z46 := Try.sizeOf27
  v46 := Try.zeroValue27
  t53 := Try.underlying167
  a53 := Try.isAgg167
  z53 := Try.sizeOf167
  v53 := Try.zeroValue167
  t57 := Try.underlying171
  a57 := Try.isAgg171
  z57 := Try.sizeOf171
  v57 := Try.zeroValue171
  t63 := Try.underlying173
  a63 := Try.isAgg173
  z63 := Try.sizeOf173
  v63 := Try.zeroValue173
  t64 := Try.underlying174
  a64 := Try.isAgg174
  z64 := Try.sizeOf174
  v64 := Try.zeroValue174 }
end Go.Proofs.Yteolfpghafdmdaa
/- The steps of a walk: from known slots and a word of the plain form. Holds for every program. -/
namespace Go.Sep
open Go
set_option linter.unusedSimpArgs false
set_option linter.unusedVariables false

/-- From these slots, and the plain form k, X holds. -/
def G (dl : List Deferred) (n : Nat) (σ : List (Nat × Value)) (k : K) (X : Act → World → Prop) : Prop := ∀ a w, SlotsD dl a n σ → k w → X a w
abbrev fe : Option Nat → Fence
  | none => Fence.wide
  | some l => Fence.wide.inRound l
def Cx (r : Option Nat) (P : Program) (c : Code) (Q : Exit → Act → World → Prop) : Act → World → Prop := fun a w => c.wpIn (fe r) 0 P Q a w
def Tx (r : Option Nat) (P : Program) (ops : Array Oper) (Q : Exit → Act → World → Prop) (l : List Oper) : Act → World → Prop := fun a w => wpListIn (fe r) 0 P ops Q l a w
def Ex (Q : Exit → Act → World → Prop) (e : Exit) : Act → World → Prop := fun a w => Q e a w
def isDef : Op → Bool
  | .defer _ => true
  | _ => false
theorem isDef_ne {o : Oper} (h : isDef o.op = false) : ∀ c, o.op ≠ .defer c := fun c hc => by rw [hc] at h; cases h
theorem fe_free : ∀ r, Free (fe r)
  | none => free_wide
  | some l => free_wide.round l
theorem fe_alive : ∀ r, (fe r).alive = false
  | none => rfl
  | some _ => rfl
theorem fe_depth : ∀ r, (fe r).depth = none
  | none => rfl
  | some _ => rfl

section
variable {P : Program} {dl : List Deferred} {n : Nat} {σ τ : List (Nat × Value)} {k : K} {X : Act → World → Prop} {r : Option Nat} {ops : Array Oper} {Q : Exit → Act → World → Prop} {l : List Oper} {o : Oper} {a : Act} {w w' : World} {v : Value}

/-! ### one operation -/
theorem op_value {K1 : Act → World → Prop} (hs : SlotsD dl a n σ) (nd : isDef o.op = false) (hp : Eff P σ o w (.value v) w') (h : K1 (a.put o.dst v) w') : o.wpIn (fe r) 0 P a w K1 Q := by
  refine ⟨fun f _ => (fe_free r).fn f, ?_⟩
  rw [Oper.semAt_eq _ _ _ (isDef_ne nd)]
  have h1 : (execOp a.eval o).run P w = .ok (.value v) w' := hp { a with defers := [] } n hs.1
  rw [h1, Oper.uponIn_value]; exact h
theorem op_skip {K1 : Act → World → Prop} (hs : SlotsD dl a n σ) (nd : isDef o.op = false) (hp : Eff P σ o w .skip w') (h : K1 (a.put o.dst undef) w') : o.wpIn (fe r) 0 P a w K1 Q := by
  refine ⟨fun f _ => (fe_free r).fn f, ?_⟩
  rw [Oper.semAt_eq _ _ _ (isDef_ne nd)]
  have h1 : (execOp a.eval o).run P w = .ok .skip w' := hp { a with defers := [] } n hs.1
  rw [h1, Oper.uponIn_skip]; exact h
theorem op_call {K1 : Act → World → Prop} {f : FuncId} {args : Array Value} {kk : Value → K} (hs : SlotsD dl a n σ) (nd : isDef o.op = false) (hp : Eff P σ o w (.enter f args) w') (hc : Calls P f args w' (Ret kk))
    (h : ∀ v w, kk v w → K1 (a.put o.dst v) w) : o.wpIn (fe r) 0 P a w K1 Q := by
  refine ⟨fun f _ => (fe_free r).fn f, ?_⟩
  rw [Oper.semAt_eq _ _ _ (isDef_ne nd)]
  have h1 : (execOp a.eval o).run P w = .ok (.enter f args) w' := hp { a with defers := [] } n hs.1
  rw [h1, Oper.uponIn_enter]
  refine ⟨(fun h => by rw [fe_depth r] at h; cases h), callsIn_free (fe_free r) (fe_alive r) (hc.mono fun e w'' he => ?_)⟩
  cases e with
  | returned v => exact h v _ he
  | panicked c => exact he.elim
  | outgrown => exact he.elim
theorem op_yield {K1 : Act → World → Prop} {y : Nat} {args : Array Value} {kk : Value → K} (hs : SlotsD dl a n σ) (nd : isDef o.op = false) (hp : ∀ (x : Next), (Instr.yield y args).run P w = .ok x w → Eff P σ o w x w) (hc : YieldAt Fence.wide 0 P y args w (Ret kk))
    (h : ∀ v w, kk v w → K1 (a.put o.dst v) w) : o.wpIn Fence.wide 0 P a w K1 Q := by
  obtain ⟨fn, tmps, as1, bd, hy, hr⟩ := hc
  refine ⟨fun f _ => trivial, ?_⟩
  rw [Oper.semAt_eq _ _ _ (isDef_ne nd)]
  have h1 : (execOp a.eval o).run P w = .ok (.round y fn tmps as1 bd) w := hp _ hy { a with defers := [] } n hs.1
  rw [h1, Oper.uponIn_round]
  refine ⟨(fun h => by cases h), roundIn_free (hr.mono fun e w'' he => ?_)⟩
  cases e with
  | returned v => exact h v _ he
  | panicked c => exact he.elim
  | outgrown => exact he.elim

/-! ### in the text's order -/
theorem t_run (hs : SlotsD dl a n σ) (hw : wants ops σ o = some true) (h : o.wpIn (fe r) 0 P a w (wpListIn (fe r) 0 P ops Q l) Q) : wpListIn (fe r) 0 P ops Q (o :: l) a w := by
  unfold wpListIn
  rw [if_pos (wants_wanted hs.1 hw)]; exact h
theorem tx_p {d : Nat} (h : G dl n ((d, v) :: σ) k (Tx r P ops Q l)) (hd : o.dst = some d := by rfl) (hw : wants ops σ o = some true := by rfl) (hp : Pure P σ o v := by exact pu_auto) (hn : Nat.ble (d + 1) n = true := by rfl) (nd : isDef o.op = false := by rfl) :
    G dl n σ k (Tx r P ops Q (o :: l)) := fun a w hs hk => t_run hs hw (op_value hs nd (hp.eff w) (by rw [hd]; exact h _ w (hs.put (Nat.le_of_ble_eq_true hn) v) hk))
theorem tx_no {d : Nat} (h : G dl n ((d, undef) :: σ) k (Tx r P ops Q l)) (hd : o.dst = some d := by rfl) (hw : wants ops σ o = some false := by rfl) (hn : Nat.ble (d + 1) n = true := by rfl) : G dl n σ k (Tx r P ops Q (o :: l)) := fun a w hs hk => by
  show wpListIn (fe r) 0 P ops Q (o :: l) a w
  unfold wpListIn
  rw [if_neg (by rw [wants_wanted hs.1 hw]; simp), hd]
  exact ⟨fun f _ => (fe_free r).fn f, h _ w (hs.put (Nat.le_of_ble_eq_true hn) _) hk⟩
theorem tx_no' (h : G dl n σ k (Tx r P ops Q l)) (hd : o.dst = none := by rfl) (hw : wants ops σ o = some false := by rfl) : G dl n σ k (Tx r P ops Q (o :: l)) := fun a w hs hk => by
  show wpListIn (fe r) 0 P ops Q (o :: l) a w
  unfold wpListIn
  rw [if_neg (by rw [wants_wanted hs.1 hw]; simp), hd]
  exact ⟨fun f _ => (fe_free r).fn f, h _ w hs hk⟩
section
variable {α : Type} {vx : α → Value} {k' : α → K}
theorem WP.wr {σ : List (Nat × Value)} (h : WP P σ o k vx k') : WR P σ o k vx k' := fun w hk => by obtain ⟨x, hp, h⟩ := h w hk; exact ⟨x, hp.eff w, h⟩
theorem WR.we {σ : List (Nat × Value)} (h : WR P σ o k vx k') : WE P σ o k vx k' := fun w hk => by obtain ⟨x, hp, h⟩ := h w hk; exact ⟨x, w, hp, h⟩
theorem tx_e0 {d : Nat} (he : WE P σ o k vx k') (h : ∀ x, G dl n ((d, vx x) :: σ) (k' x) (Tx r P ops Q l)) (hd : o.dst = some d) (hw : wants ops σ o = some true) (hn : Nat.ble (d + 1) n = true) (nd : isDef o.op = false) : G dl n σ k (Tx r P ops Q (o :: l)) := fun a w hs hk => by
  obtain ⟨x, w', hp, h'⟩ := he w hk
  exact t_run hs hw (op_value hs nd hp (by rw [hd]; exact h x _ w' (hs.put (Nat.le_of_ble_eq_true hn) _) h'))
theorem tx_wp {d : Nat} (h : ∀ x, G dl n ((d, vx x) :: σ) (k' x) (Tx r P ops Q l)) (hd : o.dst = some d := by rfl) (hw : wants ops σ o = some true := by rfl) (hp : WP P σ o k vx k' := by exact wp_auto) (hn : Nat.ble (d + 1) n = true := by rfl) (nd : isDef o.op = false := by rfl) : G dl n σ k (Tx r P ops Q (o :: l)) := tx_e0 hp.wr.we h hd hw hn nd
theorem tx_wr {d : Nat} (h : ∀ x, G dl n ((d, vx x) :: σ) (k' x) (Tx r P ops Q l)) (hd : o.dst = some d := by rfl) (hw : wants ops σ o = some true := by rfl) (hp : WR P σ o k vx k' := by exact wr_auto) (hn : Nat.ble (d + 1) n = true := by rfl) (nd : isDef o.op = false := by rfl) : G dl n σ k (Tx r P ops Q (o :: l)) := tx_e0 hp.we h hd hw hn nd
theorem tx_we {d : Nat} (h : ∀ x, G dl n ((d, vx x) :: σ) (k' x) (Tx r P ops Q l)) (hd : o.dst = some d := by rfl) (hw : wants ops σ o = some true := by rfl) (hp : WE P σ o k vx k' := by exact we_auto) (hn : Nat.ble (d + 1) n = true := by rfl) (nd : isDef o.op = false := by rfl) : G dl n σ k (Tx r P ops Q (o :: l)) := tx_e0 hp h hd hw hn nd
theorem tx_wen (h : ∀ x, G dl n σ (k' x) (Tx r P ops Q l)) (hd : o.dst = none := by rfl) (hw : wants ops σ o = some true := by rfl) (hp : WE P σ o k vx k' := by exact we_auto) (nd : isDef o.op = false := by rfl) : G dl n σ k (Tx r P ops Q (o :: l)) := fun a w hs hk => by
  obtain ⟨x, w', hp, h'⟩ := hp w hk
  exact t_run hs hw (op_value hs nd hp (by rw [hd]; exact h x _ w' hs h'))
end
theorem tx_wk {k' : K} (h : G dl n σ k' (Tx r P ops Q l)) (hd : o.dst = none := by rfl) (hw : wants ops σ o = some true := by rfl) (hp : WK P σ o k k' := by exact wk_auto) (nd : isDef o.op = false := by rfl) : G dl n σ k (Tx r P ops Q (o :: l)) := fun a w hs hk => by
  obtain ⟨w', hp, h'⟩ := hp w hk
  exact t_run hs hw (op_skip hs nd hp (by rw [hd]; exact h _ w' hs h'))
theorem tx_wc {d : Nat} {kk : Value → K} (h : ∀ u, G dl n ((d, u) :: σ) (kk u) (Tx r P ops Q l)) (hd : o.dst = some d := by rfl) (hw : wants ops σ o = some true := by rfl) (hp : WC P σ o k kk := by exact wc_auto) (hn : Nat.ble (d + 1) n = true := by rfl) (nd : isDef o.op = false := by rfl) : G dl n σ k (Tx r P ops Q (o :: l)) := fun a w hs hk => by
  obtain ⟨f, args, w', hp, hc⟩ := hp w hk
  exact t_run hs hw (op_call hs nd hp hc fun v w h' => by rw [hd]; exact h v _ w (hs.put (Nat.le_of_ble_eq_true hn) _) h')
theorem tx_wcn {kk : Value → K} (h : ∀ u, G dl n σ (kk u) (Tx r P ops Q l)) (hd : o.dst = none := by rfl) (hw : wants ops σ o = some true := by rfl) (hp : WC P σ o k kk := by exact wc_auto) (nd : isDef o.op = false := by rfl) : G dl n σ k (Tx r P ops Q (o :: l)) := fun a w hs hk => by
  obtain ⟨f, args, w', hp, hc⟩ := hp w hk
  exact t_run hs hw (op_call hs nd hp hc fun v w h' => by rw [hd]; exact h v _ w hs h')
theorem tx_wy {d : Nat} {kk : Value → K} (h : ∀ u, G dl n ((d, u) :: σ) (kk u) (Tx none P ops Q l)) (hd : o.dst = some d := by rfl) (hw : wants ops σ o = some true := by rfl) (hp : WY P σ o k kk := by exact wy_y rfl rfl rfl) (hn : Nat.ble (d + 1) n = true := by rfl) (nd : isDef o.op = false := by rfl) : G dl n σ k (Tx none P ops Q (o :: l)) := fun a w hs hk => by
  obtain ⟨y, args, hp, hc⟩ := hp w hk
  exact t_run (r := none) hs hw (op_yield hs nd hp hc fun v w h' => by rw [hd]; exact h v _ w (hs.put (Nat.le_of_ble_eq_true hn) _) h')
theorem tx_nil (h : G dl n σ k (Ex Q .normal)) : G dl n σ k (Tx r P ops Q []) := fun a w hs hk => h a w hs hk

/-! ### answers -/
section
variable {α β γ δ ε : Type} {d : Nat} {u : Value}
theorem an_0 {v0 : Value} (h : G dl n ((d, v0) :: σ) k X) : G dl n ((d, u) :: σ) (Ans0 v0 k u) X := fun a w hs ⟨hu, hk⟩ => h a w (hu ▸ hs) hk
theorem an_1 {c : α → Value} {k : α → K} (h : ∀ x, G dl n ((d, c x) :: σ) (k x) X) : G dl n ((d, u) :: σ) (Ans1 c k u) X := fun a w hs ⟨x, hu, hk⟩ => h x a w (hu ▸ hs) hk
theorem an_2 {c : α → β → Value} {k : α → β → K} (h : ∀ x y, G dl n ((d, c x y) :: σ) (k x y) X) : G dl n ((d, u) :: σ) (Ans2 c k u) X := fun a w hs ⟨x, y, hu, hk⟩ => h x y a w (hu ▸ hs) hk
theorem an_3 {c : α → β → γ → Value} {k : α → β → γ → K} (h : ∀ x y z, G dl n ((d, c x y z) :: σ) (k x y z) X) : G dl n ((d, u) :: σ) (Ans3 c k u) X := fun a w hs ⟨x, y, z, hu, hk⟩ => h x y z a w (hu ▸ hs) hk
theorem an_4 {c : α → β → γ → δ → Value} {k : α → β → γ → δ → K} (h : ∀ x y z t, G dl n ((d, c x y z t) :: σ) (k x y z t) X) : G dl n ((d, u) :: σ) (Ans4 c k u) X := fun a w hs ⟨x, y, z, t, hu, hk⟩ => h x y z t a w (hu ▸ hs) hk
theorem an_5 {c : α → β → γ → δ → ε → Value} {k : α → β → γ → δ → ε → K} (h : ∀ x y z t s, G dl n ((d, c x y z t s) :: σ) (k x y z t s) X) : G dl n ((d, u) :: σ) (Ans5 c k u) X := fun a w hs ⟨x, y, z, t, s, hu, hk⟩ => h x y z t s a w (hu ▸ hs) hk
-- where no slot bears the answer
theorem am_0 {v0 : Value} (h : G dl n σ k X) : G dl n σ (Ans0 v0 k u) X := fun a w hs ⟨_, hk⟩ => h a w hs hk
theorem am_1 {c : α → Value} {k : α → K} (h : ∀ x, G dl n σ (k x) X) : G dl n σ (Ans1 c k u) X := fun a w hs ⟨x, _, hk⟩ => h x a w hs hk
theorem am_2 {c : α → β → Value} {k : α → β → K} (h : ∀ x y, G dl n σ (k x y) X) : G dl n σ (Ans2 c k u) X := fun a w hs ⟨x, y, _, hk⟩ => h x y a w hs hk
end

/-! ### words without an operation -/
/-- What an operation's guard looks at. -/
def gslot (ops : Array Oper) (σ : List (Nat × Value)) (o : Oper) : Option Value := match o.guard with
  | none => none
  | some (j, _) => match (ops[j]?).bind (·.dst) with
    | none => none
    | some t => look σ t
theorem tx_ite {b : Bool} {x y : K} (h1 : b = true → G dl n σ x (Tx r P ops Q (o :: l))) (h2 : b = false → G dl n σ y (Tx r P ops Q (o :: l))) (hg : gslot ops σ o = some (.bool b) := by rfl) : G dl n σ (Ite b x y) (Tx r P ops Q (o :: l)) := fun a w hs hk => by
  cases b
  · exact h2 rfl a w hs (hk.2 rfl)
  · exact h1 rfl a w hs (hk.1 rfl)
theorem gx_fold (h : ∀ a w, SlotsD dl a n σ → k w → X a w) : G dl n σ k X := h
theorem gx_nn {p : Option Addr} {kp : Addr → K} (h : ∀ a, p = some a → G dl n σ (kp a) X) : G dl n σ (Nn p kp) X := fun a w hs ⟨b, hb, hk⟩ => h b hb a w hs hk
theorem gx_fv {f : Value} {kf : FuncId → Array Value → Array Value → K} (h : ∀ g fs cs, f = .func (.func g) fs cs → CB P g → G dl n σ (kf g fs cs) X) : G dl n σ (Fv P f kf) X := fun a w hs ⟨g, fs, cs, hf, hc, hk⟩ => h g fs cs hf ⟨hc⟩ a w hs hk
theorem gx_dead : G dl n σ Dead X := fun _ _ _ hk => hk.elim
/-- The same, as a predicate of slots and plain forms. -/
def Gp (dl : List Deferred) (n : Nat) (X : Act → World → Prop) (τ : List (Nat × Value)) (k : K) : Prop := G dl n τ k X
theorem gp_in (h : G dl n σ k X) : Gp dl n X σ k := h
theorem sub_auto (h : Sub σ τ := by repeat (first | exact trivial | refine ⟨rfl, ?_⟩)) : Sub σ τ := h
theorem gx_jump (h : Gp dl n X τ k := by apply_assumption) (hs : Sub σ τ := by exact sub_auto) : G dl n σ k X := fun a w hs' hk => h a w (hs'.to hs) hk
theorem gx_unf (h : G dl n σ k X) : ∀ a w, SlotsD dl a n σ → k w → X a w := h
theorem gx_sub (h : G dl n τ k X) (hs : Sub σ τ) : G dl n σ k X := fun a w hs' hk => h a w (hs'.to hs) hk

/-! ### code -/
def firstTwo (a b : Nat) : Nat := match Nat.beq a 1000000 with
  | true => b
  | false => a
def firstReg : Code → Nat
  | .region id _ _ => id
  | .seq x y => firstTwo (firstReg x) (firstReg y)
  | .cond _ x y => firstTwo (firstReg x) (firstReg y)
  | .block _ c => firstReg c
  | .loop c => firstReg c
  | .scope c => firstReg c
  | .rangeFunc _ _ a _ => firstReg a
  | _ => 1000000
def lastReg : Code → Nat
  | .region id _ _ => id
  | .seq x y => firstTwo (lastReg y) (lastReg x)
  | .cond _ x y => firstTwo (lastReg y) (lastReg x)
  | .block _ c => lastReg c
  | .loop c => lastReg c
  | .scope c => lastReg c
  | .rangeFunc _ _ _ b => lastReg b
  | _ => 1000000
/-- The number by which a seq's hint is found. -/
def seqKey (x y : Code) : Nat := firstTwo (firstReg y) (1000000 + lastReg x)
/-- A hint: how the code that begins with region id goes on, as a plain form of its own. -/
structure JH (id : Nat) (H : (List (Nat × Value) → ((List (Nat × Value) → K → Prop) → Prop) → Prop) → Prop) : Prop where
  h : ∀ D, H D → ∃ pre C, D pre C
/-- A hint: what a loop's slots bear. -/
structure LH (id : Nat) {α : Type} (S : α → List (Nat × Value)) (body : (α → K) → α → K) : Prop
/-- The continuation of a loop. -/
structure XH (id : Nat) {α : Type} (X : α → K) : Prop

variable {x y c : Code} {id : Nat}
theorem cx_seq (h : G dl n σ k (Cx r P x (Exit.then (Cx r P y Q) Q))) : G dl n σ k (Cx r P (.seq x y) Q) := fun a w hs hk => wpIn_seq (h a w hs hk)
def Jp (dl : List Deferred) (n : Nat) (σ : List (Nat × Value)) (k : K) (r : Option Nat) (P : Program) (x y : Code) (Q : Exit → Act → World → Prop) (pre : List (Nat × Value)) (C : (List (Nat × Value) → K → Prop) → Prop) : Prop :=
  Sub σ pre ∧ C (Gp dl n (Cx r P y Q)) ∧ ∀ Kc, C (Gp dl n Kc) → G dl n σ k (Cx r P x (Exit.then Kc Q))
theorem ex_i {α : Sort _} {p : α → Prop} {x : α} (h : p x) : ∃ x, p x := ⟨x, h⟩
theorem cx_join {H : (List (Nat × Value) → ((List (Nat × Value) → K → Prop) → Prop) → Prop) → Prop} (h : H (Jp dl n σ k r P x y Q)) (hi : seqKey x y = id := by rfl) (hh : JH id H := by first | assumption | (apply_assumption <;> assumption)) : G dl n σ k (Cx r P (.seq x y) Q) := fun a w hs hk => by
  obtain ⟨pre, C, _, h1, h2⟩ := hh.h _ h
  exact wpIn_seq (h2 _ h1 a w hs hk)
theorem cx_skip (h : G dl n σ k (Ex Q .normal)) : G dl n σ k (Cx r P .skip Q) := fun a w hs hk => wpIn_skip (h a w hs hk)
theorem cx_label {i : Nat} (h : G dl n σ k (Ex Q .normal)) : G dl n σ k (Cx r P (.label i) Q) := fun a w hs hk => wpIn_label (h a w hs hk)
theorem cx_exit {i : Nat} (h : G dl n σ k (Ex Q (.exit i))) : G dl n σ k (Cx r P (.exit i) Q) := fun a w hs hk => wpIn_exit (h a w hs hk)
theorem cx_ret (h : G dl n σ k (Ex Q .ret)) : G dl n σ k (Cx r P .ret Q) := fun a w hs hk => wpIn_ret (h a w hs hk)
theorem cx_block {i : Nat} (h : G dl n σ k (Cx r P c (Exit.inBlock i Q))) : G dl n σ k (Cx r P (.block i c) Q) := fun a w hs hk => wpIn_block (h a w hs hk)
theorem cx_cond {e : Operand} {b : Bool} {kx ky : K} (h1 : G dl n σ kx (Cx r P x Q)) (h2 : G dl n σ ky (Cx r P y Q)) (he : ev σ e = some (.bool b) := by rfl) : G dl n σ (Ite b kx ky) (Cx r P (.cond e x y) Q) := fun a w hs hk =>
  wpIn_cond_split (hs.1.ev he) (fun hb => h1 a w hs (hk.1 hb)) (fun hb => h2 a w hs (hk.2 hb))
theorem cx_cond_t {e : Operand} (h : G dl n σ k (Cx r P x Q)) (he : ev σ e = some (.bool true) := by rfl) : G dl n σ k (Cx r P (.cond e x y) Q) := fun a w hs hk => wpIn_cond_true (hs.1.ev he) (h a w hs hk)
theorem cx_cond_f {e : Operand} (h : G dl n σ k (Cx r P y Q)) (he : ev σ e = some (.bool false) := by rfl) : G dl n σ k (Cx r P (.cond e x y) Q) := fun a w hs hk => wpIn_cond_false (hs.1.ev he) (h a w hs hk)
theorem cx_reg {i : Nat} (h : G dl n σ k (Tx r P l.toArray Q l)) : G dl n σ k (Cx r P (.region i l.toArray false) Q) := fun a w hs hk => wpIn_region_lit (h a w hs hk)
def Lx (dl : List Deferred) (n : Nat) {α : Type} (S : α → List (Nat × Value)) (X : α → K) : Act → World → Prop := fun a w => ∃ x, SlotsD dl a n (S x) ∧ X x w
theorem cx_loop {α : Type} {body : (α → K) → α → K} {x0 : α} {S : α → List (Nat × Value)} (h : ∀ X : α → K, XH id X → ∀ x, G dl n (S x) (body X x) (Cx r P c (Exit.then (Lx dl n S X) Q))) (hi : firstReg c = id := by rfl) (hh : LH id S body := by first | assumption | (apply_assumption <;> assumption)) (h0 : Sub σ (S x0) := by exact sub_auto) :
    G dl n σ (LoopK body x0) (Cx r P (.loop c) Q) := fun a w hs ⟨I, μ, hI, hr⟩ => by
  refine cI_loop I μ (fun x a => SlotsD dl a n (S x)) x0 hI (hs.to h0) fun x a w hI hG => ?_
  refine wpIn_mono (h _ ⟨⟩ x a w hG (hr x w hI)) fun e a w hq => ?_
  cases e with
  | normal => exact hq
  | _ => exact hq
theorem lx_end {α : Type} {S : α → List (Nat × Value)} {X : α → K} {x : α} (hk : k = X x := by rfl) (h0 : Sub σ (S x) := by exact sub_auto) : G dl n σ k (Lx dl n S X) := fun a w hs h => ⟨x, hs.to h0, hk ▸ h⟩

theorem ex_then {Kc : Act → World → Prop} (h : G dl n σ k Kc) : G dl n σ k (Ex (Exit.then Kc Q) .normal) := h
theorem ex_then_x {Kc : Act → World → Prop} {i : Nat} (h : G dl n σ k (Ex Q (.exit i))) : G dl n σ k (Ex (Exit.then Kc Q) (.exit i)) := h
theorem ex_then_r {Kc : Act → World → Prop} (h : G dl n σ k (Ex Q .ret)) : G dl n σ k (Ex (Exit.then Kc Q) .ret) := h
theorem ex_blk {i : Nat} (h : G dl n σ k (Ex Q .normal)) : G dl n σ k (Ex (Exit.inBlock i Q) .normal) := h
theorem ex_blk_r {i : Nat} (h : G dl n σ k (Ex Q .ret)) : G dl n σ k (Ex (Exit.inBlock i Q) .ret) := h
theorem ex_blk_x {i : Nat} (h : G dl n σ k (Ex Q .normal)) : G dl n σ k (Ex (Exit.inBlock i Q) (.exit i)) := fun a w hs hk => by
  show Exit.inBlock i Q (.exit i) a w
  simp only [Exit.inBlock, if_true]; exact h a w hs hk
theorem ex_blk_y {i j : Nat} (h : G dl n σ k (Ex Q (.exit j))) (hij : Nat.beq j i = false := by rfl) : G dl n σ k (Ex (Exit.inBlock i Q) (.exit j)) := fun a w hs hk => by
  show Exit.inBlock i Q (.exit j) a w
  have : j ≠ i := fun e => by rw [e, Nat.beq_refl] at hij; cases hij
  simp only [Exit.inBlock, this, if_false]; exact h a w hs hk

/-! ### a function's end -/
def fin : List Value → Value
  | [v] => v
  | l => .tuple l.toArray
theorem fin_eq (l : List Value) : fin l = if h : l.toArray.size = 1 then l.toArray[0] else .tuple l.toArray := by
  cases l with
  | nil => rfl
  | cons v l => cases l <;> rfl
/-- The results are read, one after the other. -/
def Rx (P : Program) (kk : Value → K) (rs : List ResultVar) (vs : List Value) : Act → World → Prop := fun a w => ∃ us, (List.mapM (resSem a.tmps) rs).run P w = .ok us w ∧ kk (fin (vs ++ us)) w
theorem rx_run {fn : Func} {kk : Value → K} (h : Rx P kk fn.results.toList [] a w) : ∃ v, (results fn a.tmps).run P w = .ok v w ∧ kk v w := by
  obtain ⟨us, h1, h2⟩ := h
  refine ⟨fin us, ?_, h2⟩
  rw [results_eq, ← Array.toArray_toList (xs := fn.results), Array.mapM_eq_mapM_toList]
  simp only [Array.toArray_toList]
  simp only [Sem.run_bind, Sem.run_map, h1, Result.andThen, Sem.run_pure]
  rw [fin_eq]
theorem ex_ret {fn : Func} {kk : Value → K} {rs : List ResultVar} (h : G [] n σ k (Rx P kk rs [])) (hr : fn.results = rs.toArray := by rfl) : G [] n σ k (Ex (bodyPostT P fn (Ret kk)) .ret) := fun a w hs hk => by
  obtain ⟨v, h1, h2⟩ := rx_run (fn := fn) (by rw [hr]; exact h a w hs hk)
  show LeavesInM Fence.wide 0 P fn a.tmps (Ret kk) a.defers .returning w
  rw [hs.2]
  exact ⟨v, h1, h2⟩
theorem ex_end {fn : Func} {kk : Value → K} (h : G dl n σ k (Ex (bodyPostT P fn (Ret kk)) .ret)) : G dl n σ k (Ex (bodyPostT P fn (Ret kk)) .normal) := h
theorem ex_retM {fn : Func} {kk : Value → K} {D : Nat} {rs : List ResultVar} (h : G (markD D) n σ k (Rx P kk rs [])) (hr : fn.results = rs.toArray := by rfl) : G (markD D) n σ (TakeD D k) (Ex (bodyPostT P fn (Ret kk)) .ret) := fun a w hs hk => by
  obtain ⟨v, h1, h2⟩ := rx_run (fn := fn) (by rw [hr]; exact h a _ hs hk.2)
  show LeavesInM Fence.wide 0 P fn a.tmps (Ret kk) a.defers .returning w
  rw [hs.2]
  exact ⟨by simp, .inl ⟨D, _, rfl, run_takeDeferred hk.1, v, h1, h2⟩⟩
theorem rx_tmp {kk : Value → K} {t : Nat} {rs : List ResultVar} {vs : List Value} (h : G dl n σ k (Rx P kk rs (vs ++ [v]))) (ht : look σ t = some v := by rfl) : G dl n σ k (Rx P kk (.tmp t :: rs) vs) := fun a w hs hk => by
  obtain ⟨us, h1, h2⟩ := h a w hs hk
  refine ⟨v :: us, ?_, by simpa using h2⟩
  rw [List.mapM_cons]
  have h3 : (resSem a.tmps (.tmp t)).run P w = .ok v w := run_resAt (a := { a with defers := [] }) hs.1 (r := .tmp t) ht
  simp only [Sem.run_bind, h3, h1, Sem.run_pure, Result.andThen]
theorem rx_cell {α : Type} {c : α → Value} {kx : α → K} {kk : Value → K} {t T : Nat} {b : Addr} {rs : List ResultVar} {vs : List Value} [cl : CT P T] (h : ∀ x, G dl n σ (kx x) (Rx P kk rs (vs ++ [c x]))) (ht : look σ t = some (.pointer (some b)) := by rfl) : G dl n σ (Ld b c kx) (Rx P kk (.cell t T :: rs) vs) := fun a w hs ⟨x, hv, hk⟩ => by
  obtain ⟨us, h1, h2⟩ := h x a w hs hk
  refine ⟨c x :: us, ?_, by simpa using h2⟩
  rw [List.mapM_cons]
  have h3 : (resSem a.tmps (.cell t T)).run P w = .ok (c x) w := run_resAt (a := { a with defers := [] }) hs.1 (r := .cell t T) ⟨_, ht, run_loadVar cl.h hv⟩
  simp only [Sem.run_bind, h3, h1, Sem.run_pure, Result.andThen]
theorem rx_cellN {kx : Array Value → K} {kk : Value → K} {t T m : Nat} {b : Addr} {rs : List ResultVar} {vs : List Value} [cl : AT P T m] (h : ∀ x, G dl n σ (kx x) (Rx P kk rs (vs ++ [.agg x]))) (ht : look σ t = some (.pointer (some b)) := by rfl) : G dl n σ (LdN b m kx) (Rx P kk (.cell t T :: rs) vs) := fun a w hs ⟨x, hn, hv, hk⟩ => by
  obtain ⟨us, h1, h2⟩ := h x a w hs hk
  refine ⟨.agg x :: us, ?_, by simpa using h2⟩
  rw [List.mapM_cons]
  have h3 : (resSem a.tmps (.cell t T)).run P w = .ok (.agg x) w := run_resAt (a := { a with defers := [] }) hs.1 (r := .cell t T) ⟨_, ht, run_loadVarN cl.h hn hv⟩
  simp only [Sem.run_bind, h3, h1, Sem.run_pure, Result.andThen]
def Fx (k : K) : Act → World → Prop := fun _ w => k w
theorem rx_nil {kk : Value → K} {vs : List Value} (h : G dl n σ k (Fx (kk (fin vs)))) : G dl n σ k (Rx P kk [] vs) := fun a w hs hk => ⟨[], by simp, by rw [List.append_nil]; exact h a w hs hk⟩
section
variable {α β γ δ ε : Type} {u : Value}
theorem fx_0 {v0 : Value} {q : K} (hk : k = q := by rfl) (hu : u = v0 := by rfl) : G dl n σ k (Fx (Ans0 v0 q u)) := fun _ w _ h => ⟨hu, hk ▸ h⟩
theorem fx_1 {c : α → Value} {q : α → K} {x : α} (hk : k = q x := by rfl) (hu : u = c x := by rfl) : G dl n σ k (Fx (Ans1 c q u)) := fun _ w _ h => ⟨x, hu, hk ▸ h⟩
theorem fx_2 {c : α → β → Value} {q : α → β → K} {x : α} {y : β} (hk : k = q x y := by rfl) (hu : u = c x y := by rfl) : G dl n σ k (Fx (Ans2 c q u)) := fun _ w _ h => ⟨x, y, hu, hk ▸ h⟩
theorem fx_3 {c : α → β → γ → Value} {q : α → β → γ → K} {x : α} {y : β} {z : γ} (hk : k = q x y z := by rfl) (hu : u = c x y z := by rfl) : G dl n σ k (Fx (Ans3 c q u)) := fun _ w _ h => ⟨x, y, z, hu, hk ▸ h⟩
theorem fx_4 {c : α → β → γ → δ → Value} {q : α → β → γ → δ → K} {x : α} {y : β} {z : γ} {t : δ} (hk : k = q x y z t := by rfl) (hu : u = c x y z t := by rfl) : G dl n σ k (Fx (Ans4 c q u)) := fun _ w _ h => ⟨x, y, z, t, hu, hk ▸ h⟩
theorem fx_5 {c : α → β → γ → δ → ε → Value} {q : α → β → γ → δ → ε → K} {x : α} {y : β} {z : γ} {t : δ} {s : ε} (hk : k = q x y z t s := by rfl) (hu : u = c x y z t s := by rfl) : G dl n σ k (Fx (Ans5 c q u)) := fun _ w _ h => ⟨x, y, z, t, s, hu, hk ▸ h⟩
end
end
/-- The first slots of a function: its arguments. -/
def numb : Nat → List Value → List (Nat × Value)
  | _, [] => []
  | i, v :: vs => (i, v) :: numb (i + 1) vs
theorem numb_eq (l : List Value) (i : Nat) : ((l.zipIdx i).map fun p => (p.2, p.1)) = numb i l := by
  induction l generalizing i with
  | nil => rfl
  | cons v l ih => simp [numb, List.zipIdx_cons, ih]
theorem g_start {P : Program} {f : FuncId} {fn : Func} {c : Code} {args : List Value} {kk : Value → K} {k : K} (n : Nat) {w : World} (hk : k w) (hf : P.funcs[f]? = some fn) (h : G [] n (numb 0 args) k (Cx none P c (bodyPostT P fn (Ret kk)))) (hb : fn.body = some c := by rfl) (hn : fn.ntmps = n := by rfl) (hl : Nat.ble args.length n = true := by rfl) :
    CallF P f args.toArray kk w := by
  subst hn
  refine fI_start hf hb (Nat.le_of_ble_eq_true hl) fun a hs => h a w (by rw [← numb_eq]; exact hs) hk
end Go.Sep
/- The steps of a walk in a region whose order is drawn; the whole walk. Holds for every program. -/
namespace Go.Sep
open Go
set_option linter.unusedSimpArgs false
set_option linter.unusedVariables false

/-- In which order a drawn region is walked: some numbers one behind the other; whichever of several (0: one behind which S is asked no more, 1: S holds behind it, 2: it reads); by a guard. -/
inductive Scr where
  | e
  | s (l : List Nat) (t : Scr)
  | a (l : List (Nat × Nat × Scr))
  | i (x y : Scr)
/-- A hint: how a drawn region is walked: 0: no reads ahead, 1: all reads ahead of all else, 2: with an S. -/
structure DH (id mode : Nat) (ds : List Nat) (t : Scr) : Prop
def lst (n : Nat) (done : List Nat) : Array Bool := (Array.range n).map fun i => done.contains i
theorem lst_set (n i : Nat) (done : List Nat) : (lst n done).setIfInBounds i true = lst n (i :: done) := by
  apply Array.ext
  · simp [lst]
  · intro j h1 h2
    have h3 : j < (lst n done).size := by simpa using h1
    rw [Array.getElem_setIfInBounds h3]
    by_cases h : i = j
    · subst h; simp [lst]
    · have h' : ¬ j = i := fun e => h e.symm
      simp [lst, h, h']
theorem lst_nil (n : Nat) : Array.replicate n false = lst n [] := by
  apply Array.ext
  · simp [lst]
  · intro j h1 h2; simp [lst]
def Dx (P : Program) (ops : Array Oper) (Q : Exit → Act → World → Prop) (S : World → Prop) (ds done : List Nat) (t : Scr) : Act → World → Prop := fun a w => Tight Q → wpAnyD P ops Q S ds (ops.size - done.length) (lst ops.size done) a w
def Al (S : World → Prop) (k : K) : K := fun w => S w ∧ k w
/-- Number i comes up, whatever it does. -/
def Ox (P : Program) (ops : Array Oper) (Q : Exit → Act → World → Prop) (S : World → Prop) (ds done : List Nat) (i tag : Nat) (t : Scr) : Act → World → Prop := fun a w => Tight Q →
  opW P ops Q i (fun a' w' => (alive ds (lst ops.size done) = true → i ∉ ds → S w → S w') ∧ wpAnyD P ops Q S ds (ops.size - done.length - 1) (lst ops.size (i :: done)) a' w') a w
def Ax (P : Program) (ops : Array Oper) (Q : Exit → Act → World → Prop) (S : World → Prop) (ds done : List Nat) (l : List (Nat × Nat × Scr)) : Act → World → Prop := fun a w => ∀ p ∈ l, Ox P ops Q S ds done p.1 p.2.1 p.2.2 a w

def takeC (ops : Array Oper) (ds done : List Nat) (i : Nat) : Bool :=
  Region.noSelect ops && Region.free .any ops (lst ops.size done) i && (Region.ready .any ops (lst ops.size done)).contains i && !ds.contains i && Nat.ble (done.length + 1) ops.size
def closedB (ops : Array Oper) (l : Array Bool) : Bool :=
  (List.range ops.size).all fun j => match ops[j]? with
    | some oj => !l.getD j false || oj.after.all fun e => !Region.binds .any e || l.getD e.on false
    | none => true
def readC (ops : Array Oper) (ds done : List Nat) (i : Nat) : Bool := takeC ops ds done i && closedB ops (lst ops.size done) && ds.all fun d => reach ops i ops.size d
theorem closedB_spec {ops : Array Oper} {l : Array Bool} (h : closedB ops l = true) : Closed ops l := fun j oj hj hl e he hb => by
  have h1 := List.all_eq_true.1 h j (by simpa using (Array.getElem?_eq_some_iff.1 hj).1)
  simp only [hj, hl, Bool.not_true, Bool.false_or, Array.all_eq_true_iff_forall_mem] at h1
  have h2 := h1 e he
  simpa [hb] using h2
theorem tight_then {Q : Exit → Act → World → Prop} {K : Act → World → Prop} (h : Tight Q) : Tight (Exit.then K Q) := fun c a w hc => h c a w hc
theorem tight_blk {Q : Exit → Act → World → Prop} {i : Nat} (h : Tight Q) : Tight (Exit.inBlock i Q) := fun c a w hc => h c a w hc
theorem tight_auto {Q : Exit → Act → World → Prop} (h : Tight Q := by repeat (first | refine tight_then ?_ | refine tight_blk ?_ | exact tight_bodyT)) : Tight Q := h

section
variable {P : Program} {dl : List Deferred} {n : Nat} {σ τ : List (Nat × Value)} {k : K} {X : Act → World → Prop} {ops : Array Oper} {Q : Exit → Act → World → Prop} {l : List Oper} {o : Oper} {v : Value} {S : World → Prop} {ds done : List Nat} {i : Nat} {is : List Nat} {t : Scr}

theorem dx_first {T : World → Prop} (hi : ops[i]? = some o) (hc : takeC ops ds done i = true) (hT : (∀ w, T w) ∨ (T = S ∧ readC ops ds done i = true)) (hQ : Tight Q) {a : Act} {w : World} (hy : YieldsIf P ops T o v a) (hw : T w)
    (h : wpAnyD P ops Q S ds (ops.size - (i :: done).length) (lst ops.size (i :: done)) (a.put o.dst v) w) : wpAnyD P ops Q S ds (ops.size - done.length) (lst ops.size done) a w := by
  simp only [takeC, Bool.and_eq_true, Bool.not_eq_true'] at hc
  obtain ⟨⟨⟨⟨h1, h2⟩, h3⟩, h4⟩, h5⟩ := hc
  have h5 := Nat.le_of_ble_eq_true h5
  rw [show ops.size - done.length = (ops.size - (i :: done).length) + 1 by simp only [List.length_cons]; omega]
  refine wpAnyD_first hi (by intro hm; rw [List.contains_iff_mem.2 hm] at h4; cases h4) (Region.noSelect_spec h1) hQ _ _ a w (Region.free_spec hi h2) ?_ (by simpa using h3) hy hw (by rw [lst_set]; exact h)
  rcases hT with h | ⟨h, hr⟩
  · exact .inl h
  · simp only [readC, Bool.and_eq_true] at hr
    exact .inr ⟨h, closedB_spec hr.1.2, fun d hd => ⟨_, List.all_eq_true.1 hr.2 d hd⟩⟩

theorem dx_p {d : Nat} (h : G dl n ((d, v) :: σ) k (Dx P ops Q S ds (i :: done) (.s is t))) (hi : ops[i]? = some o := by rfl) (hd : o.dst = some d := by rfl) (hw : wants ops σ o = some true := by rfl) (hp : Pure P σ o v := by exact pu_auto) (hc : takeC ops ds done i = true := by kernel_rfl)
    (hn : Nat.ble (d + 1) n = true := by rfl) : G dl n σ k (Dx P ops Q S ds done (.s (i :: is) t)) := fun a w hs hk hQ =>
  dx_first (T := fun _ => True) hi hc (.inl fun _ => trivial) hQ (.inl ⟨wants_wanted hs.1 hw, fun w _ => hp { a with defers := [] } n hs.1 w⟩) trivial (by rw [hd]; exact h _ w (hs.put (Nat.le_of_ble_eq_true hn) v) hk hQ)
def less (ds : List Nat) (i : Nat) : List Nat := ds.filter fun j => !Nat.beq j i
theorem less_sub : ∀ d ∈ less ds i, d ∈ ds := fun d hd => (List.mem_filter.1 hd).1
theorem dx_no {d : Nat} (h : G dl n ((d, undef) :: σ) k (Dx P ops Q S (less ds i) (i :: done) (.s is t))) (hi : ops[i]? = some o := by rfl) (hd : o.dst = some d := by rfl) (hw : wants ops σ o = some false := by rfl) (hc : takeC ops (less ds i) done i = true := by kernel_rfl)
    (hn : Nat.ble (d + 1) n = true := by rfl) : G dl n σ k (Dx P ops Q S ds done (.s (i :: is) t)) := fun a w hs hk hQ =>
  wpAnyD_ds less_sub _ _ _ _ (dx_first (T := fun _ => True) (v := undef) hi hc (.inl fun _ => trivial) hQ (.inr ⟨wants_wanted hs.1 hw, rfl⟩) trivial (by rw [hd]; exact h _ w (hs.put (Nat.le_of_ble_eq_true hn) undef) hk hQ))
theorem dx_no' (h : G dl n σ k (Dx P ops Q S (less ds i) (i :: done) (.s is t))) (hi : ops[i]? = some o := by rfl) (hd : o.dst = none := by rfl) (hw : wants ops σ o = some false := by rfl) (hc : takeC ops (less ds i) done i = true := by kernel_rfl) : G dl n σ k (Dx P ops Q S ds done (.s (i :: is) t)) := fun a w hs hk hQ =>
  wpAnyD_ds less_sub _ _ _ _ (dx_first (T := fun _ => True) (v := undef) hi hc (.inl fun _ => trivial) hQ (.inr ⟨wants_wanted hs.1 hw, rfl⟩) trivial (by rw [hd]; exact h _ w hs hk hQ))
theorem dx_end (h : G dl n σ k (Dx P ops Q S ds done t)) : G dl n σ k (Dx P ops Q S ds done (.s [] t)) := h
section
variable {α : Type} {vx : α → Value} {k' : α → K} {d : Nat}
theorem dx_wp (h : ∀ x, G dl n ((d, vx x) :: σ) (k' x) (Dx P ops Q S ds (i :: done) (.s is t))) (hi : ops[i]? = some o := by rfl) (hd : o.dst = some d := by rfl) (hw : wants ops σ o = some true := by rfl) (hp : WP P σ o k vx k' := by exact wp_auto) (hc : takeC ops ds done i = true := by kernel_rfl)
    (hn : Nat.ble (d + 1) n = true := by rfl) : G dl n σ k (Dx P ops Q S ds done (.s (i :: is) t)) := fun a w hs hk hQ => by
  obtain ⟨x, hp, hk⟩ := hp w hk
  exact dx_first (T := fun _ => True) hi hc (.inl fun _ => trivial) hQ (.inl ⟨wants_wanted hs.1 hw, fun w _ => hp { a with defers := [] } n hs.1 w⟩) trivial (by rw [hd]; exact h x _ w (hs.put (Nat.le_of_ble_eq_true hn) _) hk hQ)
theorem dx_wpA (h : ∀ x, G dl n ((d, vx x) :: σ) (Al S (k' x)) (Dx P ops Q S ds (i :: done) (.s is t))) (hi : ops[i]? = some o := by rfl) (hd : o.dst = some d := by rfl) (hw : wants ops σ o = some true := by rfl) (hp : WP P σ o k vx k' := by exact wp_auto) (hc : takeC ops ds done i = true := by kernel_rfl)
    (hn : Nat.ble (d + 1) n = true := by rfl) : G dl n σ (Al S k) (Dx P ops Q S ds done (.s (i :: is) t)) := fun a w hs ⟨hS, hk⟩ hQ => by
  obtain ⟨x, hp, hk⟩ := hp w hk
  exact dx_first (T := fun _ => True) hi hc (.inl fun _ => trivial) hQ (.inl ⟨wants_wanted hs.1 hw, fun w _ => hp { a with defers := [] } n hs.1 w⟩) trivial (by rw [hd]; exact h x _ w (hs.put (Nat.le_of_ble_eq_true hn) _) ⟨hS, hk⟩ hQ)
theorem dx_r0 (h : ∀ x, G dl n ((d, vx x) :: σ) (Al S (k' x)) (Dx P ops Q S ds (i :: done) (.s is t))) (hi : ops[i]? = some o) (hd : o.dst = some d) (hw : wants ops σ o = some true) (hp : ∀ w, S w → k w → ∃ x, (∀ w, S w → Eff P σ o w (.value (vx x)) w) ∧ k' x w) (hc : readC ops ds done i = true)
    (hn : Nat.ble (d + 1) n = true) : G dl n σ (Al S k) (Dx P ops Q S ds done (.s (i :: is) t)) := fun a w hs ⟨hS, hk⟩ hQ => by
  obtain ⟨x, hp, hk⟩ := hp w hS hk
  have hc' : takeC ops ds done i = true := by simp only [readC, Bool.and_eq_true] at hc; exact hc.1.1
  exact dx_first (T := S) hi hc' (.inr ⟨rfl, hc⟩) hQ (.inl ⟨wants_wanted hs.1 hw, fun w hw => hp w hw { a with defers := [] } n hs.1⟩) hS (by rw [hd]; exact h x _ w (hs.put (Nat.le_of_ble_eq_true hn) _) ⟨hS, hk⟩ hQ)
theorem dx_is {w1 : World} (h : ∀ x, G dl n ((d, vx x) :: σ) (Al (Is w1) (k' x)) (Dx P ops Q (Is w1) ds (i :: done) (.s is t))) (hi : ops[i]? = some o := by rfl) (hd : o.dst = some d := by rfl) (hw : wants ops σ o = some true := by rfl) (hp : WR P σ o k vx k' := by exact wr_auto) (hc : readC ops ds done i = true := by kernel_rfl)
    (hn : Nat.ble (d + 1) n = true := by rfl) : G dl n σ (Al (Is w1) k) (Dx P ops Q (Is w1) ds done (.s (i :: is) t)) := dx_r0 h hi hd hw hp.is hc hn
theorem dx_S (h : ∀ x, G dl n ((d, vx x) :: σ) (Al S (k' x)) (Dx P ops Q S ds (i :: done) (.s is t))) (hi : ops[i]? = some o := by rfl) (hd : o.dst = some d := by rfl) (hw : wants ops σ o = some true := by rfl) (hp : WS P S σ o k vx k' := by exact ws_auto) (hc : readC ops ds done i = true := by kernel_rfl)
    (hn : Nat.ble (d + 1) n = true := by rfl) : G dl n σ (Al S k) (Dx P ops Q S ds done (.s (i :: is) t)) := dx_r0 h hi hd hw (fun w _ hk => hp w hk) hc hn
end
theorem dx_nil (h : G dl n σ k (Ex Q .normal)) (hc : Region.ready .any ops (lst ops.size done) = [] := by kernel_rfl) : G dl n σ k (Dx P ops Q S ds done .e) := fun a w hs hk _ => by
  show wpAnyD P ops Q S ds (ops.size - done.length) (lst ops.size done) a w
  cases ops.size - done.length with
  | zero => exact ⟨hc, h a w hs hk⟩
  | succ m => exact ⟨fun _ => h a w hs hk, by rw [hc]; simp⟩
theorem al_drop (h : G dl n σ k X) : G dl n σ (Al S k) X := fun a w hs hk => h a w hs hk.2
theorem dx_ite {b : Bool} {x y : K} {s t : Scr} (h1 : b = true → G dl n σ x (Dx P ops Q S ds done s)) (h2 : b = false → G dl n σ y (Dx P ops Q S ds done t)) : G dl n σ (Ite b x y) (Dx P ops Q S ds done (.i s t)) := fun a w hs hk => by
  cases b
  · exact h2 rfl a w hs (hk.2 rfl)
  · exact h1 rfl a w hs (hk.1 rfl)
theorem dx_iteA {b : Bool} {x y : K} {s t : Scr} (h1 : b = true → G dl n σ (Al S x) (Dx P ops Q S ds done s)) (h2 : b = false → G dl n σ (Al S y) (Dx P ops Q S ds done t)) : G dl n σ (Al S (Ite b x y)) (Dx P ops Q S ds done (.i s t)) := fun a w hs ⟨hS, hk⟩ => by
  cases b
  · exact h2 rfl a w hs ⟨hS, hk.2 rfl⟩
  · exact h1 rfl a w hs ⟨hS, hk.1 rfl⟩
theorem al_nn {p : Option Addr} {kp : Addr → K} (h : ∀ a, p = some a → G dl n σ (Al S (kp a)) X) : G dl n σ (Al S (Nn p kp)) X := fun a w hs ⟨hS, b, hb, hk⟩ => h b hb a w hs ⟨hS, hk⟩
theorem al_fv {f : Value} {kf : FuncId → Array Value → Array Value → K} (h : ∀ g fs cs, f = .func (.func g) fs cs → CB P g → G dl n σ (Al S (kf g fs cs)) X) : G dl n σ (Al S (Fv P f kf)) X := fun a w hs ⟨hS, g, fs, cs, hf, hc, hk⟩ => h g fs cs hf ⟨hc⟩ a w hs ⟨hS, hk⟩
theorem al_an1 {α : Type} {d : Nat} {u : Value} {c : α → Value} {k : α → K} (h : ∀ x, G dl n ((d, c x) :: σ) (Al S (k x)) X) : G dl n ((d, u) :: σ) (Al S (Ans1 c k u)) X := fun a w hs ⟨hS, x, hu, hk⟩ => h x a w (hu ▸ hs) ⟨hS, hk⟩
theorem al_an2 {α β : Type} {d : Nat} {u : Value} {c : α → β → Value} {k : α → β → K} (h : ∀ x y, G dl n ((d, c x y) :: σ) (Al S (k x y)) X) : G dl n ((d, u) :: σ) (Al S (Ans2 c k u)) X := fun a w hs ⟨hS, x, y, hu, hk⟩ => h x y a w (hu ▸ hs) ⟨hS, hk⟩

/-! ### whichever comes up -/
theorem dx_a {m : List (Nat × Nat × Scr)} (h : G dl n σ k (Ax P ops Q S ds done m)) (hr : Region.ready .any ops (lst ops.size done) = m.map (·.1) := by kernel_rfl) (hl : (Nat.ble (done.length + 1) ops.size && !m.isEmpty) = true := by rfl) : G dl n σ k (Dx P ops Q S ds done (.a m)) := fun a w hs hk hQ => by
  simp only [Bool.and_eq_true, Bool.not_eq_true'] at hl
  have h5 := Nat.le_of_ble_eq_true hl.1
  show wpAnyD P ops Q S ds (ops.size - done.length) (lst ops.size done) a w
  have h0 := h a w hs hk
  rw [show ops.size - done.length = (ops.size - done.length - 1) + 1 by omega]
  refine ⟨fun h0 => ?_, fun i hi => ?_⟩
  · rw [h0] at hr
    cases m with
    | nil => simp at hl
    | cons p m => simp at hr
  · rw [hr] at hi
    obtain ⟨p, hp, rfl⟩ := List.mem_map.1 hi
    have := h0 p hp hQ
    rw [lst_set]
    exact this
theorem ax_all {ks : List K} {m : List (Nat × Nat × Scr)} {i tag : Nat} {t : Scr} (h1 : G dl n σ k (Ox P ops Q S ds done i tag t)) (h2 : G dl n σ (All ks) (Ax P ops Q S ds done m)) : G dl n σ (All (k :: ks)) (Ax P ops Q S ds done ((i, tag, t) :: m)) := fun a w hs hk p hp => by
  rcases List.mem_cons.1 hp with rfl | hp
  · exact h1 a w hs (hk 0 _ rfl)
  · exact h2 a w hs (fun j x hx => hk (j + 1) x (by simpa using hx)) p hp
theorem ax_allA {ks : List K} {m : List (Nat × Nat × Scr)} {i tag : Nat} {t : Scr} (h1 : G dl n σ (Al S k) (Ox P ops Q S ds done i tag t)) (h2 : G dl n σ (Al S (All ks)) (Ax P ops Q S ds done m)) : G dl n σ (Al S (All (k :: ks))) (Ax P ops Q S ds done ((i, tag, t) :: m)) := fun a w hs ⟨hS, hk⟩ p hp => by
  rcases List.mem_cons.1 hp with rfl | hp
  · exact h1 a w hs ⟨hS, hk 0 _ rfl⟩
  · exact h2 a w hs ⟨hS, fun j x hx => hk (j + 1) x (by simpa using hx)⟩ p hp
theorem ax_nil : G dl n σ k (Ax P ops Q S ds done []) := fun _ _ _ _ _ hp => by cases hp
theorem ax_one {i tag : Nat} {t : Scr} (h1 : G dl n σ k (Ox P ops Q S ds done i tag t)) : G dl n σ k (Ax P ops Q S ds done [(i, tag, t)]) := fun a w hs hk p hp => by
  rcases List.mem_cons.1 hp with rfl | hp
  · exact h1 a w hs hk
  · cases hp

def okK (ops : Array Oper) (S : World → Prop) (ds done : List Nat) (i : Nat) : Prop := (∀ w, S w) ∨ (ds.contains i || !alive ds (lst ops.size done)) = true
theorem okK.keep (h : okK ops S ds done i) (w w' : World) : alive ds (lst ops.size done) = true → i ∉ ds → S w → S w' := fun ha hi _ => by
  rcases h with h | h
  · exact h w'
  · rw [ha] at h
    simp only [Bool.not_true, Bool.or_false] at h
    exact absurd (List.contains_iff_mem.1 h) hi
theorem okK_auto (h : okK ops S ds done i := by first | exact .inl (fun _ => trivial) | exact .inr (by kernel_rfl)) : okK ops S ds done i := h
theorem ox_run {a : Act} {w : World} (hs : SlotsD dl a n σ) (hi : ops[i]? = some o) (hw : wants ops σ o = some true) {tag : Nat} (h : Tight Q → o.wpIn Fence.wide 0 P a w (fun a' w' => (alive ds (lst ops.size done) = true → i ∉ ds → S w → S w') ∧ wpAnyD P ops Q S ds (ops.size - done.length - 1) (lst ops.size (i :: done)) a' w') Q) : Ox P ops Q S ds done i tag t a w := by
  intro hQ
  unfold opW wpOpIn
  simp only [hi, wants_wanted hs.1 hw, if_true]
  exact h hQ
theorem dn_len {m : Nat} : ops.size - done.length - 1 = ops.size - (i :: done).length := by simp only [List.length_cons]; omega
section
variable {α : Type} {vx : α → Value} {k' : α → K} {d : Nat} {k1 : K}
theorem ox_e (h : ∀ x, G dl n ((d, vx x) :: σ) (k' x) (Dx P ops Q S ds (i :: done) t)) (hi : ops[i]? = some o := by rfl) (hd : o.dst = some d := by rfl) (hw : wants ops σ o = some true := by rfl) (hp : WE P σ o k vx k' := by first | exact we_auto | exact WR.we wr_auto) (hK : okK ops S ds done i := by exact okK_auto)
    (hn : Nat.ble (d + 1) n = true := by rfl) (nd : isDef o.op = false := by rfl) : G dl n σ k (Ox P ops Q S ds done i 0 t) := fun a w hs hk => by
  obtain ⟨x, w', hp, h'⟩ := hp w hk
  refine ox_run hs hi hw fun hQ => (op_value (r := none) hs nd hp ⟨hK.keep w w', ?_⟩)
  rw [hd, dn_len (m := 0)]; exact h x _ w' (hs.put (Nat.le_of_ble_eq_true hn) _) h' hQ
theorem ox_en (h : ∀ x, G dl n σ (k' x) (Dx P ops Q S ds (i :: done) t)) (hi : ops[i]? = some o := by rfl) (hd : o.dst = none := by rfl) (hw : wants ops σ o = some true := by rfl) (hp : WE P σ o k vx k' := by exact we_auto) (hK : okK ops S ds done i := by exact okK_auto)
    (nd : isDef o.op = false := by rfl) : G dl n σ k (Ox P ops Q S ds done i 0 t) := fun a w hs hk => by
  obtain ⟨x, w', hp, h'⟩ := hp w hk
  refine ox_run hs hi hw fun hQ => (op_value (r := none) hs nd hp ⟨hK.keep w w', ?_⟩)
  rw [hd, dn_len (m := 0)]; exact h x _ w' hs h' hQ
theorem ox_k (h : G dl n σ k1 (Dx P ops Q S ds (i :: done) t)) (hi : ops[i]? = some o := by rfl) (hd : o.dst = none := by rfl) (hw : wants ops σ o = some true := by rfl) (hp : WK P σ o k k1 := by exact wk_auto) (hK : okK ops S ds done i := by exact okK_auto)
    (nd : isDef o.op = false := by rfl) : G dl n σ k (Ox P ops Q S ds done i 0 t) := fun a w hs hk => by
  obtain ⟨w', hp, h'⟩ := hp w hk
  refine ox_run hs hi hw fun hQ => (op_skip (r := none) hs nd hp ⟨hK.keep w w', ?_⟩)
  rw [hd, dn_len (m := 0)]; exact h _ w' hs h' hQ
theorem ox_c {kk : Value → K} (h : ∀ u, G dl n ((d, u) :: σ) (kk u) (Dx P ops Q S ds (i :: done) t)) (hi : ops[i]? = some o := by rfl) (hd : o.dst = some d := by rfl) (hw : wants ops σ o = some true := by rfl) (hp : WC P σ o k kk := by exact wc_auto) (hK : okK ops S ds done i := by exact okK_auto)
    (hn : Nat.ble (d + 1) n = true := by rfl) (nd : isDef o.op = false := by rfl) : G dl n σ k (Ox P ops Q S ds done i 0 t) := fun a w hs hk => by
  obtain ⟨f, args, w', hp, hc⟩ := hp w hk
  refine ox_run hs hi hw fun hQ => (op_call (r := none) hs nd hp hc fun v w1 h' => ⟨hK.keep w w1, ?_⟩)
  rw [hd, dn_len (m := 0)]; exact h v _ w1 (hs.put (Nat.le_of_ble_eq_true hn) _) h' hQ
theorem ox_cn {kk : Value → K} (h : ∀ u, G dl n σ (kk u) (Dx P ops Q S ds (i :: done) t)) (hi : ops[i]? = some o := by rfl) (hd : o.dst = none := by rfl) (hw : wants ops σ o = some true := by rfl) (hp : WC P σ o k kk := by exact wc_auto) (hK : okK ops S ds done i := by exact okK_auto)
    (nd : isDef o.op = false := by rfl) : G dl n σ k (Ox P ops Q S ds done i 0 t) := fun a w hs hk => by
  obtain ⟨f, args, w', hp, hc⟩ := hp w hk
  refine ox_run hs hi hw fun hQ => (op_call (r := none) hs nd hp hc fun v w1 h' => ⟨hK.keep w w1, ?_⟩)
  rw [hd, dn_len (m := 0)]; exact h v _ w1 hs h' hQ
theorem ox_y {kk : Value → K} (h : ∀ u, G dl n ((d, u) :: σ) (kk u) (Dx P ops Q S ds (i :: done) t)) (hi : ops[i]? = some o := by rfl) (hd : o.dst = some d := by rfl) (hw : wants ops σ o = some true := by rfl) (hp : WY P σ o k kk := by exact wy_y rfl rfl rfl) (hK : okK ops S ds done i := by exact okK_auto)
    (hn : Nat.ble (d + 1) n = true := by rfl) (nd : isDef o.op = false := by rfl) : G dl n σ k (Ox P ops Q S ds done i 0 t) := fun a w hs hk => by
  obtain ⟨y, args, hp, hc⟩ := hp w hk
  refine ox_run hs hi hw fun hQ => (op_yield hs nd hp hc fun v w1 h' => ⟨hK.keep w w1, ?_⟩)
  rw [hd, dn_len (m := 0)]; exact h v _ w1 (hs.put (Nat.le_of_ble_eq_true hn) _) h' hQ
-- S holds behind it
theorem ox_e1 (h : ∀ x, G dl n ((d, vx x) :: σ) (Al S (k' x)) (Dx P ops Q S ds (i :: done) t)) (hi : ops[i]? = some o := by rfl) (hd : o.dst = some d := by rfl) (hw : wants ops σ o = some true := by rfl) (hp : WE P σ o k vx (fun x => Sv S (k' x)) := by exact we_auto)
    (hn : Nat.ble (d + 1) n = true := by rfl) (nd : isDef o.op = false := by rfl) : G dl n σ (Al S k) (Ox P ops Q S ds done i 1 t) := fun a w hs ⟨_, hk⟩ => by
  obtain ⟨x, w', hp, hS, h'⟩ := hp w hk
  refine ox_run hs hi hw fun hQ => (op_value (r := none) hs nd hp ⟨fun _ _ _ => hS, ?_⟩)
  rw [hd, dn_len (m := 0)]; exact h x _ w' (hs.put (Nat.le_of_ble_eq_true hn) _) ⟨hS, h'⟩ hQ
theorem ox_en1 (h : ∀ x, G dl n σ (Al S (k' x)) (Dx P ops Q S ds (i :: done) t)) (hi : ops[i]? = some o := by rfl) (hd : o.dst = none := by rfl) (hw : wants ops σ o = some true := by rfl) (hp : WE P σ o k vx (fun x => Sv S (k' x)) := by exact we_auto)
    (nd : isDef o.op = false := by rfl) : G dl n σ (Al S k) (Ox P ops Q S ds done i 1 t) := fun a w hs ⟨_, hk⟩ => by
  obtain ⟨x, w', hp, hS, h'⟩ := hp w hk
  refine ox_run hs hi hw fun hQ => (op_value (r := none) hs nd hp ⟨fun _ _ _ => hS, ?_⟩)
  rw [hd, dn_len (m := 0)]; exact h x _ w' hs ⟨hS, h'⟩ hQ
theorem ox_k1 (h : G dl n σ (Al S k1) (Dx P ops Q S ds (i :: done) t)) (hi : ops[i]? = some o := by rfl) (hd : o.dst = none := by rfl) (hw : wants ops σ o = some true := by rfl) (hp : WK P σ o k (Sv S k1) := by exact wk_auto)
    (nd : isDef o.op = false := by rfl) : G dl n σ (Al S k) (Ox P ops Q S ds done i 1 t) := fun a w hs ⟨_, hk⟩ => by
  obtain ⟨w', hp, hS, h'⟩ := hp w hk
  refine ox_run hs hi hw fun hQ => (op_skip (r := none) hs nd hp ⟨fun _ _ _ => hS, ?_⟩)
  rw [hd, dn_len (m := 0)]; exact h _ w' hs ⟨hS, h'⟩ hQ
/-- An answer, with S. -/
def SvA (S : World → Prop) (kk : Value → K) (kS : Value → K) : Prop := ∀ u w, kk u w → S w ∧ kS u w
theorem sva_0 {v0 : Value} {k : K} : SvA S (Ans0 v0 (Sv S k)) (Ans0 v0 k) := fun _ _ ⟨h, hS, hk⟩ => ⟨hS, h, hk⟩
theorem sva_1 {α : Type} {c : α → Value} {k : α → K} : SvA S (Ans1 c fun x => Sv S (k x)) (Ans1 c k) := fun _ _ ⟨x, h, hS, hk⟩ => ⟨hS, x, h, hk⟩
theorem sva_2 {α β : Type} {c : α → β → Value} {k : α → β → K} : SvA S (Ans2 c fun x y => Sv S (k x y)) (Ans2 c k) := fun _ _ ⟨x, y, h, hS, hk⟩ => ⟨hS, x, y, h, hk⟩
theorem sva_3 {α β γ : Type} {c : α → β → γ → Value} {k : α → β → γ → K} : SvA S (Ans3 c fun x y z => Sv S (k x y z)) (Ans3 c k) := fun _ _ ⟨x, y, z, h, hS, hk⟩ => ⟨hS, x, y, z, h, hk⟩
theorem ox_c1 {kk kS : Value → K} (h : ∀ u, G dl n ((d, u) :: σ) (Al S (kS u)) (Dx P ops Q S ds (i :: done) t)) (hi : ops[i]? = some o := by rfl) (hd : o.dst = some d := by rfl) (hw : wants ops σ o = some true := by rfl) (hp : WC P σ o k kk := by exact wc_auto)
    (hS : SvA S kk kS := by first | exact sva_1 | exact sva_0 | exact sva_2 | exact sva_3) (hn : Nat.ble (d + 1) n = true := by rfl) (nd : isDef o.op = false := by rfl) : G dl n σ (Al S k) (Ox P ops Q S ds done i 1 t) := fun a w hs ⟨_, hk⟩ => by
  obtain ⟨f, args, w', hp, hc⟩ := hp w hk
  refine ox_run hs hi hw fun hQ => (op_call (r := none) hs nd hp hc fun v w1 h' => ⟨fun _ _ _ => (hS v w1 h').1, ?_⟩)
  rw [hd, dn_len (m := 0)]; exact h v _ w1 (hs.put (Nat.le_of_ble_eq_true hn) _) (hS v w1 h') hQ
-- it reads
theorem ox_r2 (h : ∀ x, G dl n ((d, vx x) :: σ) (k' x) (Dx P ops Q S ds (i :: done) t)) (hi : ops[i]? = some o := by rfl) (hd : o.dst = some d := by rfl) (hw : wants ops σ o = some true := by rfl) (hp : WR P σ o k vx k' := by exact wr_auto)
    (hn : Nat.ble (d + 1) n = true := by rfl) (nd : isDef o.op = false := by rfl) : G dl n σ k (Ox P ops Q S ds done i 2 t) := fun a w hs hk => by
  obtain ⟨x, hp, h'⟩ := hp w hk
  refine ox_run hs hi hw fun hQ => (op_value (r := none) hs nd hp ⟨fun _ _ h => h, ?_⟩)
  rw [hd, dn_len (m := 0)]; exact h x _ w (hs.put (Nat.le_of_ble_eq_true hn) _) h' hQ
theorem ox_r2A (h : ∀ x, G dl n ((d, vx x) :: σ) (Al S (k' x)) (Dx P ops Q S ds (i :: done) t)) (hi : ops[i]? = some o := by rfl) (hd : o.dst = some d := by rfl) (hw : wants ops σ o = some true := by rfl) (hp : WR P σ o k vx k' := by exact wr_auto)
    (hn : Nat.ble (d + 1) n = true := by rfl) (nd : isDef o.op = false := by rfl) : G dl n σ (Al S k) (Ox P ops Q S ds done i 2 t) := fun a w hs ⟨hS, hk⟩ => by
  obtain ⟨x, hp, h'⟩ := hp w hk
  refine ox_run hs hi hw fun hQ => (op_value (r := none) hs nd hp ⟨fun _ _ h => h, ?_⟩)
  rw [hd, dn_len (m := 0)]; exact h x _ w (hs.put (Nat.le_of_ble_eq_true hn) _) ⟨hS, h'⟩ hQ
end

/-! ### a drawn region's beginning -/
variable {k0 : K} {id : Nat}
theorem cx_draw0 (h : G dl n σ k0 (Dx P l.toArray Q Any ds [] t)) (hh : DH id 0 ds t := by assumption) (hQ : Tight Q := by exact tight_auto) [hm : MX P] : G dl n σ (Dr k0) (Cx none P (.region id l.toArray true) Q) := fun a w hs ⟨w1, hw, hk⟩ => by
  subst hw
  have h1 := h a _ hs hk hQ
  refine wpIn_region_any hm.h (wpAnyIn_of_D (S := Any) (ds := ds) _ _ _ _ ?_)
  rw [lst_nil]; exact h1
theorem cx_draw1 (h : ∀ w1, G dl n σ (Al (Is w1) k0) (Dx P l.toArray Q (Is w1) ds [] t)) (hh : DH id 1 ds t := by assumption) (hQ : Tight Q := by exact tight_auto) [hm : MX P] : G dl n σ (Dr k0) (Cx none P (.region id l.toArray true) Q) := fun a w hs ⟨w1, hw, hk⟩ => by
  subst hw
  have h1 := h _ a _ hs ⟨Is.intro _, hk⟩ hQ
  refine wpIn_region_any hm.h (wpAnyIn_of_D (S := Is { w with drawn := w.drawn + 1 }) (ds := ds) _ _ _ _ ?_)
  rw [lst_nil]; exact h1
theorem cx_draw2 {kS : (World → Prop) → K} (h : ∀ S, G dl n σ (Al S (kS S)) (Dx P l.toArray Q S ds [] t)) (hh : DH id 2 ds t := by assumption) (hQ : Tight Q := by exact tight_auto) [hm : MX P] : G dl n σ (Dr (WithS kS)) (Cx none P (.region id l.toArray true) Q) := fun a w hs ⟨w1, hw, S, hS, hk⟩ => by
  subst hw
  have h1 := h S a _ hs ⟨hS, hk⟩ hQ
  refine wpIn_region_any hm.h (wpAnyIn_of_D (S := S) (ds := ds) _ _ _ _ ?_)
  rw [lst_nil]; exact h1

/-! ### a drawn region that only reads -/
/-- The order of the text, in the world w. -/
def Sx (P : Program) (ops : Array Oper) (Q : Exit → Act → World → Prop) (l : List Oper) : Act → World → Prop := fun a w => wpStill P ops w (fun a' => Q .normal a' w) l a
theorem cx_still (h : G [] n σ k0 (Sx P l.toArray Q l)) [hm : MX P] (hB : Region.lexB .any l.toArray = true := by kernel_rfl) : G [] n σ (Dr k0) (Cx none P (.region id l.toArray true) Q) := fun a w hs ⟨w1, hw, hk⟩ => by
  refine wpIn_wide.2 (s_start hm.h hB hw (h a w1 hs hk))
theorem sx_p {d : Nat} (h : G [] n ((d, v) :: σ) k (Sx P ops Q l)) (hd : o.dst = some d := by rfl) (hw : wants ops σ o = some true := by rfl) (hp : Pure P σ o v := by exact pu_auto) (hn : Nat.ble (d + 1) n = true := by rfl) : G [] n σ k (Sx P ops Q (o :: l)) := fun a w hs hk =>
  s_yes hs.nil hw (s_pure hs.nil rfl hd (Nat.le_of_ble_eq_true hn) hp fun a h' => h a w h'.D hk)
theorem sx_no {d : Nat} (h : G [] n ((d, undef) :: σ) k (Sx P ops Q l)) (hd : o.dst = some d := by rfl) (hw : wants ops σ o = some false := by rfl) (hn : Nat.ble (d + 1) n = true := by rfl) : G [] n σ k (Sx P ops Q (o :: l)) := fun a w hs hk =>
  s_no hs.nil hw hd (Nat.le_of_ble_eq_true hn) fun a h' => h a w h'.D hk
section
variable {α : Type} {vx : α → Value} {k' : α → K} {d : Nat}
theorem sx_r0 (hr : WR P σ o k vx k') (h : ∀ x, G [] n ((d, vx x) :: σ) (k' x) (Sx P ops Q l)) (hd : o.dst = some d) (hw : wants ops σ o = some true) (hn : Nat.ble (d + 1) n = true) : G [] n σ k (Sx P ops Q (o :: l)) := fun a w hs hk => by
  obtain ⟨x, hp, h'⟩ := hr w hk
  exact s_yes hs.nil hw (s_eff hs.nil rfl hd (Nat.le_of_ble_eq_true hn) hp fun a hs' => h x a w hs'.D h')
theorem sx_wp (h : ∀ x, G [] n ((d, vx x) :: σ) (k' x) (Sx P ops Q l)) (hd : o.dst = some d := by rfl) (hw : wants ops σ o = some true := by rfl) (hp : WP P σ o k vx k' := by exact wp_auto) (hn : Nat.ble (d + 1) n = true := by rfl) : G [] n σ k (Sx P ops Q (o :: l)) := sx_r0 hp.wr h hd hw hn
theorem sx_wr (h : ∀ x, G [] n ((d, vx x) :: σ) (k' x) (Sx P ops Q l)) (hd : o.dst = some d := by rfl) (hw : wants ops σ o = some true := by rfl) (hp : WR P σ o k vx k' := by exact wr_auto) (hn : Nat.ble (d + 1) n = true := by rfl) : G [] n σ k (Sx P ops Q (o :: l)) := sx_r0 hp h hd hw hn
end
theorem sx_ite {b : Bool} {x y : K} (h1 : b = true → G dl n σ x (Sx P ops Q (o :: l))) (h2 : b = false → G dl n σ y (Sx P ops Q (o :: l))) (hg : gslot ops σ o = some (.bool b) := by rfl) : G dl n σ (Ite b x y) (Sx P ops Q (o :: l)) := fun a w hs hk => by
  cases b
  · exact h2 rfl a w hs (hk.2 rfl)
  · exact h1 rfl a w hs (hk.1 rfl)
theorem sx_nil (h : G [] n σ k (Ex Q .normal)) : G [] n σ k (Sx P ops Q []) := fun a w hs hk => h a w hs hk
end
end Go.Sep
/- Ranges over a function, in a walk: of some variables, left by a jump or not. Holds for every program. -/
namespace Go.Sep
open Go
set_option linter.unusedSimpArgs false
set_option linter.unusedVariables false

def jumpC : Exit → Code
  | .exit i => .exit i
  | _ => .ret
/-- A round begins. -/
def BeginR (l : Nat) (r : Loop) (k : K) : K := fun w => w.heap[l]? = some (.loop r) ∧ k (w.putObj l (.loop { r with state := .busy }))
/-- A round is left by a jump. -/
def StopR (l : Nat) (r : Loop) (J : Exit) (k : K) : K := fun w => w.heap[l]? = some (.loop r) ∧ k (w.putObj l (.loop { r with state := .done, pending := some (jumpC J) }))
def YN (kN kJ : K) : Value → K := fun v w => (v = .bool true ∧ kN w) ∨ (v = .bool false ∧ kJ w)
def RangeJ {α : Type} (P : Program) (fv : Value) (J : Exit) (cX : α → List Value) (body : (K → K) → K → K → α → K) (after afterJ : Nat → K) : K := fun w =>
  ∃ g cs, fv = .func (.func g) #[] cs ∧ callable P g = true ∧
    ∀ (r : Loop) (w1 : World), r.state = .ready → r.pending = none → r.defers = w.heap.size → w1 = (w.alloc (.deferred (some []))).alloc (.loop r) →
      (∀ (x : α) (kN kJ : K) (W : World), W.heap[w.heap.size + 1]? = some (.loop r) →
        body (BeginR (w.heap.size + 1) r) (EndR (w.heap.size + 1) { r with state := .busy } kN) (StopR (w.heap.size + 1) { r with state := .busy } J kJ) x W →
        YieldAt Fence.wide 0 P (w.heap.size + 1) (cX x).toArray W (Ret (YN kN kJ))) →
      Calls P g (yv (w.heap.size + 1) :: cs.toList).toArray w1 (Ret fun _ w3 =>
        (w3.heap[w.heap.size + 1]? = some (.loop r) ∧ after w.heap.size (w3.putObj (w.heap.size + 1) (.loop { r with state := .exhausted }))) ∨
        (w3.heap[w.heap.size + 1]? = some (.loop { r with state := .done, pending := some (jumpC J) }) ∧ afterJ w.heap.size (w3.putObj (w.heap.size + 1) (.loop { r with state := .exhausted, pending := some (jumpC J) }))))

def FQ : Exit → Act → World → Prop := fun _ _ _ => False
/-- How a round's body is left. -/
def RQ (J : Exit) (kN kJ : K) : Exit → Act → World → Prop := fun e _ w => match e with
  | .normal => kN w
  | .ret => J = .ret ∧ kJ w
  | .exit i => J = .exit i ∧ kJ w
  | _ => False
def Bx (kb k : K) (r : Option Nat) (P : Program) (body : Code) (Q : Exit → Act → World → Prop) : Act → World → Prop := fun a w => k w ∧ ∀ w, kb w → body.wpIn (fe r) 0 P Q a w
def Bj (BG : K → K) (r : Option Nat) (P : Program) (body : Code) (Q : Exit → Act → World → Prop) : Act → World → Prop := fun a w => ∃ k, BG k w ∧ ∀ w, k w → body.wpIn (fe r) 0 P Q a w
def zipS : List Nat → List Value → List (Nat × Value) → List (Nat × Value)
  | p :: ps, v :: vs, σ => zipS ps vs ((p, v) :: σ)
  | _, _, σ => σ

section
variable {P : Program} {dl : List Deferred} {n : Nat} {σ τ : List (Nat × Value)} {k kb : K} {r : Option Nat} {Q : Exit → Act → World → Prop} {body assign : Code} {a : Act} {w : World}
theorem bx_b (h : G dl n σ kb (Cx r P body Q)) : G dl n σ k (Bx kb k r P body Q) := fun a _ hs hk => ⟨hk, fun w hk => h a w hs hk⟩
theorem bj_b {BG : K → K} (h : G dl n σ k (Cx r P body Q)) : G dl n σ (BG k) (Bj BG r P body Q) := fun a w hs hk => ⟨k, hk, fun w hk => h a w hs hk⟩
theorem rq_n {J : Exit} {kJ : K} : G dl n σ k (Ex (RQ J k kJ) .normal) := fun _ _ _ hk => hk
theorem rq_r {kN : K} : G dl n σ k (Ex (RQ .ret kN k) .ret) := fun _ _ _ hk => ⟨rfl, hk⟩
theorem rq_x {kN : K} {i : Nat} : G dl n σ k (Ex (RQ (.exit i) kN k) (.exit i)) := fun _ _ _ hk => ⟨rfl, hk⟩

theorem zip_slots : ∀ (ps : List Nat) (vs : List Value) (σ : List (Nat × Value)) (t : Array Value), (ps.all fun p => Nat.ble (p + 1) n) = true → Slots { tmps := t, defers := [] } n σ →
    Slots { tmps := (ps.zip vs).foldl (fun t p => t.setIfInBounds p.1 p.2) t, defers := [] } n (zipS ps vs σ)
  | [], _, _, _, _, h => h
  | p :: ps, [], _, _, _, h => h
  | p :: ps, v :: vs, σ, t, hp, h => by
    simp only [List.all_cons, Bool.and_eq_true] at hp
    have h1 := h.put (Nat.le_of_ble_eq_true hp.1) v
    exact zip_slots ps vs _ _ hp.2 h1

theorem cx_rangeJ {α : Type} {g : Operand} {ps : List Tmp} {fv : Value} {J : Exit} {cX : α → List Value} {bk : (K → K) → K → K → α → K} {after afterJ : Nat → K}
    (h1 : ∀ (l : Nat) (BG : K → K) (KN KJ : K) (x : α), G [] n (zipS ps (cX x) σ) (bk BG KN KJ x) (Cx (some l) P assign (Exit.then (Bj BG (some l) P body (RQ J KN KJ)) FQ)))
    (h2 : ∀ D, G (markD D) n σ (after D) (Ex Q .normal)) (h3 : ∀ D, G (markD D) n σ (afterJ D) (Ex Q J)) (hg : ev σ g = some fv := by rfl) (hp : (ps.all fun p => Nat.ble (p + 1) n) = true := by rfl) (hlen : ∀ x, (cX x).length = ps.length := by exact fun _ => rfl) (hJ : J = .ret ∨ ∃ i, J = .exit i := by first | exact .inl rfl | exact .inr ⟨_, rfl⟩) :
    G [] n σ (RangeJ P fv J cX bk after afterJ) (Cx none P (.rangeFunc g ps.toArray assign body) Q) := fun a w hs ⟨gf, cs, hfv, hcb, h⟩ => by
  show (Code.rangeFunc g ps.toArray assign body).wpIn Fence.wide 0 P Q a w
  refine wpIn_rangeFunc fun fn hfn => ?_
  obtain ⟨r, hr⟩ : ∃ r : Loop, r = { state := .ready, pending := none, fn, tmps := a.tmps, params := ps.toArray, assign, body, defers := w.heap.size } := ⟨_, rfl⟩
  have hh := h r _ (by rw [hr]) (by rw [hr]) (by rw [hr]) rfl
  refine ⟨w.heap.size + 1, markD w.heap.size, (w.alloc (.deferred (some []))).alloc (.loop r), { target := .fn (.func gf) cs, args := #[.func (.yield (w.heap.size + 1)) #[] #[]] }, (w.alloc (.deferred (some []))).alloc (.loop r), gf,
    (yv (w.heap.size + 1) :: cs.toList).toArray, (w.alloc (.deferred (some []))).alloc (.loop r), ?_, ?_, fun _ _ => trivial, ?_, (fun h => by cases h), ?_⟩
  · rw [hr]; exact run_enterLoop_outer _ _ _ _ _
  · have he : a.eval g = .func (.func gf) #[] cs := by rw [← hfv]; exact hs.1.ev hg
    simp only [resolve, he]
    simp [go_sem]
  · simp [invoke, run_callFunc hcb]
  · refine callsIn_free free_wide rfl ((hh ?_).mono fun e w3 he => ?_)
    · intro x kN kJ W hl hb
      refine ⟨fn, _, assign, body, (run_yield (P := P) (args := (cX x).toArray) hl (by rw [hr]; simp [hlen])).trans (by rw [hr]), ?_⟩
      refine roundIn_of_wpIn trivial ?_
      have hs1 := zip_slots ps (cX x) σ a.tmps hp (show Slots { tmps := a.tmps, defers := [] } n σ from by have := hs.1; exact this)
      have h4 := h1 (w.heap.size + 1) _ _ _ x { tmps := (ps.zip (cX x)).foldl (fun t p => t.setIfInBounds p.1 p.2) a.tmps, defers := [] } W ⟨hs1, rfl⟩ hb
      have h5 : assign.wpIn (Fence.wide.inRound (w.heap.size + 1)) 0 P (Exit.then (Bj (BeginR (w.heap.size + 1) r) (some (w.heap.size + 1)) P body (RQ J (EndR (w.heap.size + 1) { r with state := .busy } kN) (StopR (w.heap.size + 1) { r with state := .busy } J kJ))) FQ)
          { tmps := (ps.toArray.zip (cX x).toArray).foldl (fun t p => t.setIfInBounds p.1 p.2) a.tmps, defers := [] } W := by
        have : (ps.toArray.zip (cX x).toArray).foldl (fun t p => t.setIfInBounds p.1 p.2) a.tmps = (ps.zip (cX x)).foldl (fun t p => t.setIfInBounds p.1 p.2) a.tmps := by simp
        rw [this]; exact h4
      refine wpIn_mono h5 fun e a2 w2 hq => ?_
      cases e with
      | normal =>
        obtain ⟨kk, hk, hbd⟩ := hq
        refine ⟨_, run_beginRound hk.1 (by rw [hr]), ?_⟩
        refine wpIn_mono (hbd _ hk.2) fun e a3 w3 hq => ?_
        cases e with
        | normal =>
          obtain ⟨h3, h4⟩ := hq
          exact ⟨_, _, run_endRound none h3, .inl ⟨rfl, h4⟩⟩
        | ret =>
          obtain ⟨rfl, h3, h4⟩ := hq
          exact ⟨_, _, run_endRound (some .ret) h3, .inr ⟨rfl, h4⟩⟩
        | exit i =>
          obtain ⟨rfl, h3, h4⟩ := hq
          exact ⟨_, _, run_endRound (some (.exit i)) h3, .inr ⟨rfl, h4⟩⟩
        | goto t => exact hq.elim
        | panic c => exact hq.elim
        | outgrown => exact hq.elim
      | _ => exact hq.elim
    · cases e with
      | returned v =>
        have hn : r.pending = none := by rw [hr]
        rcases he with ⟨h3', h4⟩ | ⟨h3', h4⟩
        · refine ⟨_, _, run_endLoop h3' (by rw [hr]; simp), ?_⟩
          have h5 := h2 _ { a with defers := markD w.heap.size ++ a.defers } _ ⟨hs.1, by simp [hs.2, markD]⟩ h4
          rw [hn] at h5 ⊢
          exact h5
        · refine ⟨_, _, run_endLoop h3' (by simp), ?_⟩
          have h5 := h3 _ { a with defers := markD w.heap.size ++ a.defers } _ ⟨hs.1, by simp [hs.2, markD]⟩ h4
          rcases hJ with rfl | ⟨i, rfl⟩
          · exact wpIn_ret h5
          · exact wpIn_exit h5
      | panicked c => exact he.elim
      | outgrown => exact he.elim

theorem cx_rangeF {α : Type} {g : Operand} {p : Tmp} {fv : Value} {cX : α → Value} {bk : K → α → K} {after : Nat → K}
    (h1 : ∀ (l : Nat) (KN : K) (x : α) (k1 : K), G [] n ((p, cX x) :: σ) k1 (Cx (some l) P assign (Exit.then (Bx (bk KN x) k1 (some l) P body (RQ .normal KN Dead)) FQ)))
    (h2 : ∀ D, G (markD D) n σ (after D) (Ex Q .normal)) (hg : ev σ g = some fv := by rfl) (hp : Nat.ble (p + 1) n = true := by rfl) :
    G [] n σ (RangeF P fv cX bk after) (Cx none P (.rangeFunc g #[p] assign body) Q) := fun a w hs ⟨gf, cs, hfv, hcb, h⟩ => by
  show (Code.rangeFunc g #[p] assign body).wpIn Fence.wide 0 P Q a w
  refine wpIn_rangeFunc fun fn hfn => ?_
  obtain ⟨r, hr⟩ : ∃ r : Loop, r = { state := .ready, pending := none, fn, tmps := a.tmps, params := #[p], assign, body, defers := w.heap.size } := ⟨_, rfl⟩
  have hh := h r _ (by rw [hr]) (by rw [hr]) (by rw [hr]) rfl
  refine ⟨w.heap.size + 1, markD w.heap.size, (w.alloc (.deferred (some []))).alloc (.loop r), { target := .fn (.func gf) cs, args := #[.func (.yield (w.heap.size + 1)) #[] #[]] }, (w.alloc (.deferred (some []))).alloc (.loop r), gf,
    (yv (w.heap.size + 1) :: cs.toList).toArray, (w.alloc (.deferred (some []))).alloc (.loop r), ?_, ?_, fun _ _ => trivial, ?_, (fun h => by cases h), ?_⟩
  · rw [hr]; exact run_enterLoop_outer _ _ _ _ _
  · have he : a.eval g = .func (.func gf) #[] cs := by rw [← hfv]; exact hs.1.ev hg
    simp only [resolve, he]
    simp [go_sem]
  · simp [invoke, run_callFunc hcb]
  · refine callsIn_free free_wide rfl ((hh ?_).mono fun e w3 he => ?_)
    · intro x kN W hl hb
      refine ⟨fn, _, assign, body, (run_yield (P := P) (args := #[cX x]) hl (by rw [hr]; rfl)).trans (by rw [hr]), ?_⟩
      refine roundIn_of_wpIn trivial ?_
      have hs1 : SlotsD [] { tmps := a.tmps.setIfInBounds p (cX x), defers := [] } n ((p, cX x) :: σ) := by
        have := hs.1.put (Nat.le_of_ble_eq_true hp) (cX x)
        exact ⟨this, rfl⟩
      have h4 := h1 (w.heap.size + 1) (EndR (w.heap.size + 1) { r with state := .busy } kN) x (fun w => w = W) _ W hs1 rfl
      refine wpIn_mono (show assign.wpIn (Fence.wide.inRound (w.heap.size + 1)) 0 P _ _ W from by simp only [Cx] at h4; simpa using h4) fun e a2 w2 hq => ?_
      cases e with
      | normal =>
        obtain ⟨rfl, hbd⟩ := hq
        refine ⟨_, run_beginRound hl (by rw [hr]), ?_⟩
        refine wpIn_mono (hbd _ hb) fun e a3 w3 hq => ?_
        cases e with
        | normal =>
          obtain ⟨h3, h4⟩ := hq
          exact ⟨_, _, run_endRound none h3, rfl, h4⟩
        | ret => exact absurd hq.1 (by simp)
        | exit i => exact absurd hq.1 (by simp)
        | _ => exact hq.elim
      | _ => exact hq.elim
    · cases e with
      | returned v =>
        have hn : r.pending = none := by rw [hr]
        obtain ⟨h3, h4⟩ := he
        refine ⟨_, _, run_endLoop h3 (by rw [hr]; simp), ?_⟩
        have h5 := h2 _ { a with defers := markD w.heap.size ++ a.defers } _ ⟨hs.1, by simp [hs.2, markD]⟩ h4
        rw [hn] at h5 ⊢
        exact h5
      | panicked c => exact he.elim
      | outgrown => exact he.elim
end
end Go.Sep
/- The whole walk of a function, by the kinds of its operations. Holds for every program. -/
namespace Go.Sep
open Go
set_option linter.unusedVariables false
def opb : Builtin → Nat
  | .len => 20
  | .max | .min => 21
  | _ => 22
def opc : Op → Nat
  | .move _ | .assign _ => 0
  | .pick _ _ _ => 1
  | .nilCheck _ => 2
  | .fieldAddr _ _ _ => 3
  | .extract _ _ => 4
  | .makeFunc _ _ _ => 5
  | .unOp o _ _ => match o with
    | .not => 6
    | _ => 7
  | .binOp o _ _ _ _ => match o with
    | .add | .sub | .mul | .and | .or | .xor => 8
    | .shl | .shr | .quo | .rem | .andNot => 9
    | _ => 10
  | .convert _ _ _ => 11
  | .build _ _ => 12
  | .load _ _ => 13
  | .lookup _ _ _ _ => 14
  | .alloc _ | .box _ _ => 15
  | .buildSlice _ _ _ => 16
  | .store _ _ _ => 17
  | .mapUpdate _ _ _ _ => 18
  | .call c => match c.callee with
    | .builtin b => opb b
    | _ => 19
  | .makeMap _ _ | .makeSlice _ _ _ => 23
  | .range _ _ | .next _ _ | .entry _ => 24
  | .makeInterface _ _ => 25
  | .field _ _ _ => 26
  | .index _ _ _ | .indexAddr _ _ _ => 27
  | .slice _ _ _ _ _ => 28
  | _ => 99
def opi (ops : Array Oper) (i : Nat) : Nat := match ops[i]? with
  | some o => opc o.op
  | none => 98
section
variable {P : Program} {dl : List Deferred} {n : Nat} {σ : List (Nat × Value)} {k : K} {r : Option Nat} {ops : Array Oper} {Q : Exit → Act → World → Prop} {l : List Oper} {o : Oper} {S : World → Prop} {ds done is : List Nat} {i tag : Nat} {t : Scr} {c x y : Code} {e : Exit} {kk : Value → K} {u : Operand}
theorem is_tx (h : G dl n σ k (Tx r P ops Q l)) : G dl n σ k (Tx r P ops Q l) := h
theorem is_cx (h : G dl n σ k (Cx r P c Q)) : G dl n σ k (Cx r P c Q) := h
theorem is_ex (h : G dl n σ k (Ex Q e)) : G dl n σ k (Ex Q e) := h
theorem is_rx {rs : List ResultVar} {vs : List Value} (h : G dl n σ k (Rx P kk rs vs)) : G dl n σ k (Rx P kk rs vs) := h
theorem is_fx {q : K} (h : G dl n σ k (Fx q)) : G dl n σ k (Fx q) := h
theorem is_dx (h : G dl n σ k (Dx P ops Q S ds done t)) : G dl n σ k (Dx P ops Q S ds done t) := h
theorem is_ox (h : G dl n σ k (Ox P ops Q S ds done i tag t)) : G dl n σ k (Ox P ops Q S ds done i tag t) := h
theorem is_sx (h : G dl n σ k (Sx P ops Q l)) : G dl n σ k (Sx P ops Q l) := h
theorem is_lx {α : Type} {S : α → List (Nat × Value)} {X : α → K} (h : G dl n σ k (Lx dl n S X)) : G dl n σ k (Lx dl n S X) := h
theorem is_seq (h : G dl n σ k (Cx r P (.seq x y) Q)) : G dl n σ k (Cx r P (.seq x y) Q) := h
theorem is_cond (h : G dl n σ k (Cx r P (.cond u x y) Q)) : G dl n σ k (Cx r P (.cond u x y) Q) := h
theorem is_draw (h : G dl n σ k (Cx r P (.region i ops true) Q)) : G dl n σ k (Cx r P (.region i ops true) Q) := h
theorem is_t (c : Nat) (h : G dl n σ k (Tx r P ops Q (o :: l))) (hc : opc o.op = c) : G dl n σ k (Tx r P ops Q (o :: l)) := h
theorem is_s (c : Nat) (h : G dl n σ k (Sx P ops Q (o :: l))) (hc : opc o.op = c) : G dl n σ k (Sx P ops Q (o :: l)) := h
theorem is_d (c : Nat) (h : G dl n σ k (Dx P ops Q S ds done (.s (i :: is) t))) (hc : opi ops i = c) : G dl n σ k (Dx P ops Q S ds done (.s (i :: is) t)) := h
theorem is_o (c : Nat) (h : G dl n σ k (Ox P ops Q S ds done i tag t)) (hc : opi ops i = c) : G dl n σ k (Ox P ops Q S ds done i tag t) := h
theorem is_gd (h : G dl n σ k (Tx r P ops Q (o :: l))) (hc : o.guard.isSome = true) : G dl n σ k (Tx r P ops Q (o :: l)) := h
theorem is_gs (h : G dl n σ k (Sx P ops Q (o :: l))) (hc : o.guard.isSome = true) : G dl n σ k (Sx P ops Q (o :: l)) := h
theorem is_gdx (h : G dl n σ k (Dx P ops Q S ds done (.s (i :: is) t))) (hc : (ops[i]?).map (fun o => o.guard.isSome) = some true) : G dl n σ k (Dx P ops Q S ds done (.s (i :: is) t)) := h
theorem cx_cond_i {b : Bool} {kx ky : K} (h1 : G dl n σ kx (Cx r P x Q)) (h2 : G dl n σ ky (Cx r P y Q)) (he : ev σ u = some (.bool b)) : G dl n σ (Ite b kx ky) (Cx r P (.cond u x y) Q) := cx_cond h1 h2 he
theorem al_an0 {d : Nat} {u v0 : Value} {X1 : Act → World → Prop} (h : G dl n ((d, v0) :: σ) (Al S k) X1) : G dl n ((d, u) :: σ) (Al S (Ans0 v0 k u)) X1 := fun a w hs ⟨hS, hu, hk⟩ => h a w (hu ▸ hs) ⟨hS, hk⟩
theorem au_p0 {v : Value} (h : Pure P σ o v := by first | exact p_move rfl rfl | exact p_assign rfl rfl) : Pure P σ o v := h
theorem au_p1 {v : Value} (h : Pure P σ o v := by first | exact p_pick_t rfl rfl rfl | exact p_pick_f rfl rfl rfl | exact p_pick_b rfl rfl rfl rfl) : Pure P σ o v := h
theorem au_p2 {v : Value} (h : Pure P σ o v := by first | exact p_nil rfl rfl | exact p_nilf rfl rfl) : Pure P σ o v := h
theorem au_p3 {v : Value} (h : Pure P σ o v := by first | exact q_fieldAddr0 rfl rfl | exact q_fieldAddr rfl rfl) : Pure P σ o v := h
theorem au_p4 {v : Value} (h : Pure P σ o v := by exact q_extract rfl rfl rfl) : Pure P σ o v := h
theorem au_p5 {v : Value} (h : Pure P σ o v := by exact p_makeFunc rfl rfl rfl) : Pure P σ o v := h
theorem au_p6 {v : Value} (h : Pure P σ o v := by exact p_not rfl rfl) : Pure P σ o v := h
theorem au_p10 {v : Value} (h : Pure P σ o v := by first | exact p_eq rfl rfl rfl | exact p_ne rfl rfl rfl | exact p_lt rfl rfl rfl | exact p_le rfl rfl rfl | exact p_gt rfl rfl rfl | exact p_ge rfl rfl rfl | exact p_eqs rfl rfl rfl | exact p_nes rfl rfl rfl | exact p_lts rfl rfl rfl | exact p_gts rfl rfl rfl | exact p_ges rfl rfl rfl | exact p_les rfl rfl rfl | exact q_eq_nil rfl rfl rfl | exact q_ne_nil rfl rfl rfl | exact q_eq_sl rfl rfl rfl | exact q_ne_sl rfl rfl rfl | exact q_eqb rfl rfl rfl | exact q_neb rfl rfl rfl) : Pure P σ o v := h
theorem au_p11 {v : Value} (h : Pure P σ o v := by exact q_conv_str rfl rfl) : Pure P σ o v := h
theorem au_p12 {v : Value} (h : Pure P σ o v := by exact q_build rfl rfl rfl rfl (by kernel_rfl)) : Pure P σ o v := h
theorem au_p20 {v : Value} (h : Pure P σ o v := by first | exact q_len rfl rfl | exact q_lens rfl rfl) : Pure P σ o v := h
theorem au_p26 {v : Value} (h : Pure P σ o v := by exact q_fieldN rfl rfl) : Pure P σ o v := h
theorem au_wp4 {α : Type} {k : K} {vx : α → Value} {k1 : α → K} (h : WP P σ o k vx k1 := by exact wp_ext rfl rfl) : WP P σ o k vx k1 := h
theorem au_wp7 {α : Type} {k : K} {vx : α → Value} {k1 : α → K} (h : WP P σ o k vx k1 := by exact wp_ar (by first | exact p_neg rfl rfl | exact p_com rfl rfl)) : WP P σ o k vx k1 := h
theorem au_wp8 {α : Type} {k : K} {vx : α → Value} {k1 : α → K} (h : WP P σ o k vx k1 := by first | exact wp_ar (by first | exact p_add rfl rfl rfl | exact p_sub rfl rfl rfl | exact p_mul rfl rfl rfl | exact p_and rfl rfl rfl | exact p_or rfl rfl rfl | exact p_xor rfl rfl rfl) | exact wp_cat rfl rfl rfl) : WP P σ o k vx k1 := h
theorem au_wp9 {α : Type} {k : K} {vx : α → Value} {k1 : α → K} (h : WP P σ o k vx k1 := by exact wp_cdar (fun h0 => by first | exact p_shl rfl rfl rfl h0 | exact p_shr rfl rfl rfl h0 | exact p_quo rfl rfl rfl h0 | exact p_rem rfl rfl rfl h0)) : WP P σ o k vx k1 := h
theorem au_wp10 {α : Type} {k : K} {vx : α → Value} {k1 : α → K} (h : WP P σ o k vx k1 := by exact wp_pu (e_binOp' rfl rfl rfl)) : WP P σ o k vx k1 := h
theorem au_wp11 {α : Type} {k : K} {vx : α → Value} {k1 : α → K} (h : WP P σ o k vx k1 := by exact wp_ar (q_conv_int rfl rfl)) : WP P σ o k vx k1 := h
theorem au_wp12 {α : Type} {k : K} {vx : α → Value} {k1 : α → K} (h : WP P σ o k vx k1 := by first | exact wp_bld rfl rfl rfl | exact wp_pu (e_buildg' rfl rfl)) : WP P σ o k vx k1 := h
theorem au_wp21 {α : Type} {k : K} {vx : α → Value} {k1 : α → K} (h : WP P σ o k vx k1 := by exact wp_ar (by first | exact p_max _ rfl rfl rfl | exact p_min _ rfl rfl rfl)) : WP P σ o k vx k1 := h
theorem au_wp26 {α : Type} {k : K} {vx : α → Value} {k1 : α → K} (h : WP P σ o k vx k1 := by exact wp_fld rfl rfl) : WP P σ o k vx k1 := h
theorem au_wp27 {α : Type} {k : K} {vx : α → Value} {k1 : α → K} (h : WP P σ o k vx k1 := by first | exact wp_idx rfl rfl rfl | exact wp_idxS rfl rfl rfl | exact wp_idxA rfl rfl rfl) : WP P σ o k vx k1 := h
theorem au_wp28 {α : Type} {k : K} {vx : α → Value} {k1 : α → K} (h : WP P σ o k vx k1 := by first | exact wp_slc rfl rfl (by first | exact rfl | exact ⟨_, rfl⟩) (by first | exact rfl | exact ⟨_, rfl⟩) (by first | exact rfl | exact ⟨_, rfl⟩) rfl | exact wp_slcS rfl rfl (by first | exact rfl | exact ⟨_, rfl⟩) (by first | exact rfl | exact ⟨_, rfl⟩)) : WP P σ o k vx k1 := h
theorem au_wr11 {α : Type} {k : K} {vx : α → Value} {k1 : α → K} (h : WR P σ o k vx k1 := by exact wr_rd (e_convert' rfl rfl)) : WR P σ o k vx k1 := h
theorem au_wr13 {α : Type} {k : K} {vx : α → Value} {k1 : α → K} (h : WR P σ o k vx k1 := by first | exact wr_ld rfl rfl | exact wr_ldN rfl rfl) : WR P σ o k vx k1 := h
theorem au_wr14 {α : Type} {k : K} {vx : α → Value} {k1 : α → K} (h : WR P σ o k vx k1 := by first | exact wr_rd (e_lookup' rfl rfl rfl) | exact wr_rd2 (e_lookup' rfl rfl rfl)) : WR P σ o k vx k1 := h
theorem au_wr20 {α : Type} {k : K} {vx : α → Value} {k1 : α → K} (h : WR P σ o k vx k1 := by exact wr_rd (e_len' rfl rfl rfl)) : WR P σ o k vx k1 := h
theorem au_wr25 {α : Type} {k : K} {vx : α → Value} {k1 : α → K} (h : WR P σ o k vx k1 := by exact wr_rd (e_mkI' rfl rfl)) : WR P σ o k vx k1 := h
theorem au_we11 {α : Type} {k : K} {vx : α → Value} {k1 : α → K} (h : WE P σ o k vx k1 := by exact we_do (e_convert' rfl rfl)) : WE P σ o k vx k1 := h
theorem au_we15 {α : Type} {k : K} {vx : α → Value} {k1 : α → K} (h : WE P σ o k vx k1 := by first | exact we_box rfl rfl rfl | exact we_alloc rfl rfl) : WE P σ o k vx k1 := h
theorem au_we16 {α : Type} {k : K} {vx : α → Value} {k1 : α → K} (h : WE P σ o k vx k1 := by first | exact we_slice rfl rfl rfl rfl (by kernel_rfl) | exact we_bldslice rfl rfl rfl (by kernel_rfl)) : WE P σ o k vx k1 := h
theorem au_we22 {α : Type} {k : K} {vx : α → Value} {k1 : α → K} (h : WE P σ o k vx k1 := by exact we_do (by first | exact e_append' rfl rfl rfl rfl | exact e_copy' rfl rfl rfl rfl | exact e_delete' rfl rfl rfl rfl | exact e_cap' rfl rfl rfl | exact e_clear' rfl rfl rfl)) : WE P σ o k vx k1 := h
theorem au_we23 {α : Type} {k : K} {vx : α → Value} {k1 : α → K} (h : WE P σ o k vx k1 := by exact we_do (by first | exact e_makeMap' rfl | exact e_makeSlice' rfl rfl rfl)) : WE P σ o k vx k1 := h
theorem au_we24 {α : Type} {k : K} {vx : α → Value} {k1 : α → K} (h : WE P σ o k vx k1 := by exact we_do (by first | exact e_next' rfl rfl rfl | exact e_range' rfl rfl | exact e_entry' rfl rfl)) : WE P σ o k vx k1 := h
theorem au_wk17 {k k1 : K} (h : WK P σ o k k1 := by first | exact wk_st rfl rfl rfl | exact wk_stN rfl rfl rfl) : WK P σ o k k1 := h
theorem au_wk18 {k k1 : K} (h : WK P σ o k k1 := by exact wk_do (e_mapUpdate' rfl rfl rfl rfl)) : WK P σ o k k1 := h
theorem au_wc19 {k : K} {kk : Value → K} (h : WC P σ o k kk := by first | exact wc_call rfl rfl rfl rfl | exact wc_callv rfl rfl rfl rfl | exact wc_fv rfl rfl rfl) : WC P σ o k kk := h
theorem au_ws11 {S : World → Prop} {α : Type} {k : K} {vx : α → Value} {k1 : α → K} (h : WS P S σ o k vx k1 := by exact ws_rd (e_convert' rfl rfl)) : WS P S σ o k vx k1 := h
theorem au_ws13 {S : World → Prop} {α : Type} {k : K} {vx : α → Value} {k1 : α → K} (h : WS P S σ o k vx k1 := by first | exact ws_ld rfl rfl | exact ws_ldN rfl rfl) : WS P S σ o k vx k1 := h
theorem au_ws14 {S : World → Prop} {α : Type} {k : K} {vx : α → Value} {k1 : α → K} (h : WS P S σ o k vx k1 := by first | exact ws_rd (e_lookup' rfl rfl rfl) | exact ws_rd2 (e_lookup' rfl rfl rfl)) : WS P S σ o k vx k1 := h
theorem au_ws20 {S : World → Prop} {α : Type} {k : K} {vx : α → Value} {k1 : α → K} (h : WS P S σ o k vx k1 := by exact ws_rd (e_len' rfl rfl rfl)) : WS P S σ o k vx k1 := h
theorem au_ws25 {S : World → Prop} {α : Type} {k : K} {vx : α → Value} {k1 : α → K} (h : WS P S σ o k vx k1 := by exact ws_rd (e_mkI' rfl rfl)) : WS P S σ o k vx k1 := h
end
set_option maxRecDepth 100000 in
theorem g_walk {P : Program} {f : FuncId} {fn : Func} {c : Code} {args : List Value} {kk : Value → K} {k : K} (n : Nat) {w : World} (hk : k w) (hf : P.funcs[f]? = some fn) (hb : fn.body = some c := by rfl) (hn : fn.ntmps = n := by rfl) (hl : Nat.ble args.length n = true := by rfl)
    (h : G [] n (numb 0 args) k (Cx none P c (bodyPostT P fn (Ret kk))) := by
      repeat' first
      | intro _
      | (refine is_tx ?_; first
          | refine tx_nil ?_
          | (refine is_gd ?_ rfl; first | refine tx_no ?_ | refine tx_no' ?_)
          | (refine is_t 0 ?_ rfl; refine tx_p (hp := by exact au_p0) ?_)
          | (refine is_t 2 ?_ rfl; first | refine tx_p (hp := by exact au_p2) ?_ | (refine gx_nn ?_; intro b hb; subst hb) | (refine gx_fv ?_; intro g fs cs hf cb; subst hf))
          | (refine is_t 3 ?_ rfl; refine tx_p (hp := by exact au_p3) ?_)
          | (refine is_t 13 ?_ rfl; refine tx_wr (hp := by exact au_wr13) ?_)
          | (refine is_t 19 ?_ rfl; first | (refine tx_wc (hp := by exact au_wc19) ?_; intro u; first | refine an_1 ?_ | refine an_0 ?_ | refine an_2 ?_ | refine an_3 ?_ | refine an_4 ?_ | refine an_5 ?_) | refine tx_wr (hp := by exact wr_rd (e_ext' rfl rfl rfl)) ?_ | (refine tx_wcn (hp := by exact au_wc19) ?_; intro u; first | refine am_0 ?_ | refine am_1 ?_ | refine am_2 ?_ | skip) | (refine tx_wy ?_; intro u; first | refine an_1 ?_ | refine an_0 ?_ | refine an_2 ?_ | refine an_3 ?_ | refine an_4 ?_ | refine an_5 ?_))
          | (refine is_t 10 ?_ rfl; first | refine tx_p (hp := by exact au_p10) ?_ | refine tx_wp (hp := by exact au_wp10) ?_)
          | (refine is_t 8 ?_ rfl; refine tx_wp (hp := by exact au_wp8) ?_)
          | (refine is_t 20 ?_ rfl; first | refine tx_p (hp := by exact au_p20) ?_ | refine tx_wr (hp := by exact au_wr20) ?_)
          | (refine is_t 27 ?_ rfl; refine tx_wp (hp := by exact au_wp27) ?_)
          | (refine is_t 4 ?_ rfl; first | refine tx_p (hp := by exact au_p4) ?_ | refine tx_wp (hp := by exact au_wp4) ?_)
          | (refine is_t 17 ?_ rfl; refine tx_wk (hp := by exact au_wk17) ?_)
          | (refine is_t 1 ?_ rfl; refine tx_p (hp := by exact au_p1) ?_)
          | (refine is_t 6 ?_ rfl; refine tx_p (hp := by exact au_p6) ?_)
          | (refine is_t 15 ?_ rfl; refine tx_we (hp := by exact au_we15) ?_)
          | (refine is_t 16 ?_ rfl; refine tx_we (hp := by exact au_we16) ?_)
          | (refine is_t 22 ?_ rfl; first | refine tx_we (hp := by exact au_we22) ?_ | refine tx_wen (hp := by exact au_we22) ?_)
          | (refine is_t 28 ?_ rfl; refine tx_wp (hp := by exact au_wp28) ?_)
          | (refine is_t 11 ?_ rfl; first | refine tx_wp (hp := by exact au_wp11) ?_ | refine tx_p (hp := by exact au_p11) ?_ | refine tx_wr (hp := by exact au_wr11) ?_ | refine tx_we (hp := by exact au_we11) ?_)
          | (refine is_t 26 ?_ rfl; first | refine tx_wp (hp := by exact au_wp26) ?_ | refine tx_p (hp := by exact au_p26) ?_)
          | (refine is_t 12 ?_ rfl; first | refine tx_wp (hp := by exact au_wp12) ?_ | refine tx_p (hp := by exact au_p12) ?_)
          | (refine is_t 5 ?_ rfl; refine tx_p (hp := by exact au_p5) ?_)
          | (refine is_t 7 ?_ rfl; refine tx_wp (hp := by exact au_wp7) ?_)
          | (refine is_t 9 ?_ rfl; refine tx_wp (hp := by exact au_wp9) ?_)
          | (refine is_t 14 ?_ rfl; first | refine tx_wr (hp := by exact wr_rd (e_lookup' rfl rfl rfl)) ?_ | (refine tx_wr (hp := by exact wr_rd2 (e_lookup' rfl rfl rfl)) ?_; intro u; refine an_2 ?_))
          | (refine is_t 18 ?_ rfl; refine tx_wk (hp := by exact au_wk18) ?_)
          | (refine is_t 21 ?_ rfl; refine tx_wp (hp := by exact au_wp21) ?_)
          | (refine is_t 23 ?_ rfl; refine tx_we (hp := by exact au_we23) ?_)
          | (refine is_t 24 ?_ rfl; refine tx_we (hp := by exact au_we24) ?_)
          | (refine is_t 25 ?_ rfl; refine tx_wr (hp := by exact au_wr25) ?_)
          | (refine tx_ite ?_ ?_ <;> (intro hb; refine gx_fold ?_; intro a w hs; try rw [hb] at hs; clear hb; revert hs; revert w; revert a; refine gx_unf ?_)))
      | (refine is_cx ?_; first
          | refine cx_reg ?_
          | (refine is_seq ?_; first | (refine cx_join ?_; (repeat apply ex_i); refine And.intro sub_auto (And.intro ?_ ?_)) | refine cx_seq ?_)
          | refine cx_cond_i ?_ ?_ rfl
          | refine cx_skip ?_
          | refine cx_ret ?_
          | refine cx_block ?_
          | refine cx_exit ?_
          | refine cx_loop ?_
          | (refine is_cond ?_; first | refine cx_cond_t ?_ | refine cx_cond_f ?_)
          | (refine is_draw ?_; first | refine cx_draw1 ?_ | refine cx_draw0 ?_ | refine cx_draw2 ?_ | refine cx_still ?_)
          | refine cx_label ?_
          | refine cx_rangeF ?_ ?_
          | refine cx_rangeJ ?_ ?_ ?_
          | refine al_drop ?_)
      | (refine is_ex ?_; first
          | refine ex_then ?_
          | refine ex_then_r ?_
          | refine ex_then_x ?_
          | refine ex_blk ?_
          | refine ex_blk_r ?_
          | refine ex_blk_x ?_
          | refine ex_blk_y ?_
          | refine ex_retM ?_
          | refine ex_ret ?_
          | refine ex_end ?_
          | exact rq_n
          | exact rq_r
          | exact rq_x
          | refine al_drop ?_)
      | exact gx_dead
      | refine gp_in ?_
      | (refine is_rx ?_; first
          | refine rx_tmp ?_
          | refine rx_nil ?_
          | refine rx_cell ?_
          | refine rx_cellN ?_)
      | (refine is_fx ?_; first
          | exact fx_1
          | exact fx_0
          | exact fx_2
          | exact fx_3
          | exact fx_4
          | exact fx_5)
      | (refine is_dx ?_; first
          | refine dx_end ?_
          | refine dx_nil ?_
          | refine dx_a ?_
          | (refine dx_iteA ?_ ?_ <;> (intro hb; refine gx_fold ?_; intro a w hs; try rw [hb] at hs; clear hb; revert hs; revert w; revert a; refine gx_unf ?_))
          | (refine dx_ite ?_ ?_ <;> (intro hb; refine gx_fold ?_; intro a w hs; try rw [hb] at hs; clear hb; revert hs; revert w; revert a; refine gx_unf ?_))
          | (refine is_gdx ?_ rfl; first | refine dx_no ?_ | refine dx_no' ?_)
          | (refine is_d 0 ?_ rfl; refine dx_p (hp := by exact au_p0) ?_)
          | (refine is_d 2 ?_ rfl; first | refine dx_p (hp := by exact au_p2) ?_ | (refine al_nn ?_; intro b hb; subst hb) | (refine gx_nn ?_; intro b hb; subst hb) | (refine al_fv ?_; intro g fs cs hf cb; subst hf) | (refine gx_fv ?_; intro g fs cs hf cb; subst hf))
          | (refine is_d 3 ?_ rfl; refine dx_p (hp := by exact au_p3) ?_)
          | (refine is_d 13 ?_ rfl; first | refine dx_is (hp := by exact au_wr13) ?_ | refine dx_S (hp := by exact au_ws13) ?_)
          | (refine is_d 10 ?_ rfl; first | refine dx_p (hp := by exact au_p10) ?_ | refine dx_wpA (hp := by exact au_wp10) ?_ | refine dx_wp (hp := by exact au_wp10) ?_)
          | (refine is_d 8 ?_ rfl; first | refine dx_wpA (hp := by exact au_wp8) ?_ | refine dx_wp (hp := by exact au_wp8) ?_)
          | (refine is_d 20 ?_ rfl; first | refine dx_p (hp := by exact au_p20) ?_ | refine dx_is (hp := by exact au_wr20) ?_ | refine dx_S (hp := by exact au_ws20) ?_)
          | (refine is_d 27 ?_ rfl; first | refine dx_wpA (hp := by exact au_wp27) ?_ | refine dx_wp (hp := by exact au_wp27) ?_)
          | (refine is_d 4 ?_ rfl; first | refine dx_p (hp := by exact au_p4) ?_ | refine dx_wpA (hp := by exact au_wp4) ?_ | refine dx_wp (hp := by exact au_wp4) ?_)
          | (refine is_d 1 ?_ rfl; refine dx_p (hp := by exact au_p1) ?_)
          | (refine is_d 6 ?_ rfl; refine dx_p (hp := by exact au_p6) ?_)
          | (refine is_d 28 ?_ rfl; first | refine dx_wpA (hp := by exact au_wp28) ?_ | refine dx_wp (hp := by exact au_wp28) ?_)
          | (refine is_d 11 ?_ rfl; first | refine dx_wpA (hp := by exact au_wp11) ?_ | refine dx_wp (hp := by exact au_wp11) ?_ | refine dx_p (hp := by exact au_p11) ?_ | refine dx_is (hp := by exact au_wr11) ?_ | refine dx_S (hp := by exact au_ws11) ?_)
          | (refine is_d 26 ?_ rfl; first | refine dx_wpA (hp := by exact au_wp26) ?_ | refine dx_wp (hp := by exact au_wp26) ?_ | refine dx_p (hp := by exact au_p26) ?_)
          | (refine is_d 12 ?_ rfl; first | refine dx_wpA (hp := by exact au_wp12) ?_ | refine dx_wp (hp := by exact au_wp12) ?_ | refine dx_p (hp := by exact au_p12) ?_)
          | (refine is_d 5 ?_ rfl; refine dx_p (hp := by exact au_p5) ?_)
          | (refine is_d 7 ?_ rfl; first | refine dx_wpA (hp := by exact au_wp7) ?_ | refine dx_wp (hp := by exact au_wp7) ?_)
          | (refine is_d 9 ?_ rfl; first | refine dx_wpA (hp := by exact au_wp9) ?_ | refine dx_wp (hp := by exact au_wp9) ?_)
          | (refine is_d 14 ?_ rfl; first | refine dx_is (hp := by exact wr_rd (e_lookup' rfl rfl rfl)) ?_ | (refine dx_is (hp := by exact wr_rd2 (e_lookup' rfl rfl rfl)) ?_; intro u; refine al_an2 ?_) | refine dx_S (hp := by exact ws_rd (e_lookup' rfl rfl rfl)) ?_ | (refine dx_S (hp := by exact ws_rd2 (e_lookup' rfl rfl rfl)) ?_; intro u; refine al_an2 ?_))
          | (refine is_d 21 ?_ rfl; first | refine dx_wpA (hp := by exact au_wp21) ?_ | refine dx_wp (hp := by exact au_wp21) ?_)
          | (refine is_d 25 ?_ rfl; first | refine dx_is (hp := by exact au_wr25) ?_ | refine dx_S (hp := by exact au_ws25) ?_)
          | refine al_drop ?_)
      | (refine is_ox ?_; first
          | (refine is_o 13 ?_ rfl; first | refine ox_r2A (hp := by exact au_wr13) ?_ | refine ox_r2 (hp := by exact au_wr13) ?_)
          | (refine is_o 19 ?_ rfl; first | (refine ox_c1 (hp := by exact au_wc19) ?_; intro u; first | refine al_an1 ?_ | refine al_an0 ?_ | refine al_an2 ?_) | (refine ox_c (hp := by exact au_wc19) ?_; intro u; first | refine an_1 ?_ | refine an_0 ?_ | refine an_2 ?_ | refine an_3 ?_ | refine an_4 ?_ | refine an_5 ?_) | (refine ox_cn (hp := by exact au_wc19) ?_; intro u; first | refine am_0 ?_ | refine am_1 ?_ | refine am_2 ?_ | skip) | (refine ox_y ?_; intro u; first | refine an_1 ?_ | refine an_0 ?_ | refine an_2 ?_ | refine an_3 ?_ | refine an_4 ?_ | refine an_5 ?_))
          | (refine is_o 20 ?_ rfl; first | refine ox_r2A (hp := by exact au_wr20) ?_ | refine ox_r2 (hp := by exact au_wr20) ?_)
          | (refine is_o 17 ?_ rfl; first | refine ox_k1 (hp := by exact au_wk17) ?_ | refine ox_k (hp := by exact au_wk17) ?_)
          | (refine is_o 15 ?_ rfl; first | refine ox_e1 (hp := by exact au_we15) ?_ | refine ox_e (hp := by exact au_we15) ?_)
          | (refine is_o 16 ?_ rfl; first | refine ox_e1 (hp := by exact au_we16) ?_ | refine ox_e (hp := by exact au_we16) ?_)
          | (refine is_o 22 ?_ rfl; first | refine ox_e1 (hp := by exact au_we22) ?_ | refine ox_e (hp := by exact au_we22) ?_ | refine ox_en1 (hp := by exact au_we22) ?_ | refine ox_en (hp := by exact au_we22) ?_)
          | (refine is_o 11 ?_ rfl; first | refine ox_e1 (hp := by exact au_we11) ?_ | refine ox_e (hp := by exact au_we11) ?_ | refine ox_r2A (hp := by exact au_wr11) ?_ | refine ox_r2 (hp := by exact au_wr11) ?_)
          | (refine is_o 14 ?_ rfl; first | refine ox_r2A (hp := by exact wr_rd (e_lookup' rfl rfl rfl)) ?_ | (refine ox_r2A (hp := by exact wr_rd2 (e_lookup' rfl rfl rfl)) ?_; intro u; refine al_an2 ?_) | refine ox_r2 (hp := by exact wr_rd (e_lookup' rfl rfl rfl)) ?_ | (refine ox_r2 (hp := by exact wr_rd2 (e_lookup' rfl rfl rfl)) ?_; intro u; refine an_2 ?_))
          | (refine is_o 18 ?_ rfl; first | refine ox_k1 (hp := by exact au_wk18) ?_ | refine ox_k (hp := by exact au_wk18) ?_)
          | (refine is_o 23 ?_ rfl; first | refine ox_e1 (hp := by exact au_we23) ?_ | refine ox_e (hp := by exact au_we23) ?_)
          | (refine is_o 24 ?_ rfl; first | refine ox_e1 (hp := by exact au_we24) ?_ | refine ox_e (hp := by exact au_we24) ?_)
          | (refine is_o 25 ?_ rfl; first | refine ox_r2A (hp := by exact au_wr25) ?_ | refine ox_r2 (hp := by exact au_wr25) ?_)
          | refine al_drop ?_)
      | refine ax_allA ?_ ?_
      | refine ax_all ?_ ?_
      | exact ax_nil
      | refine ax_one ?_
      | (refine is_lx ?_; exact lx_end)
      | (refine is_sx ?_; first
          | refine sx_nil ?_
          | (refine is_gs ?_ rfl; refine sx_no ?_)
          | (refine is_s 0 ?_ rfl; refine sx_p (hp := by exact au_p0) ?_)
          | (refine is_s 2 ?_ rfl; first | refine sx_p (hp := by exact au_p2) ?_ | (refine gx_nn ?_; intro b hb; subst hb) | (refine gx_fv ?_; intro g fs cs hf cb; subst hf))
          | (refine is_s 3 ?_ rfl; refine sx_p (hp := by exact au_p3) ?_)
          | (refine is_s 13 ?_ rfl; refine sx_wr (hp := by exact au_wr13) ?_)
          | (refine is_s 10 ?_ rfl; first | refine sx_p (hp := by exact au_p10) ?_ | refine sx_wp (hp := by exact au_wp10) ?_)
          | (refine is_s 8 ?_ rfl; refine sx_wp (hp := by exact au_wp8) ?_)
          | (refine is_s 20 ?_ rfl; first | refine sx_p (hp := by exact au_p20) ?_ | refine sx_wr (hp := by exact au_wr20) ?_)
          | (refine is_s 27 ?_ rfl; refine sx_wp (hp := by exact au_wp27) ?_)
          | (refine is_s 4 ?_ rfl; first | refine sx_p (hp := by exact au_p4) ?_ | refine sx_wp (hp := by exact au_wp4) ?_)
          | (refine is_s 1 ?_ rfl; refine sx_p (hp := by exact au_p1) ?_)
          | (refine is_s 6 ?_ rfl; refine sx_p (hp := by exact au_p6) ?_)
          | (refine is_s 28 ?_ rfl; refine sx_wp (hp := by exact au_wp28) ?_)
          | (refine is_s 11 ?_ rfl; first | refine sx_wp (hp := by exact au_wp11) ?_ | refine sx_p (hp := by exact au_p11) ?_ | refine sx_wr (hp := by exact au_wr11) ?_)
          | (refine is_s 26 ?_ rfl; first | refine sx_wp (hp := by exact au_wp26) ?_ | refine sx_p (hp := by exact au_p26) ?_)
          | (refine is_s 12 ?_ rfl; first | refine sx_wp (hp := by exact au_wp12) ?_ | refine sx_p (hp := by exact au_p12) ?_)
          | (refine is_s 5 ?_ rfl; refine sx_p (hp := by exact au_p5) ?_)
          | (refine is_s 7 ?_ rfl; refine sx_wp (hp := by exact au_wp7) ?_)
          | (refine is_s 9 ?_ rfl; refine sx_wp (hp := by exact au_wp9) ?_)
          | (refine is_s 14 ?_ rfl; first | refine sx_wr (hp := by exact wr_rd (e_lookup' rfl rfl rfl)) ?_ | (refine sx_wr (hp := by exact wr_rd2 (e_lookup' rfl rfl rfl)) ?_; intro u; refine an_2 ?_))
          | (refine is_s 21 ?_ rfl; refine sx_wp (hp := by exact au_wp21) ?_)
          | (refine is_s 25 ?_ rfl; refine sx_wr (hp := by exact au_wr25) ?_)
          | (refine sx_ite ?_ ?_ <;> (intro hb; refine gx_fold ?_; intro a w hs; try rw [hb] at hs; clear hb; revert hs; revert w; revert a; refine gx_unf ?_)))
      | refine bx_b ?_
      | refine bj_b ?_
      | exact gx_jump
      | refine al_drop ?_) :
    CallF P f args.toArray kk w := g_start n hk hf h hb hn hl
end Go.Sep
/- Facts of the program's own tables. -/
namespace Go.Proofs.Yteolfpghafdmdaa
open Go Go.Sep
set_option linter.unusedVariables false
set_option linter.unusedSimpArgs false
abbrev ty_int64 : Nat := 2
abbrev ty_int : Nat := 3
abbrev ty_bool : Nat := 4
abbrev ty_uint8 : Nat := 5
abbrev ty_abi_BoundsErrorCode : Nat := 6
abbrev ty_runtime_boundsError : Nat := 8
abbrev ty_string : Nat := 9
abbrev ty_runtime_errorString : Nat := 10
abbrev ty_runtime_plainError : Nat := 11
abbrev ty_uintptr : Nat := 12
abbrev ty_struct_msg_string_addr_uintptr : Nat := 13
abbrev ty_runtime_errorAddressString : Nat := 14
abbrev ty_p_runtime_TypeAssertionError : Nat := 15
abbrev ty_p_runtime_PanicNilError : Nat := 16
abbrev ty_p_abi_Type : Nat := 17
abbrev ty_struct_typ_p_abi_Type : Nat := 18
abbrev ty_maps_unhashableTypeError : Nat := 19
abbrev ty_interface : Nat := 20
abbrev ty_int32 : Nat := 21
abbrev ty_s_api_Txn : Nat := 22
abbrev ty_s_api_Decision : Nat := 23
abbrev ty_p_front_Front : Nat := 25
abbrev ty_uint64 : Nat := 27
abbrev ty_p_sched_Sched : Nat := 28
abbrev ty_api_Errno : Nat := 29
abbrev ty_map_api_Id_bool : Nat := 32
abbrev ty_s_string : Nat := 33
abbrev ty_s_api_Op : Nat := 34
abbrev ty_api_Txn : Nat := 36
abbrev ty_api_Id : Nat := 39
abbrev ty_struct_Id_api_Id_Try_int : Nat := 42
abbrev ty_api_Tag : Nat := 43
abbrev ty_s_api_Out : Nat := 44
abbrev ty_struct_Code_api_Errno_Outs_s_api_Out : Nat := 45
abbrev ty_api_Result : Nat := 46
abbrev ty_struct_Tag_api_Tag_Result_api_Result : Nat := 47
abbrev ty_api_Decision : Nat := 48
abbrev ty_s_api_Order : Nat := 49
abbrev ty_struct_Id_api_Id_Result_api_Result : Nat := 51
abbrev ty_api_Reply : Nat := 52
abbrev ty_s_api_Id : Nat := 55
abbrev ty_s_int : Nat := 58
abbrev ty_map_api_Tag_bool : Nat := 59
abbrev ty_map_api_Id_int : Nat := 60
abbrev ty_s_api_Mark : Nat := 61
abbrev ty_api_Order : Nat := 63
abbrev ty_s_p_front_entry : Nat := 67
abbrev ty_front_Front : Nat := 69
abbrev ty_p_store_Store : Nat := 70
abbrev ty_p_locks_Locks : Nat := 73
abbrev ty_s_p_filter_Filter : Nat := 75
abbrev ty_s_p_sched_job : Nat := 76
abbrev ty_sched_Sched : Nat := 78
abbrev ty_p_filter_Filter : Nat := 79
abbrev ty_s_uint8 : Nat := 81
abbrev ty_api_Op : Nat := 83
abbrev ty_p_front_entry : Nat := 85
abbrev ty_p_api_Order : Nat := 87
abbrev ty_front_entry : Nat := 89
abbrev ty_struct_Has_bool_Value_s_uint8 : Nat := 94
abbrev ty_api_Out : Nat := 95
abbrev ty_p_btree_Tree_string_api_Record : Nat := 98
abbrev ty_api_Record : Nat := 101
abbrev ty_store_Store : Nat := 103
abbrev ty_map_string_p_locks_gate : Nat := 104
abbrev ty_map_api_Tag_int : Nat := 105
abbrev ty_locks_Locks : Nat := 107
abbrev ty_filter_Filter : Nat := 109
abbrev ty_api_Mark : Nat := 118
abbrev ty_p_btree_node_string_api_Record : Nat := 122
abbrev ty_s_btree_item_string_api_Record : Nat := 123
abbrev ty_s_p_btree_node_string_api_Record : Nat := 124
abbrev ty_btree_node_string_api_Record : Nat := 126
abbrev ty_btree_Tree_string_api_Record : Nat := 128
abbrev ty_s_s_string : Nat := 144
abbrev ty_uint : Nat := 148
abbrev ty_struct_key_string_value_api_Record : Nat := 151
abbrev ty_btree_item_string_api_Record : Nat := 152
abbrev ty_slices_sortedHint : Nat := 154
abbrev ty_uint32 : Nat := 162
abbrev ty_slices_xorshift : Nat := 167
abbrev ty_p_int : Nat := 171
abbrev ty_p_slices_xorshift : Nat := 173
abbrev ty_runtime_TypeAssertionError : Nat := 178
abbrev ty_0_p_runtime_PanicNilError : Nat := 179
abbrev ty_struct_0_p_runtime_PanicNilError : Nat := 180
abbrev ty_runtime_PanicNilError : Nat := 181
abbrev ty_abi_TFlag : Nat := 183
abbrev ty_abi_Kind : Nat := 184
abbrev ty_p_uint8 : Nat := 186
abbrev ty_abi_NameOff : Nat := 187
abbrev ty_abi_TypeOff : Nat := 188
abbrev ty_abi_Type : Nat := 190
abbrev ty_p_sched_job : Nat := 194
abbrev ty_p_locks_gate : Nat := 195
abbrev ty_unsafe_Pointer : Nat := 197
abbrev ty_struct_order_api_Order_need_s_int : Nat := 198
abbrev ty_sched_job : Nat := 199
abbrev ty_s_locks_claim : Nat := 200
abbrev ty_locks_gate : Nat := 202
abbrev ty_struct_tag_api_Tag_mark_api_Mark : Nat := 203
abbrev ty_locks_claim : Nat := 204
theorem zero_ty_int64 : zeroT Try.prog ty_int64 (.int .i64 0) := ⟨Try.t2, by kernel_rfl, by kernel_rfl⟩
theorem zero_ty_int : zeroT Try.prog ty_int (.int .i64 0) := ⟨Try.t3, by kernel_rfl, by kernel_rfl⟩
theorem zero_ty_bool : zeroT Try.prog ty_bool (.bool false) := ⟨Try.t4, by kernel_rfl, by kernel_rfl⟩
theorem zero_ty_uint8 : zeroT Try.prog ty_uint8 (.int .u8 0) := ⟨Try.t5, by kernel_rfl, by kernel_rfl⟩
theorem zero_ty_abi_BoundsErrorCode : zeroT Try.prog ty_abi_BoundsErrorCode (.int .u8 0) := ⟨Try.t6, by kernel_rfl, by kernel_rfl⟩
theorem zero_ty_runtime_boundsError : zeroT Try.prog ty_runtime_boundsError (.agg #[(.int .i64 0), (.int .i64 0), (.bool false), (.int .u8 0)]) := ⟨Try.t8, by kernel_rfl, by kernel_rfl⟩
theorem zero_ty_string : zeroT Try.prog ty_string (.string ⟨#[]⟩) := ⟨Try.t9, by kernel_rfl, by kernel_rfl⟩
theorem zero_ty_runtime_errorString : zeroT Try.prog ty_runtime_errorString (.string ⟨#[]⟩) := ⟨Try.t10, by kernel_rfl, by kernel_rfl⟩
theorem zero_ty_runtime_plainError : zeroT Try.prog ty_runtime_plainError (.string ⟨#[]⟩) := ⟨Try.t11, by kernel_rfl, by kernel_rfl⟩
theorem zero_ty_uintptr : zeroT Try.prog ty_uintptr (.int .u64 0) := ⟨Try.t12, by kernel_rfl, by kernel_rfl⟩
theorem zero_ty_struct_msg_string_addr_uintptr : zeroT Try.prog ty_struct_msg_string_addr_uintptr (.agg #[(.string ⟨#[]⟩), (.int .u64 0)]) := ⟨Try.t13, by kernel_rfl, by kernel_rfl⟩
theorem zero_ty_runtime_errorAddressString : zeroT Try.prog ty_runtime_errorAddressString (.agg #[(.string ⟨#[]⟩), (.int .u64 0)]) := ⟨Try.t14, by kernel_rfl, by kernel_rfl⟩
theorem zero_ty_p_runtime_TypeAssertionError : zeroT Try.prog ty_p_runtime_TypeAssertionError (.pointer none) := ⟨Try.t15, by kernel_rfl, by kernel_rfl⟩
theorem zero_ty_p_runtime_PanicNilError : zeroT Try.prog ty_p_runtime_PanicNilError (.pointer none) := ⟨Try.t16, by kernel_rfl, by kernel_rfl⟩
theorem zero_ty_p_abi_Type : zeroT Try.prog ty_p_abi_Type (.pointer none) := ⟨Try.t17, by kernel_rfl, by kernel_rfl⟩
theorem zero_ty_struct_typ_p_abi_Type : zeroT Try.prog ty_struct_typ_p_abi_Type (.agg #[(.pointer none)]) := ⟨Try.t18, by kernel_rfl, by kernel_rfl⟩
theorem zero_ty_maps_unhashableTypeError : zeroT Try.prog ty_maps_unhashableTypeError (.agg #[(.pointer none)]) := ⟨Try.t19, by kernel_rfl, by kernel_rfl⟩
theorem zero_ty_interface : zeroT Try.prog ty_interface .nilIface := ⟨Try.t20, by kernel_rfl, by kernel_rfl⟩
theorem zero_ty_int32 : zeroT Try.prog ty_int32 (.int .i32 0) := ⟨Try.t21, by kernel_rfl, by kernel_rfl⟩
theorem zero_ty_s_api_Txn : zeroT Try.prog ty_s_api_Txn (Sl.val ⟨none, 0, 0⟩) := ⟨Try.t22, by kernel_rfl, by kernel_rfl⟩
theorem zero_ty_s_api_Decision : zeroT Try.prog ty_s_api_Decision (Sl.val ⟨none, 0, 0⟩) := ⟨Try.t23, by kernel_rfl, by kernel_rfl⟩
theorem zero_ty_p_front_Front : zeroT Try.prog ty_p_front_Front (.pointer none) := ⟨Try.t25, by kernel_rfl, by kernel_rfl⟩
theorem zero_ty_uint64 : zeroT Try.prog ty_uint64 (.int .u64 0) := ⟨Try.t27, by kernel_rfl, by kernel_rfl⟩
theorem zero_ty_p_sched_Sched : zeroT Try.prog ty_p_sched_Sched (.pointer none) := ⟨Try.t28, by kernel_rfl, by kernel_rfl⟩
theorem zero_ty_api_Errno : zeroT Try.prog ty_api_Errno (.int .i64 0) := ⟨Try.t29, by kernel_rfl, by kernel_rfl⟩
theorem zero_ty_map_api_Id_bool : zeroT Try.prog ty_map_api_Id_bool (.map none) := ⟨Try.t32, by kernel_rfl, by kernel_rfl⟩
theorem zero_ty_s_string : zeroT Try.prog ty_s_string (Sl.val ⟨none, 0, 0⟩) := ⟨Try.t33, by kernel_rfl, by kernel_rfl⟩
theorem zero_ty_s_api_Op : zeroT Try.prog ty_s_api_Op (Sl.val ⟨none, 0, 0⟩) := ⟨Try.t34, by kernel_rfl, by kernel_rfl⟩
theorem zero_ty_api_Txn : zeroT Try.prog ty_api_Txn (.agg #[(.int .i64 0), (Sl.val ⟨none, 0, 0⟩), (Sl.val ⟨none, 0, 0⟩), (Sl.val ⟨none, 0, 0⟩), (.int .i64 0)]) := ⟨Try.t36, by kernel_rfl, by kernel_rfl⟩
theorem zero_ty_api_Id : zeroT Try.prog ty_api_Id (.agg #[(.int .i64 0), (.int .u64 0), (.int .u64 0)]) := ⟨Try.t39, by kernel_rfl, by kernel_rfl⟩
theorem zero_ty_struct_Id_api_Id_Try_int : zeroT Try.prog ty_struct_Id_api_Id_Try_int (.agg #[(.int .i64 0), (.int .u64 0), (.int .u64 0), (.int .i64 0)]) := ⟨Try.t42, by kernel_rfl, by kernel_rfl⟩
theorem zero_ty_api_Tag : zeroT Try.prog ty_api_Tag (.agg #[(.int .i64 0), (.int .u64 0), (.int .u64 0), (.int .i64 0)]) := ⟨Try.t43, by kernel_rfl, by kernel_rfl⟩
theorem zero_ty_s_api_Out : zeroT Try.prog ty_s_api_Out (Sl.val ⟨none, 0, 0⟩) := ⟨Try.t44, by kernel_rfl, by kernel_rfl⟩
theorem zero_ty_struct_Code_api_Errno_Outs_s_api_Out : zeroT Try.prog ty_struct_Code_api_Errno_Outs_s_api_Out (.agg #[(.int .i64 0), (Sl.val ⟨none, 0, 0⟩)]) := ⟨Try.t45, by kernel_rfl, by kernel_rfl⟩
theorem zero_ty_api_Result : zeroT Try.prog ty_api_Result (.agg #[(.int .i64 0), (Sl.val ⟨none, 0, 0⟩)]) := ⟨Try.t46, by kernel_rfl, by kernel_rfl⟩
theorem zero_ty_struct_Tag_api_Tag_Result_api_Result : zeroT Try.prog ty_struct_Tag_api_Tag_Result_api_Result (.agg #[(.int .i64 0), (.int .u64 0), (.int .u64 0), (.int .i64 0), (.int .i64 0), (Sl.val ⟨none, 0, 0⟩)]) := ⟨Try.t47, by kernel_rfl, by kernel_rfl⟩
theorem zero_ty_api_Decision : zeroT Try.prog ty_api_Decision (.agg #[(.int .i64 0), (.int .u64 0), (.int .u64 0), (.int .i64 0), (.int .i64 0), (Sl.val ⟨none, 0, 0⟩)]) := ⟨Try.t48, by kernel_rfl, by kernel_rfl⟩
theorem zero_ty_s_api_Order : zeroT Try.prog ty_s_api_Order (Sl.val ⟨none, 0, 0⟩) := ⟨Try.t49, by kernel_rfl, by kernel_rfl⟩
theorem zero_ty_struct_Id_api_Id_Result_api_Result : zeroT Try.prog ty_struct_Id_api_Id_Result_api_Result (.agg #[(.int .i64 0), (.int .u64 0), (.int .u64 0), (.int .i64 0), (Sl.val ⟨none, 0, 0⟩)]) := ⟨Try.t51, by kernel_rfl, by kernel_rfl⟩
theorem zero_ty_api_Reply : zeroT Try.prog ty_api_Reply (.agg #[(.int .i64 0), (.int .u64 0), (.int .u64 0), (.int .i64 0), (Sl.val ⟨none, 0, 0⟩)]) := ⟨Try.t52, by kernel_rfl, by kernel_rfl⟩
theorem zero_ty_s_api_Id : zeroT Try.prog ty_s_api_Id (Sl.val ⟨none, 0, 0⟩) := ⟨Try.t55, by kernel_rfl, by kernel_rfl⟩
theorem zero_ty_s_int : zeroT Try.prog ty_s_int (Sl.val ⟨none, 0, 0⟩) := ⟨Try.t58, by kernel_rfl, by kernel_rfl⟩
theorem zero_ty_map_api_Tag_bool : zeroT Try.prog ty_map_api_Tag_bool (.map none) := ⟨Try.t59, by kernel_rfl, by kernel_rfl⟩
theorem zero_ty_map_api_Id_int : zeroT Try.prog ty_map_api_Id_int (.map none) := ⟨Try.t60, by kernel_rfl, by kernel_rfl⟩
theorem zero_ty_s_api_Mark : zeroT Try.prog ty_s_api_Mark (Sl.val ⟨none, 0, 0⟩) := ⟨Try.t61, by kernel_rfl, by kernel_rfl⟩
theorem zero_ty_api_Order : zeroT Try.prog ty_api_Order (.agg #[(.int .i64 0), (.int .u64 0), (.int .u64 0), (.int .i64 0), (.int .i64 0), (Sl.val ⟨none, 0, 0⟩), (Sl.val ⟨none, 0, 0⟩), (Sl.val ⟨none, 0, 0⟩), (.int .i64 0), (Sl.val ⟨none, 0, 0⟩)]) := ⟨Try.t63, by kernel_rfl, by kernel_rfl⟩
theorem zero_ty_s_p_front_entry : zeroT Try.prog ty_s_p_front_entry (Sl.val ⟨none, 0, 0⟩) := ⟨Try.t67, by kernel_rfl, by kernel_rfl⟩
theorem zero_ty_front_Front : zeroT Try.prog ty_front_Front (.agg #[(.int .i64 0), (.int .u64 0), (.int .i64 0), (.int .u64 0), (Sl.val ⟨none, 0, 0⟩)]) := ⟨Try.t69, by kernel_rfl, by kernel_rfl⟩
theorem zero_ty_p_store_Store : zeroT Try.prog ty_p_store_Store (.pointer none) := ⟨Try.t70, by kernel_rfl, by kernel_rfl⟩
theorem zero_ty_p_locks_Locks : zeroT Try.prog ty_p_locks_Locks (.pointer none) := ⟨Try.t73, by kernel_rfl, by kernel_rfl⟩
theorem zero_ty_s_p_filter_Filter : zeroT Try.prog ty_s_p_filter_Filter (Sl.val ⟨none, 0, 0⟩) := ⟨Try.t75, by kernel_rfl, by kernel_rfl⟩
theorem zero_ty_s_p_sched_job : zeroT Try.prog ty_s_p_sched_job (Sl.val ⟨none, 0, 0⟩) := ⟨Try.t76, by kernel_rfl, by kernel_rfl⟩
theorem zero_ty_sched_Sched : zeroT Try.prog ty_sched_Sched (.agg #[(.pointer none), (.pointer none), (Sl.val ⟨none, 0, 0⟩), (Sl.val ⟨none, 0, 0⟩), (Sl.val ⟨none, 0, 0⟩)]) := ⟨Try.t78, by kernel_rfl, by kernel_rfl⟩
theorem zero_ty_p_filter_Filter : zeroT Try.prog ty_p_filter_Filter (.pointer none) := ⟨Try.t79, by kernel_rfl, by kernel_rfl⟩
theorem zero_ty_s_uint8 : zeroT Try.prog ty_s_uint8 (Sl.val ⟨none, 0, 0⟩) := ⟨Try.t81, by kernel_rfl, by kernel_rfl⟩
theorem zero_ty_api_Op : zeroT Try.prog ty_api_Op (.agg #[(.int .i64 0), (.string ⟨#[]⟩), (Sl.val ⟨none, 0, 0⟩), (.int .i64 0)]) := ⟨Try.t83, by kernel_rfl, by kernel_rfl⟩
theorem zero_ty_p_front_entry : zeroT Try.prog ty_p_front_entry (.pointer none) := ⟨Try.t85, by kernel_rfl, by kernel_rfl⟩
theorem zero_ty_p_api_Order : zeroT Try.prog ty_p_api_Order (.pointer none) := ⟨Try.t87, by kernel_rfl, by kernel_rfl⟩
theorem zero_ty_front_entry : zeroT Try.prog ty_front_entry (.agg #[(.int .i64 0), (.int .u64 0), (.int .u64 0), (.int .i64 0), (.int .i64 0), (Sl.val ⟨none, 0, 0⟩), (Sl.val ⟨none, 0, 0⟩), (Sl.val ⟨none, 0, 0⟩), (.int .i64 0), (.pointer none)]) := ⟨Try.t89, by kernel_rfl, by kernel_rfl⟩
theorem zero_ty_struct_Has_bool_Value_s_uint8 : zeroT Try.prog ty_struct_Has_bool_Value_s_uint8 (.agg #[(.bool false), (Sl.val ⟨none, 0, 0⟩)]) := ⟨Try.t94, by kernel_rfl, by kernel_rfl⟩
theorem zero_ty_api_Out : zeroT Try.prog ty_api_Out (.agg #[(.bool false), (Sl.val ⟨none, 0, 0⟩)]) := ⟨Try.t95, by kernel_rfl, by kernel_rfl⟩
theorem zero_ty_p_btree_Tree_string_api_Record : zeroT Try.prog ty_p_btree_Tree_string_api_Record (.pointer none) := ⟨Try.t98, by kernel_rfl, by kernel_rfl⟩
theorem zero_ty_api_Record : zeroT Try.prog ty_api_Record (.agg #[(.bool false), (Sl.val ⟨none, 0, 0⟩), (.int .i64 0), (.int .u64 0)]) := ⟨Try.t101, by kernel_rfl, by kernel_rfl⟩
theorem zero_ty_store_Store : zeroT Try.prog ty_store_Store (.agg #[(.int .i64 0), (.pointer none)]) := ⟨Try.t103, by kernel_rfl, by kernel_rfl⟩
theorem zero_ty_map_string_p_locks_gate : zeroT Try.prog ty_map_string_p_locks_gate (.map none) := ⟨Try.t104, by kernel_rfl, by kernel_rfl⟩
theorem zero_ty_map_api_Tag_int : zeroT Try.prog ty_map_api_Tag_int (.map none) := ⟨Try.t105, by kernel_rfl, by kernel_rfl⟩
theorem zero_ty_locks_Locks : zeroT Try.prog ty_locks_Locks (.agg #[(.map none), (.map none)]) := ⟨Try.t107, by kernel_rfl, by kernel_rfl⟩
theorem zero_ty_filter_Filter : zeroT Try.prog ty_filter_Filter (.agg #[(.int .i64 0), (.int .i64 0), (.map none)]) := ⟨Try.t109, by kernel_rfl, by kernel_rfl⟩
theorem zero_ty_api_Mark : zeroT Try.prog ty_api_Mark (.agg #[(.string ⟨#[]⟩), (.int .i64 0), (.int .u64 0)]) := ⟨Try.t118, by kernel_rfl, by kernel_rfl⟩
theorem zero_ty_p_btree_node_string_api_Record : zeroT Try.prog ty_p_btree_node_string_api_Record (.pointer none) := ⟨Try.t122, by kernel_rfl, by kernel_rfl⟩
theorem zero_ty_s_btree_item_string_api_Record : zeroT Try.prog ty_s_btree_item_string_api_Record (Sl.val ⟨none, 0, 0⟩) := ⟨Try.t123, by kernel_rfl, by kernel_rfl⟩
theorem zero_ty_s_p_btree_node_string_api_Record : zeroT Try.prog ty_s_p_btree_node_string_api_Record (Sl.val ⟨none, 0, 0⟩) := ⟨Try.t124, by kernel_rfl, by kernel_rfl⟩
theorem zero_ty_btree_node_string_api_Record : zeroT Try.prog ty_btree_node_string_api_Record (.agg #[(Sl.val ⟨none, 0, 0⟩), (Sl.val ⟨none, 0, 0⟩)]) := ⟨Try.t126, by kernel_rfl, by kernel_rfl⟩
theorem zero_ty_btree_Tree_string_api_Record : zeroT Try.prog ty_btree_Tree_string_api_Record (.agg #[(.pointer none), (.int .i64 0)]) := ⟨Try.t128, by kernel_rfl, by kernel_rfl⟩
theorem zero_ty_s_s_string : zeroT Try.prog ty_s_s_string (Sl.val ⟨none, 0, 0⟩) := ⟨Try.t144, by kernel_rfl, by kernel_rfl⟩
theorem zero_ty_uint : zeroT Try.prog ty_uint (.int .u64 0) := ⟨Try.t148, by kernel_rfl, by kernel_rfl⟩
theorem zero_ty_struct_key_string_value_api_Record : zeroT Try.prog ty_struct_key_string_value_api_Record (.agg #[(.string ⟨#[]⟩), (.bool false), (Sl.val ⟨none, 0, 0⟩), (.int .i64 0), (.int .u64 0)]) := ⟨Try.t151, by kernel_rfl, by kernel_rfl⟩
theorem zero_ty_btree_item_string_api_Record : zeroT Try.prog ty_btree_item_string_api_Record (.agg #[(.string ⟨#[]⟩), (.bool false), (Sl.val ⟨none, 0, 0⟩), (.int .i64 0), (.int .u64 0)]) := ⟨Try.t152, by kernel_rfl, by kernel_rfl⟩
theorem zero_ty_slices_sortedHint : zeroT Try.prog ty_slices_sortedHint (.int .i64 0) := ⟨Try.t154, by kernel_rfl, by kernel_rfl⟩
theorem zero_ty_uint32 : zeroT Try.prog ty_uint32 (.int .u32 0) := ⟨Try.t162, by kernel_rfl, by kernel_rfl⟩
theorem zero_ty_slices_xorshift : zeroT Try.prog ty_slices_xorshift (.int .u64 0) := ⟨Try.t167, by kernel_rfl, by kernel_rfl⟩
theorem zero_ty_p_int : zeroT Try.prog ty_p_int (.pointer none) := ⟨Try.t171, by kernel_rfl, by kernel_rfl⟩
theorem zero_ty_p_slices_xorshift : zeroT Try.prog ty_p_slices_xorshift (.pointer none) := ⟨Try.t173, by kernel_rfl, by kernel_rfl⟩
theorem zero_ty_runtime_TypeAssertionError : zeroT Try.prog ty_runtime_TypeAssertionError (.agg #[(.pointer none), (.pointer none), (.pointer none), (.string ⟨#[]⟩)]) := ⟨Try.t178, by kernel_rfl, by kernel_rfl⟩
theorem zero_ty_0_p_runtime_PanicNilError : zeroT Try.prog ty_0_p_runtime_PanicNilError (.agg #[]) := ⟨Try.t179, by kernel_rfl, by kernel_rfl⟩
theorem zero_ty_struct_0_p_runtime_PanicNilError : zeroT Try.prog ty_struct_0_p_runtime_PanicNilError (.agg #[]) := ⟨Try.t180, by kernel_rfl, by kernel_rfl⟩
theorem zero_ty_runtime_PanicNilError : zeroT Try.prog ty_runtime_PanicNilError (.agg #[]) := ⟨Try.t181, by kernel_rfl, by kernel_rfl⟩
theorem zero_ty_abi_TFlag : zeroT Try.prog ty_abi_TFlag (.int .u8 0) := ⟨Try.t183, by kernel_rfl, by kernel_rfl⟩
theorem zero_ty_abi_Kind : zeroT Try.prog ty_abi_Kind (.int .u8 0) := ⟨Try.t184, by kernel_rfl, by kernel_rfl⟩
theorem zero_ty_p_uint8 : zeroT Try.prog ty_p_uint8 (.pointer none) := ⟨Try.t186, by kernel_rfl, by kernel_rfl⟩
theorem zero_ty_abi_NameOff : zeroT Try.prog ty_abi_NameOff (.int .i32 0) := ⟨Try.t187, by kernel_rfl, by kernel_rfl⟩
theorem zero_ty_abi_TypeOff : zeroT Try.prog ty_abi_TypeOff (.int .i32 0) := ⟨Try.t188, by kernel_rfl, by kernel_rfl⟩
theorem zero_ty_p_sched_job : zeroT Try.prog ty_p_sched_job (.pointer none) := ⟨Try.t194, by kernel_rfl, by kernel_rfl⟩
theorem zero_ty_p_locks_gate : zeroT Try.prog ty_p_locks_gate (.pointer none) := ⟨Try.t195, by kernel_rfl, by kernel_rfl⟩
theorem zero_ty_unsafe_Pointer : zeroT Try.prog ty_unsafe_Pointer (.pointer none) := ⟨Try.t197, by kernel_rfl, by kernel_rfl⟩
theorem zero_ty_struct_order_api_Order_need_s_int : zeroT Try.prog ty_struct_order_api_Order_need_s_int (.agg #[(.int .i64 0), (.int .u64 0), (.int .u64 0), (.int .i64 0), (.int .i64 0), (Sl.val ⟨none, 0, 0⟩), (Sl.val ⟨none, 0, 0⟩), (Sl.val ⟨none, 0, 0⟩), (.int .i64 0), (Sl.val ⟨none, 0, 0⟩), (Sl.val ⟨none, 0, 0⟩)]) := ⟨Try.t198, by kernel_rfl, by kernel_rfl⟩
theorem zero_ty_sched_job : zeroT Try.prog ty_sched_job (.agg #[(.int .i64 0), (.int .u64 0), (.int .u64 0), (.int .i64 0), (.int .i64 0), (Sl.val ⟨none, 0, 0⟩), (Sl.val ⟨none, 0, 0⟩), (Sl.val ⟨none, 0, 0⟩), (.int .i64 0), (Sl.val ⟨none, 0, 0⟩), (Sl.val ⟨none, 0, 0⟩)]) := ⟨Try.t199, by kernel_rfl, by kernel_rfl⟩
theorem zero_ty_s_locks_claim : zeroT Try.prog ty_s_locks_claim (Sl.val ⟨none, 0, 0⟩) := ⟨Try.t200, by kernel_rfl, by kernel_rfl⟩
theorem zero_ty_locks_gate : zeroT Try.prog ty_locks_gate (.agg #[(Sl.val ⟨none, 0, 0⟩), (Sl.val ⟨none, 0, 0⟩)]) := ⟨Try.t202, by kernel_rfl, by kernel_rfl⟩
theorem zero_ty_struct_tag_api_Tag_mark_api_Mark : zeroT Try.prog ty_struct_tag_api_Tag_mark_api_Mark (.agg #[(.int .i64 0), (.int .u64 0), (.int .u64 0), (.int .i64 0), (.string ⟨#[]⟩), (.int .i64 0), (.int .u64 0)]) := ⟨Try.t203, by kernel_rfl, by kernel_rfl⟩
theorem zero_ty_locks_claim : zeroT Try.prog ty_locks_claim (.agg #[(.int .i64 0), (.int .u64 0), (.int .u64 0), (.int .i64 0), (.string ⟨#[]⟩), (.int .i64 0), (.int .u64 0)]) := ⟨Try.t204, by kernel_rfl, by kernel_rfl⟩
theorem mixed : Try.prog.follows .mixedOrders = true := by kernel_rfl
end Go.Proofs.Yteolfpghafdmdaa
/- The calls of the program's functions, by name. -/
namespace Go.Proofs.Yteolfpghafdmdaa
open Go Go.Sep
set_option linter.unusedVariables false
set_option linter.unusedSimpArgs false
def law21_FrontOnce.call (txns0 : Sl) (list1 : Sl) (k : Bool → K) : K := CallF Try.prog 3 [(Sl.val txns0), (Sl.val list1)].toArray (Ans1 Value.bool k)
def law21_FrontTries.call (list0 : Sl) (codes1 : Sl) (k : Bool → K) : K := CallF Try.prog 4 [(Sl.val list0), (Sl.val codes1)].toArray (Ans1 Value.bool k)
def law21_FrontFull.call (n0 : Int) (k : Bool → K) : K := CallF Try.prog 5 [(.int .i64 n0)].toArray (Ans1 Value.bool k)
def law21_speaks.call  (k : Bool → K) : K := CallF Try.prog 6 [].toArray (Ans1 Value.bool k)
def front_New.call (node0 : Int) (epoch1 : Int) (regions2 : Int) (k : (Option Addr) → K) : K := CallF Try.prog 7 [(.int .i64 node0), (.int .u64 epoch1), (.int .i64 regions2)].toArray (Ans1 Value.pointer k)
def sched_New.call (regions0 : Int) (k : (Option Addr) → Int → K) : K := CallF Try.prog 8 [(.int .i64 regions0)].toArray (Ans2 (fun r0 r1 => .tuple #[Value.pointer r0, (Value.int .i64) r1]) k)
def ref05_Great.call (t0 : (Array Value)) (k : Bool → K) : K := CallF Try.prog 9 [(.agg t0)].toArray (Ans1 Value.bool k)
def front_Front_Submit.call (f0 : (Option Addr)) (t1 : (Array Value)) (k : (Array Value) → Int → K) : K := CallF Try.prog 10 [(.pointer f0), (.agg t1)].toArray (Ans2 (fun r0 r1 => .tuple #[Value.agg r0, (Value.int .i64) r1]) k)
def front_Front_Orders.call (f0 : (Option Addr)) (s1 : (Option Addr)) (k : Sl → K) : K := CallF Try.prog 11 [(.pointer f0), (.pointer s1)].toArray (Ans1 Sl.val k)
def front_Front_Decide.call (f0 : (Option Addr)) (d1 : (Array Value)) (k : (Array Value) → Bool → K) : K := CallF Try.prog 12 [(.pointer f0), (.agg d1)].toArray (Ans2 (fun r0 r1 => .tuple #[Value.agg r0, Value.bool r1]) k)
def front_Front_Open.call (f0 : (Option Addr)) (k : Sl → K) : K := CallF Try.prog 13 [(.pointer f0)].toArray (Ans1 Sl.val k)
def front_Front_Full.call (f0 : (Option Addr)) (tag1 : (Array Value)) (k : (Array Value) → Bool → K) : K := CallF Try.prog 14 [(.pointer f0), (.agg tag1)].toArray (Ans2 (fun r0 r1 => .tuple #[Value.agg r0, Value.bool r1]) k)
def store_New.call (regions0 : Int) (k : (Option Addr) → Int → K) : K := CallF Try.prog 15 [(.int .i64 regions0)].toArray (Ans2 (fun r0 r1 => .tuple #[Value.pointer r0, (Value.int .i64) r1]) k)
def locks_New.call  (k : (Option Addr) → K) : K := CallF Try.prog 16 [].toArray (Ans1 Value.pointer k)
def filter_Region.call (region0 : Int) (k : (Option Addr) → K) : K := CallF Try.prog 17 [(.int .i64 region0)].toArray (Ans1 Value.pointer k)
def prog_Check.call (t0 : (Array Value)) (regions1 : Int) (k : Int → K) : K := CallF Try.prog 18 [(.agg t0), (.int .i64 regions1)].toArray (Ans1 (Value.int .i64) k)
def prog_Copy.call (t0 : (Array Value)) (k : (Array Value) → K) : K := CallF Try.prog 19 [(.agg t0)].toArray (Ans1 Value.agg k)
def sched_Sched_Make.call (s0 : (Option Addr)) (tag1 : (Array Value)) (t2 : (Array Value)) (k : (Array Value) → K) : K := CallF Try.prog 20 [(.pointer s0), (.agg tag1), (.agg t2)].toArray (Ans1 Value.agg k)
def order_Copy.call (o0 : (Array Value)) (k : (Array Value) → K) : K := CallF Try.prog 21 [(.agg o0)].toArray (Ans1 Value.agg k)
def front_Front_find.call (f0 : (Option Addr)) (tag1 : (Array Value)) (k : Int → K) : K := CallF Try.prog 22 [(.pointer f0), (.agg tag1)].toArray (Ans1 (Value.int .i64) k)
def slices_Clone_s_api_Out_api_Out.call (s0 : Sl) (k : Sl → K) : K := CallF Try.prog 23 [(Sl.val s0)].toArray (Ans1 Sl.val k)
def bytes_Clone.call (b0 : Sl) (k : Sl → K) : K := CallF Try.prog 24 [(Sl.val b0)].toArray (Ans1 Sl.val k)
def front_Front_answer.call (f0 : (Option Addr)) (at1 : Int) (r2 : (Array Value)) (k : (Array Value) → Bool → K) : K := CallF Try.prog 25 [(.pointer f0), (.int .i64 at1), (.agg r2)].toArray (Ans2 (fun r0 r1 => .tuple #[Value.agg r0, Value.bool r1]) k)
def btree_New_string_api_Record.call  (k : (Option Addr) → K) : K := CallF Try.prog 26 [].toArray (Ans1 Value.pointer k)
def prog_declared.call (t0 : (Array Value)) (k : Bool → K) : K := CallF Try.prog 27 [(.agg t0)].toArray (Ans1 Value.bool k)
def prog_Check_1.call (o0 : (Array Value)) (t1 : Addr) (k : Bool → K) : K := CallF Try.prog 28 [(.agg o0), (.pointer (some t1))].toArray (Ans1 Value.bool k)
def prog_step.call (t0 : (Array Value)) (o1 : (Array Value)) (k : Bool → K) : K := CallF Try.prog 29 [(.agg t0), (.agg o1)].toArray (Ans1 Value.bool k)
def slices_ContainsFunc_s_api_Op_api_Op.call (s0 : Sl) (f1 : Value) (k : Bool → K) : K := CallF Try.prog 30 [(Sl.val s0), f1].toArray (Ans1 Value.bool k)
def slices_Clone_s_string_string.call (s0 : Sl) (k : Sl → K) : K := CallF Try.prog 31 [(Sl.val s0)].toArray (Ans1 Sl.val k)
def slices_Clone_s_api_Op_api_Op.call (s0 : Sl) (k : Sl → K) : K := CallF Try.prog 32 [(Sl.val s0)].toArray (Ans1 Sl.val k)
def route_Make.call (s0 : (Option Addr)) (tag1 : (Array Value)) (t2 : (Array Value)) (k : (Array Value) → K) : K := CallF Try.prog 33 [(.pointer s0), (.agg tag1), (.agg t2)].toArray (Ans1 Value.agg k)
def slices_Clone_s_api_Mark_api_Mark.call (s0 : Sl) (k : Sl → K) : K := CallF Try.prog 34 [(Sl.val s0)].toArray (Ans1 Sl.val k)
def slices_IndexFunc_s_front_entry_front_entry.call (s0 : Sl) (f1 : Value) (k : Int → K) : K := CallF Try.prog 35 [(Sl.val s0), f1].toArray (Ans1 (Value.int .i64) k)
def front_Front_find_1.call (e0 : (Option Addr)) (t1 : Addr) (k : Bool → K) : K := CallF Try.prog 36 [(.pointer e0), (.pointer (some t1))].toArray (Ans1 Value.bool k)
def slices_Delete_s_front_entry_front_entry.call (s0 : Sl) (i1 : Int) (j2 : Int) (k : Sl → K) : K := CallF Try.prog 37 [(Sl.val s0), (.int .i64 i1), (.int .i64 j2)].toArray (Ans1 Sl.val k)
def prog_rises.call (keys0 : Sl) (k : Bool → K) : K := CallF Try.prog 38 [(Sl.val keys0)].toArray (Ans1 Value.bool k)
def slices_ContainsFunc_s_string_string.call (s0 : Sl) (f1 : Value) (k : Bool → K) : K := CallF Try.prog 39 [(Sl.val s0), f1].toArray (Ans1 Value.bool k)
def prog_declared_1.call (k0 : ByteArray) (t1 : Addr) (k : Bool → K) : K := CallF Try.prog 40 [(.string k0), (.pointer (some t1))].toArray (Ans1 Value.bool k)
def slices_Contains_s_string_string.call (s0 : Sl) (v1 : ByteArray) (k : Bool → K) : K := CallF Try.prog 41 [(Sl.val s0), (.string v1)].toArray (Ans1 Value.bool k)
def slices_IndexFunc_s_api_Op_api_Op.call (s0 : Sl) (f1 : Value) (k : Int → K) : K := CallF Try.prog 42 [(Sl.val s0), f1].toArray (Ans1 (Value.int .i64) k)
def route_Marks.call (s0 : (Option Addr)) (t1 : (Array Value)) (k : Sl → K) : K := CallF Try.prog 43 [(.pointer s0), (.agg t1)].toArray (Ans1 Sl.val k)
def slices_IndexFunc_s_string_string.call (s0 : Sl) (f1 : Value) (k : Int → K) : K := CallF Try.prog 44 [(Sl.val s0), f1].toArray (Ans1 (Value.int .i64) k)
def slices_Index_s_string_string.call (s0 : Sl) (v1 : ByteArray) (k : Int → K) : K := CallF Try.prog 45 [(Sl.val s0), (.string v1)].toArray (Ans1 (Value.int .i64) k)
def prog_Keys.call (t0 : (Array Value)) (k : Sl → K) : K := CallF Try.prog 46 [(.agg t0)].toArray (Ans1 Sl.val k)
def store_Store_Get.call (s0 : (Option Addr)) (key1 : ByteArray) (k : (Array Value) → K) : K := CallF Try.prog 47 [(.pointer s0), (.string key1)].toArray (Ans1 Value.agg k)
def slices_Concat_s_string_string.call (slices0 : Sl) (k : Sl → K) : K := CallF Try.prog 48 [(Sl.val slices0)].toArray (Ans1 Sl.val k)
def slices_Sort_s_string_string.call (x0 : Sl) (k : K) : K := CallF Try.prog 49 [(Sl.val x0)].toArray (Ans0 (.tuple #[]) k)
def slices_Compact_s_string_string.call (s0 : Sl) (k : Sl → K) : K := CallF Try.prog 50 [(Sl.val s0)].toArray (Ans1 Sl.val k)
def btree_Tree_string_api_Record_Get.call (t0 : (Option Addr)) (key1 : ByteArray) (k : (Array Value) → Bool → K) : K := CallF Try.prog 51 [(.pointer t0), (.string key1)].toArray (Ans2 (fun r0 r1 => .tuple #[Value.agg r0, Value.bool r1]) k)
def store_Default.call (key0 : ByteArray) (regions1 : Int) (k : Int → K) : K := CallF Try.prog 52 [(.string key0), (.int .i64 regions1)].toArray (Ans1 (Value.int .i64) k)
def slices_Grow_s_string_string.call (s0 : Sl) (n1 : Int) (k : Sl → K) : K := CallF Try.prog 53 [(Sl.val s0), (.int .i64 n1)].toArray (Ans1 Sl.val k)
def slices_pdqsortOrdered_string.call (data0 : Sl) (a1 : Int) (b2 : Int) (limit3 : Int) (k : K) : K := CallF Try.prog 54 [(Sl.val data0), (.int .i64 a1), (.int .i64 b2), (.int .i64 limit3)].toArray (Ans0 (.tuple #[]) k)
def math_bits_Len.call (x0 : Int) (k : Int → K) : K := CallF Try.prog 55 [(.int .u64 x0)].toArray (Ans1 (Value.int .i64) k)
def btree_node_string_api_Record_search.call (n0 : (Option Addr)) (key1 : ByteArray) (k : Int → Bool → K) : K := CallF Try.prog 56 [(.pointer n0), (.string key1)].toArray (Ans2 (fun r0 r1 => .tuple #[(Value.int .i64) r0, Value.bool r1]) k)
def slices_insertionSortOrdered_string.call (data0 : Sl) (a1 : Int) (b2 : Int) (k : K) : K := CallF Try.prog 57 [(Sl.val data0), (.int .i64 a1), (.int .i64 b2)].toArray (Ans0 (.tuple #[]) k)
def slices_heapSortOrdered_string.call (data0 : Sl) (a1 : Int) (b2 : Int) (k : K) : K := CallF Try.prog 58 [(Sl.val data0), (.int .i64 a1), (.int .i64 b2)].toArray (Ans0 (.tuple #[]) k)
def slices_breakPatternsOrdered_string.call (data0 : Sl) (a1 : Int) (b2 : Int) (k : K) : K := CallF Try.prog 59 [(Sl.val data0), (.int .i64 a1), (.int .i64 b2)].toArray (Ans0 (.tuple #[]) k)
def slices_choosePivotOrdered_string.call (data0 : Sl) (a1 : Int) (b2 : Int) (k : Int → Int → K) : K := CallF Try.prog 60 [(Sl.val data0), (.int .i64 a1), (.int .i64 b2)].toArray (Ans2 (fun r0 r1 => .tuple #[(Value.int .i64) r0, (Value.int .i64) r1]) k)
def slices_reverseRangeOrdered_string.call (data0 : Sl) (a1 : Int) (b2 : Int) (k : K) : K := CallF Try.prog 61 [(Sl.val data0), (.int .i64 a1), (.int .i64 b2)].toArray (Ans0 (.tuple #[]) k)
def slices_partialInsertionSortOrdered_string.call (data0 : Sl) (a1 : Int) (b2 : Int) (k : Bool → K) : K := CallF Try.prog 62 [(Sl.val data0), (.int .i64 a1), (.int .i64 b2)].toArray (Ans1 Value.bool k)
def cmp_Less_string.call (x0 : ByteArray) (y1 : ByteArray) (k : Bool → K) : K := CallF Try.prog 63 [(.string x0), (.string y1)].toArray (Ans1 Value.bool k)
def slices_partitionEqualOrdered_string.call (data0 : Sl) (a1 : Int) (b2 : Int) (pivot3 : Int) (k : Int → K) : K := CallF Try.prog 64 [(Sl.val data0), (.int .i64 a1), (.int .i64 b2), (.int .i64 pivot3)].toArray (Ans1 (Value.int .i64) k)
def slices_partitionOrdered_string.call (data0 : Sl) (a1 : Int) (b2 : Int) (pivot3 : Int) (k : Int → Bool → K) : K := CallF Try.prog 65 [(Sl.val data0), (.int .i64 a1), (.int .i64 b2), (.int .i64 pivot3)].toArray (Ans2 (fun r0 r1 => .tuple #[(Value.int .i64) r0, Value.bool r1]) k)
def math_bits_Len32.call (x0 : Int) (k : Int → K) : K := CallF Try.prog 66 [(.int .u32 x0)].toArray (Ans1 (Value.int .i64) k)
def math_bits_Len64.call (x0 : Int) (k : Int → K) : K := CallF Try.prog 67 [(.int .u64 x0)].toArray (Ans1 (Value.int .i64) k)
def slices_BinarySearchFunc_s_btree_item_string_api_Record_btree_item_string_api_Record_string.call (x0 : Sl) (target1 : ByteArray) (cmp2 : Value) (k : Int → Bool → K) : K := CallF Try.prog 68 [(Sl.val x0), (.string target1), cmp2].toArray (Ans2 (fun r0 r1 => .tuple #[(Value.int .i64) r0, Value.bool r1]) k)
def btree_node_string_api_Record_search_1.call (x0 : (Array Value)) (k1 : ByteArray) (k : Int → K) : K := CallF Try.prog 69 [(.agg x0), (.string k1)].toArray (Ans1 (Value.int .i64) k)
def cmp_Compare_string.call (x0 : ByteArray) (y1 : ByteArray) (k : Int → K) : K := CallF Try.prog 70 [(.string x0), (.string y1)].toArray (Ans1 (Value.int .i64) k)
def slices_siftDownOrdered_string.call (data0 : Sl) (lo1 : Int) (hi2 : Int) (first3 : Int) (k : K) : K := CallF Try.prog 71 [(Sl.val data0), (.int .i64 lo1), (.int .i64 hi2), (.int .i64 first3)].toArray (Ans0 (.tuple #[]) k)
def slices_nextPowerOfTwo.call (length0 : Int) (k : Int → K) : K := CallF Try.prog 72 [(.int .i64 length0)].toArray (Ans1 (Value.int .u64) k)
def slices_xorshift_Next.call (r0 : (Option Addr)) (k : Int → K) : K := CallF Try.prog 73 [(.pointer r0)].toArray (Ans1 (Value.int .u64) k)
def slices_medianAdjacentOrdered_string.call (data0 : Sl) (a1 : Int) (swaps2 : (Option Addr)) (k : Int → K) : K := CallF Try.prog 74 [(Sl.val data0), (.int .i64 a1), (.pointer swaps2)].toArray (Ans1 (Value.int .i64) k)
def slices_medianOrdered_string.call (data0 : Sl) (a1 : Int) (b2 : Int) (c3 : Int) (swaps4 : (Option Addr)) (k : Int → K) : K := CallF Try.prog 75 [(Sl.val data0), (.int .i64 a1), (.int .i64 b2), (.int .i64 c3), (.pointer swaps4)].toArray (Ans1 (Value.int .i64) k)
def cmp_isNaN_string.call (x0 : ByteArray) (k : Bool → K) : K := CallF Try.prog 76 [(.string x0)].toArray (Ans1 Value.bool k)
def slices_order2Ordered_string.call (data0 : Sl) (a1 : Int) (b2 : Int) (swaps3 : (Option Addr)) (k : Int → Int → K) : K := CallF Try.prog 77 [(Sl.val data0), (.int .i64 a1), (.int .i64 b2), (.pointer swaps3)].toArray (Ans2 (fun r0 r1 => .tuple #[(Value.int .i64) r0, (Value.int .i64) r1]) k)
end Go.Proofs.Yteolfpghafdmdaa
/- Plain forms of functions, and that their code comes to them (package lib_slices). -/
namespace Go.Proofs.Yteolfpghafdmdaa
open Go Go.Sep
set_option linter.unusedVariables false
set_option linter.unusedSimpArgs false
set_option maxRecDepth 100000
set_option maxHeartbeats 4000000
attribute [local irreducible] G Gp Cx Tx Ex Sx Dx Ox Ax Lx Rx Fx Bx Bj Al Do Ld LdN St StN New CallF Ar DoU Rd Rd2 Pu Cd Ite Fv CallV CallY Ans0 Ans1 Ans2 Ans3 Ans4 Ans5 Ext Dead Dr WithS Sv LdS LdNS RdS Rd2S Nn Idx IdxA IdxS Fld Bld Slc SlcS Cat All LoopK RangeF RangeJ TakeD
namespace F_IRLibSlices
instance at_83 : AT Try.prog 83 4 := ⟨by kernel_rfl⟩
instance cb_42 : CB Try.prog 42 := ⟨by kernel_rfl⟩
instance cb_44 : CB Try.prog 44 := ⟨by kernel_rfl⟩
instance cb_45 : CB Try.prog 45 := ⟨by kernel_rfl⟩
instance cb_53 : CB Try.prog 53 := ⟨by kernel_rfl⟩
instance cb_54 : CB Try.prog 54 := ⟨by kernel_rfl⟩
instance cb_55 : CB Try.prog 55 := ⟨by kernel_rfl⟩
instance ct_33 : CT Try.prog 33 := ⟨by kernel_rfl⟩
instance ct_85 : CT Try.prog 85 := ⟨by kernel_rfl⟩
instance ct_9 : CT Try.prog 9 := ⟨by kernel_rfl⟩
instance in_148 : INT Try.prog 148 .u64 := ⟨by kernel_rfl⟩
instance in_3 : INT Try.prog 3 .i64 := ⟨by kernel_rfl⟩
instance mx : MX Try.prog := ⟨mixed⟩
instance sl_144 : SLT Try.prog 144 33 1 := ⟨by kernel_rfl⟩
instance sl_33 : SLT Try.prog 33 9 1 := ⟨by kernel_rfl⟩
instance sl_34 : SLT Try.prog 34 83 4 := ⟨by kernel_rfl⟩
instance sl_44 : SLT Try.prog 44 95 2 := ⟨by kernel_rfl⟩
instance sl_61 : SLT Try.prog 61 118 3 := ⟨by kernel_rfl⟩
instance sl_67 : SLT Try.prog 67 85 1 := ⟨by kernel_rfl⟩
instance sz_9 : SZ Try.prog 9 1 := ⟨by kernel_rfl⟩
instance un_33 : UN Try.prog 33 (.slice 9) := ⟨Try.underlying33⟩
instance un_34 : UN Try.prog 34 (.slice 83) := ⟨Try.underlying34⟩
instance un_44 : UN Try.prog 44 (.slice 95) := ⟨Try.underlying44⟩
instance un_61 : UN Try.prog 61 (.slice 118) := ⟨Try.underlying61⟩
instance zt_118 : ZT Try.prog 118 (.agg #[(.string ⟨#[]⟩), (.int .i64 0), (.int .u64 0)]) := ⟨Try.t118, by kernel_rfl, by kernel_rfl⟩
instance zt_83 : ZT Try.prog 83 (.agg #[(.int .i64 0), (.string ⟨#[]⟩), (Sl.val ⟨none, 0, 0⟩), (.int .i64 0)]) := ⟨Try.t83, by kernel_rfl, by kernel_rfl⟩
instance zt_9 : ZT Try.prog 9 (.string ⟨#[]⟩) := ⟨Try.t9, by kernel_rfl, by kernel_rfl⟩
instance zt_95 : ZT Try.prog 95 (.agg #[(.bool false), (Sl.val ⟨none, 0, 0⟩)]) := ⟨Try.t95, by kernel_rfl, by kernel_rfl⟩
end F_IRLibSlices
def slices_Clone_s_api_Out_api_Out (s0 : Sl) (Q : Sl → K) : K :=
  Ite ((s0).a.isNone)
    (Q (Sl.mk none 0 0))
    (New 95 #[] fun t5 =>
    Do Try.prog (Builtin.append_ #[44, 44] 44 #[(Sl.val (Sl.mk (some t5) 0 0)), (Sl.val s0)]) Sl.val fun t7 =>
    Q t7)
theorem slices_Clone_s_api_Out_api_Out_ok (s0 : Sl) (Q : Sl → K) (w : World) (h : slices_Clone_s_api_Out_api_Out s0 Q w) : slices_Clone_s_api_Out_api_Out.call s0 Q w := by
  exact g_walk 8 h Try.func23
def slices_ContainsFunc_s_api_Op_api_Op (s0 : Sl) (f1 : Value) (Q : Bool → K) : K :=
  slices_IndexFunc_s_api_Op_api_Op.call s0 f1 fun t7 =>
  Q (decide ((0 : Int) ≤ t7))
theorem slices_ContainsFunc_s_api_Op_api_Op_ok (s0 : Sl) (f1 : Value) (Q : Bool → K) (w : World) (h : slices_ContainsFunc_s_api_Op_api_Op s0 f1 Q w) : slices_ContainsFunc_s_api_Op_api_Op.call s0 f1 Q w := by
  exact g_walk 9 h Try.func30
def slices_Clone_s_string_string (s0 : Sl) (Q : Sl → K) : K :=
  Ite ((s0).a.isNone)
    (Q (Sl.mk none 0 0))
    (New 9 #[] fun t5 =>
    Do Try.prog (Builtin.append_ #[33, 33] 33 #[(Sl.val (Sl.mk (some t5) 0 0)), (Sl.val s0)]) Sl.val fun t7 =>
    Q t7)
theorem slices_Clone_s_string_string_ok (s0 : Sl) (Q : Sl → K) (w : World) (h : slices_Clone_s_string_string s0 Q w) : slices_Clone_s_string_string.call s0 Q w := by
  exact g_walk 8 h Try.func31
def slices_Clone_s_api_Op_api_Op (s0 : Sl) (Q : Sl → K) : K :=
  Ite ((s0).a.isNone)
    (Q (Sl.mk none 0 0))
    (New 83 #[] fun t5 =>
    Do Try.prog (Builtin.append_ #[34, 34] 34 #[(Sl.val (Sl.mk (some t5) 0 0)), (Sl.val s0)]) Sl.val fun t7 =>
    Q t7)
theorem slices_Clone_s_api_Op_api_Op_ok (s0 : Sl) (Q : Sl → K) (w : World) (h : slices_Clone_s_api_Op_api_Op s0 Q w) : slices_Clone_s_api_Op_api_Op.call s0 Q w := by
  exact g_walk 8 h Try.func32
def slices_Clone_s_api_Mark_api_Mark (s0 : Sl) (Q : Sl → K) : K :=
  Ite ((s0).a.isNone)
    (Q (Sl.mk none 0 0))
    (New 118 #[] fun t5 =>
    Do Try.prog (Builtin.append_ #[61, 61] 61 #[(Sl.val (Sl.mk (some t5) 0 0)), (Sl.val s0)]) Sl.val fun t7 =>
    Q t7)
theorem slices_Clone_s_api_Mark_api_Mark_ok (s0 : Sl) (Q : Sl → K) (w : World) (h : slices_Clone_s_api_Mark_api_Mark s0 Q w) : slices_Clone_s_api_Mark_api_Mark.call s0 Q w := by
  exact g_walk 8 h Try.func34
def slices_IndexFunc_s_front_entry_front_entry.b1 (Q : Int → K)  (X1 : Int → K) (s0_1 : Sl) (f1_1 : Value) (t7_1 : Int) (t8_1 : Int) : K :=
  Ite (decide (t8_1 < t7_1))
    (Idx s0_1 t8_1 1 fun t14 =>
    Ld t14 Value.pointer fun t15 =>
    CallV Try.prog f1_1 [(.pointer t15)] <| Ans1 (fun (t16 : Bool) => Value.bool t16) fun t16 =>
    Ite t16
      (Q t8_1)
      (Ar (IntKind.wrap .i64 (t8_1 + 1)) fun t18 =>
      X1 t18))
    (Q (-1))
def slices_IndexFunc_s_front_entry_front_entry (s0 : Sl) (f1 : Value) (Q : Int → K) : K :=
  LoopK (α := Int) (fun X x => slices_IndexFunc_s_front_entry_front_entry.b1 Q X s0 f1 (s0.n : Int) x) 0
theorem slices_IndexFunc_s_front_entry_front_entry_ok (s0 : Sl) (f1 : Value) (Q : Int → K) (w : World) (h : slices_IndexFunc_s_front_entry_front_entry s0 f1 Q w) : slices_IndexFunc_s_front_entry_front_entry.call s0 f1 Q w := by
  have hL2 : ∀ (s0_1 : Sl) (f1_1 : Value) (t7_1 : Int), LH 2 (fun x : Int => [(0, (Sl.val s0_1)), (1, f1_1), (7, (.int .i64 t7_1)), (8, (.int .i64 x))]) (fun X x => slices_IndexFunc_s_front_entry_front_entry.b1 Q X s0_1 f1_1 t7_1 x) := by intros; exact ⟨⟩
  exact g_walk 19 h Try.func35
def slices_Delete_s_front_entry_front_entry (s0 : Sl) (i1 : Int) (j2 : Int) (Q : Sl → K) : K :=
  Slc s0 i1 j2 (s0.n : Int) 1 fun t13 =>
  Ite (decide (i1 = j2))
    (Q s0)
    (Dr <|
    Slc s0 0 i1 (s0.c : Int) 1 fun t22 =>
    Slc s0 j2 (s0.n : Int) (s0.c : Int) 1 fun t25 =>
    Do Try.prog (Builtin.append_ #[67, 67] 67 #[(Sl.val t22), (Sl.val t25)]) Sl.val fun t26 =>
    Slc t26 (t26.n : Int) (s0.n : Int) (t26.c : Int) 1 fun t31 =>
    Do Try.prog (Builtin.clear_ #[67] 0 #[(Sl.val t31)]) id fun _ =>
    Q t26)
theorem slices_Delete_s_front_entry_front_entry_ok (s0 : Sl) (i1 : Int) (j2 : Int) (Q : Sl → K) (w : World) (h : slices_Delete_s_front_entry_front_entry s0 i1 j2 Q w) : slices_Delete_s_front_entry_front_entry.call s0 i1 j2 Q w := by
  have hD5 : DH 5 0 [] (.s [0, 1, 2, 3, 4, 5] (.a [(6, 0, .s [7] .e)])) := by intros; exact ⟨⟩
  exact g_walk 33 h Try.func37
def slices_ContainsFunc_s_string_string (s0 : Sl) (f1 : Value) (Q : Bool → K) : K :=
  slices_IndexFunc_s_string_string.call s0 f1 fun t7 =>
  Q (decide ((0 : Int) ≤ t7))
theorem slices_ContainsFunc_s_string_string_ok (s0 : Sl) (f1 : Value) (Q : Bool → K) (w : World) (h : slices_ContainsFunc_s_string_string s0 f1 Q w) : slices_ContainsFunc_s_string_string.call s0 f1 Q w := by
  exact g_walk 9 h Try.func39
def slices_Contains_s_string_string (s0 : Sl) (v1 : ByteArray) (Q : Bool → K) : K :=
  slices_Index_s_string_string.call s0 v1 fun t7 =>
  Q (decide ((0 : Int) ≤ t7))
theorem slices_Contains_s_string_string_ok (s0 : Sl) (v1 : ByteArray) (Q : Bool → K) (w : World) (h : slices_Contains_s_string_string s0 v1 Q w) : slices_Contains_s_string_string.call s0 v1 Q w := by
  exact g_walk 9 h Try.func41
def slices_IndexFunc_s_api_Op_api_Op.b1 (Q : Int → K)  (X1 : Int → K) (s0_1 : Sl) (f1_1 : Value) (t7_1 : Int) (t8_1 : Int) : K :=
  Ite (decide (t8_1 < t7_1))
    (Idx s0_1 t8_1 4 fun t14 =>
    LdN t14 4 fun t15 =>
    CallV Try.prog f1_1 [(.agg t15)] <| Ans1 (fun (t16 : Bool) => Value.bool t16) fun t16 =>
    Ite t16
      (Q t8_1)
      (Ar (IntKind.wrap .i64 (t8_1 + 1)) fun t18 =>
      X1 t18))
    (Q (-1))
def slices_IndexFunc_s_api_Op_api_Op (s0 : Sl) (f1 : Value) (Q : Int → K) : K :=
  LoopK (α := Int) (fun X x => slices_IndexFunc_s_api_Op_api_Op.b1 Q X s0 f1 (s0.n : Int) x) 0
theorem slices_IndexFunc_s_api_Op_api_Op_ok (s0 : Sl) (f1 : Value) (Q : Int → K) (w : World) (h : slices_IndexFunc_s_api_Op_api_Op s0 f1 Q w) : slices_IndexFunc_s_api_Op_api_Op.call s0 f1 Q w := by
  have hL2 : ∀ (s0_1 : Sl) (f1_1 : Value) (t7_1 : Int), LH 2 (fun x : Int => [(0, (Sl.val s0_1)), (1, f1_1), (7, (.int .i64 t7_1)), (8, (.int .i64 x))]) (fun X x => slices_IndexFunc_s_api_Op_api_Op.b1 Q X s0_1 f1_1 t7_1 x) := by intros; exact ⟨⟩
  exact g_walk 19 h Try.func42
def slices_IndexFunc_s_string_string.b1 (Q : Int → K)  (X1 : Int → K) (s0_1 : Sl) (f1_1 : Value) (t7_1 : Int) (t8_1 : Int) : K :=
  Ite (decide (t8_1 < t7_1))
    (Idx s0_1 t8_1 1 fun t14 =>
    Ld t14 Value.string fun t15 =>
    CallV Try.prog f1_1 [(.string t15)] <| Ans1 (fun (t16 : Bool) => Value.bool t16) fun t16 =>
    Ite t16
      (Q t8_1)
      (Ar (IntKind.wrap .i64 (t8_1 + 1)) fun t18 =>
      X1 t18))
    (Q (-1))
def slices_IndexFunc_s_string_string (s0 : Sl) (f1 : Value) (Q : Int → K) : K :=
  LoopK (α := Int) (fun X x => slices_IndexFunc_s_string_string.b1 Q X s0 f1 (s0.n : Int) x) 0
theorem slices_IndexFunc_s_string_string_ok (s0 : Sl) (f1 : Value) (Q : Int → K) (w : World) (h : slices_IndexFunc_s_string_string s0 f1 Q w) : slices_IndexFunc_s_string_string.call s0 f1 Q w := by
  have hL2 : ∀ (s0_1 : Sl) (f1_1 : Value) (t7_1 : Int), LH 2 (fun x : Int => [(0, (Sl.val s0_1)), (1, f1_1), (7, (.int .i64 t7_1)), (8, (.int .i64 x))]) (fun X x => slices_IndexFunc_s_string_string.b1 Q X s0_1 f1_1 t7_1 x) := by intros; exact ⟨⟩
  exact g_walk 19 h Try.func44
def slices_Index_s_string_string.b1 (Q : Int → K)  (X1 : Int → K) (s0_1 : Sl) (v1_1 : ByteArray) (t7_1 : Int) (t8_1 : Int) : K :=
  Ite (decide (t8_1 < t7_1))
    (Idx s0_1 t8_1 1 fun t14 =>
    Ld t14 Value.string fun t15 =>
    Ite (v1_1.toList == t15.toList)
      (Q t8_1)
      (Ar (IntKind.wrap .i64 (t8_1 + 1)) fun t18 =>
      X1 t18))
    (Q (-1))
def slices_Index_s_string_string (s0 : Sl) (v1 : ByteArray) (Q : Int → K) : K :=
  LoopK (α := Int) (fun X x => slices_Index_s_string_string.b1 Q X s0 v1 (s0.n : Int) x) 0
theorem slices_Index_s_string_string_ok (s0 : Sl) (v1 : ByteArray) (Q : Int → K) (w : World) (h : slices_Index_s_string_string s0 v1 Q w) : slices_Index_s_string_string.call s0 v1 Q w := by
  have hL2 : ∀ (s0_1 : Sl) (v1_1 : ByteArray) (t7_1 : Int), LH 2 (fun x : Int => [(0, (Sl.val s0_1)), (1, (.string v1_1)), (7, (.int .i64 t7_1)), (8, (.int .i64 x))]) (fun X x => slices_Index_s_string_string.b1 Q X s0_1 v1_1 t7_1 x) := by intros; exact ⟨⟩
  exact g_walk 19 h Try.func45
def slices_Concat_s_string_string.s2 (Q : Sl → K) (X1 : Int → Int → K) (slices0_2 : Sl) (size3_2 : Int) (t9_2 : Sl) (t10_2 : Int) (t11_2 : Int) : K :=
  Ar (IntKind.wrap .i64 (t11_2 + 1)) fun t22 =>
  X1 size3_2 t22
def slices_Concat_s_string_string.b3 (Q : Sl → K) (X1 : Int → Int → K) (X3 : Sl → Int → K) (t25_3 : Sl) (t26_3 : Int) (newslice6_3 : Sl) (t27_3 : Int) : K :=
  Ite (decide (t27_3 < t26_3))
    (Idx t25_3 t27_3 1 fun t29 =>
    Ld t29 Sl.val fun t30 =>
    Do Try.prog (Builtin.append_ #[33, 33] 33 #[(Sl.val newslice6_3), (Sl.val t30)]) Sl.val fun t33 =>
    Ar (IntKind.wrap .i64 (t27_3 + 1)) fun t34 =>
    X3 t33 t34)
    (Q newslice6_3)
def slices_Concat_s_string_string.b1 (Q : Sl → K)  (X1 : Int → Int → K) (slices0_1 : Sl) (t9_1 : Sl) (t10_1 : Int) (size3_1 : Int) (t11_1 : Int) : K :=
  Ite (decide (t11_1 < t10_1))
    (Idx t9_1 t11_1 1 fun t13 =>
    Ld t13 Sl.val fun t14 =>
    Ar (IntKind.wrap .i64 (size3_1 + (t14.n : Int))) fun t18 =>
    Ite (decide (t18 < 0))
      (Rd Try.prog (Instr.makeInterface 9 (.string ⟨#[108, 101, 110, 32, 111, 117, 116, 32, 111, 102, 32, 114, 97, 110, 103, 101]⟩)) id fun t21 =>
      Dead)
      (slices_Concat_s_string_string.s2 Q X1 slices0_1 t18 t9_1 t10_1 t11_1))
    (slices_Grow_s_string_string.call (Sl.mk none 0 0) size3_1 fun t24 =>
    LoopK (α := Sl × Int) (fun X x => slices_Concat_s_string_string.b3 Q X1 (fun newslice6_3 t27_3 => X (newslice6_3, t27_3)) slices0_1 (slices0_1.n : Int) x.1 x.2) (t24, 0))
def slices_Concat_s_string_string (slices0 : Sl) (Q : Sl → K) : K :=
  LoopK (α := Int × Int) (fun X x => slices_Concat_s_string_string.b1 Q (fun size3_1 t11_1 => X (size3_1, t11_1)) slices0 slices0 (slices0.n : Int) x.1 x.2) (0, 0)
theorem slices_Concat_s_string_string_ok (slices0 : Sl) (Q : Sl → K) (w : World) (h : slices_Concat_s_string_string slices0 Q w) : slices_Concat_s_string_string.call slices0 Q w := by
  have hJ8 : ∀ (X1 : (Int × Int) → K), XH 3 X1 → JH 8 fun D => ∃ (slices0_2 : Sl) (t9_2 : Sl) (t10_2 : Int) (t11_2 : Int), D [(0, (Sl.val slices0_2)), (9, (Sl.val t9_2)), (10, (.int .i64 t10_2)), (11, (.int .i64 t11_2))] (fun C => ∀ (size3_2 : Int), C [(0, (Sl.val slices0_2)), (3, (.int .i64 size3_2)), (9, (Sl.val t9_2)), (10, (.int .i64 t10_2)), (11, (.int .i64 t11_2))] (slices_Concat_s_string_string.s2 Q (fun size3_1 t11_1 => X1 (size3_1, t11_1)) slices0_2 size3_2 t9_2 t10_2 t11_2)) := by intros; exact ⟨fun _ ⟨_, _, _, _, h⟩ => ⟨_, _, h⟩⟩
  have hL11 : ∀ (X1 : (Int × Int) → K), XH 3 X1 → ∀ (t25_3 : Sl) (t26_3 : Int), LH 11 (fun x : Sl × Int => [(6, (Sl.val x.1)), (25, (Sl.val t25_3)), (26, (.int .i64 t26_3)), (27, (.int .i64 x.2))]) (fun X x => slices_Concat_s_string_string.b3 Q (fun size3_1 t11_1 => X1 (size3_1, t11_1)) (fun newslice6_3 t27_3 => X (newslice6_3, t27_3)) t25_3 t26_3 x.1 x.2) := by intros; exact ⟨⟩
  have hL3 : ∀ (slices0_1 : Sl) (t9_1 : Sl) (t10_1 : Int), LH 3 (fun x : Int × Int => [(0, (Sl.val slices0_1)), (3, (.int .i64 x.1)), (9, (Sl.val t9_1)), (10, (.int .i64 t10_1)), (11, (.int .i64 x.2))]) (fun X x => slices_Concat_s_string_string.b1 Q (fun size3_1 t11_1 => X (size3_1, t11_1)) slices0_1 t9_1 t10_1 x.1 x.2) := by intros; exact ⟨⟩
  exact g_walk 36 h Try.func48
def slices_Sort_s_string_string (x0 : Sl) (Q : K) : K :=
  Ar (IntKind.wrap .u64 (x0.n : Int)) fun t8 =>
  math_bits_Len.call t8 fun t9 =>
  slices_pdqsortOrdered_string.call x0 0 (x0.n : Int) t9 <|
  Q
theorem slices_Sort_s_string_string_ok (x0 : Sl) (Q : K) (w : World) (h : slices_Sort_s_string_string x0 Q w) : slices_Sort_s_string_string.call x0 Q w := by
  exact g_walk 11 h Try.func49
def slices_Compact_s_string_string.s3 (Q : Sl → K) (X1 : Int → K) (X2 : Int → Int → K) (s0_3 : Sl) (k3_3 : Int) (s4_3 : Sl) (k5_3 : Int) : K :=
  Ar (IntKind.wrap .i64 (k5_3 + 1)) fun t34 =>
  X2 k3_3 t34
def slices_Compact_s_string_string.b2 (Q : Sl → K) (X1 : Int → K) (X2 : Int → Int → K) (s0_2 : Sl) (s4_2 : Sl) (k3_2 : Int) (k5_2 : Int) : K :=
  Ite (decide (k5_2 < (s4_2.n : Int)))
    (Dr <|
    Idx s4_2 k5_2 1 fun t37 =>
    Ld t37 Value.string fun t38 =>
    Ar (IntKind.wrap .i64 (k5_2 - 1)) fun t41 =>
    Idx s4_2 t41 1 fun t42 =>
    Ld t42 Value.string fun t43 =>
    Ite (!(t38.toList == t43.toList))
      (Idx s4_2 k5_2 1 fun t49 =>
      Ld t49 Value.string fun t50 =>
      Idx s0_2 k3_2 1 fun t51 =>
      St t51 (.string t50) <|
      Ar (IntKind.wrap .i64 (k3_2 + 1)) fun t53 =>
      slices_Compact_s_string_string.s3 Q X1 X2 s0_2 t53 s4_2 k5_2)
      (slices_Compact_s_string_string.s3 Q X1 X2 s0_2 k3_2 s4_2 k5_2))
    (Slc s0_2 k3_2 (s0_2.n : Int) (s0_2.c : Int) 1 fun t56 =>
    Do Try.prog (Builtin.clear_ #[33] 0 #[(Sl.val t56)]) id fun _ =>
    Slc s0_2 0 k3_2 (s0_2.c : Int) 1 fun t59 =>
    Q t59)
def slices_Compact_s_string_string.b1 (Q : Sl → K)  (X1 : Int → K) (s0_1 : Sl) (k3_1 : Int) : K :=
  Ite (decide (k3_1 < (s0_1.n : Int)))
    (Dr <|
    Idx s0_1 k3_1 1 fun t18 =>
    Ld t18 Value.string fun t19 =>
    Ar (IntKind.wrap .i64 (k3_1 - 1)) fun t22 =>
    Idx s0_1 t22 1 fun t23 =>
    Ld t23 Value.string fun t24 =>
    Ite (t19.toList == t24.toList)
      (Slc s0_1 k3_1 (s0_1.n : Int) (s0_1.c : Int) 1 fun t28 =>
      LoopK (α := Int × Int) (fun X x => slices_Compact_s_string_string.b2 Q X1 (fun k3_2 k5_2 => X (k3_2, k5_2)) s0_1 t28 x.1 x.2) (k3_1, 1))
      (Ar (IntKind.wrap .i64 (k3_1 + 1)) fun t15 =>
      X1 t15))
    (Q s0_1)
def slices_Compact_s_string_string (s0 : Sl) (Q : Sl → K) : K :=
  Ite (decide ((s0.n : Int) < 2))
    (Q s0)
    (LoopK (α := Int) (fun X x => slices_Compact_s_string_string.b1 Q X s0 x) 1)
theorem slices_Compact_s_string_string_ok (s0 : Sl) (Q : Sl → K) (w : World) (h : slices_Compact_s_string_string s0 Q w) : slices_Compact_s_string_string.call s0 Q w := by
  have hJ10 : ∀ (X1 : Int → K), XH 4 X1 → ∀ (X2 : (Int × Int) → K), XH 9 X2 → JH 10 fun D => ∃ (s0_3 : Sl) (s4_3 : Sl) (k5_3 : Int), D [(0, (Sl.val s0_3)), (4, (Sl.val s4_3)), (5, (.int .i64 k5_3))] (fun C => ∀ (k3_3 : Int), C [(0, (Sl.val s0_3)), (3, (.int .i64 k3_3)), (4, (Sl.val s4_3)), (5, (.int .i64 k5_3))] (slices_Compact_s_string_string.s3 Q X1 (fun k3_2 k5_2 => X2 (k3_2, k5_2)) s0_3 k3_3 s4_3 k5_3)) := by intros; exact ⟨fun _ ⟨_, _, _, h⟩ => ⟨_, _, h⟩⟩
  have hL9 : ∀ (X1 : Int → K), XH 4 X1 → ∀ (s0_2 : Sl) (s4_2 : Sl), LH 9 (fun x : Int × Int => [(0, (Sl.val s0_2)), (3, (.int .i64 x.1)), (4, (Sl.val s4_2)), (5, (.int .i64 x.2))]) (fun X x => slices_Compact_s_string_string.b2 Q X1 (fun k3_2 k5_2 => X (k3_2, k5_2)) s0_2 s4_2 x.1 x.2) := by intros; exact ⟨⟩
  have hL4 : ∀ (s0_1 : Sl), LH 4 (fun x : Int => [(0, (Sl.val s0_1)), (3, (.int .i64 x))]) (fun X x => slices_Compact_s_string_string.b1 Q X s0_1 x) := by intros; exact ⟨⟩
  exact g_walk 61 h Try.func50
def slices_Grow_s_string_string.s2 (Q : Sl → K)  (s0_2 : Sl) : K :=
  Q s0_2
def slices_Grow_s_string_string.s1 (Q : Sl → K)  (s0_1 : Sl) (n1_1 : Int) : K :=
  Do Try.prog (Builtin.cap_ #[33] 3 #[(Sl.val s0_1)]) (Value.int .i64) fun t10 =>
  Ar (IntKind.wrap .i64 (t10 - (s0_1.n : Int))) fun t13 =>
  Ar (IntKind.wrap .i64 (n1_1 - t13)) fun t14 =>
  Ite (decide ((0 : Int) < t14))
    (Do Try.prog (Builtin.cap_ #[33] 3 #[(Sl.val s0_1)]) (Value.int .i64) fun t19 =>
    Slc s0_1 0 t19 (s0_1.c : Int) 1 fun t20 =>
    Do Try.prog (Builtin.append_ #[33, 3] 33 #[(Sl.val t20), (.int .i64 t14)]) Sl.val fun t22 =>
    Slc t22 0 (s0_1.n : Int) (t22.c : Int) 1 fun t25 =>
    slices_Grow_s_string_string.s2 Q t25)
    (slices_Grow_s_string_string.s2 Q s0_1)
def slices_Grow_s_string_string (s0 : Sl) (n1 : Int) (Q : Sl → K) : K :=
  Ite (decide (n1 < 0))
    (Rd Try.prog (Instr.makeInterface 9 (.string ⟨#[99, 97, 110, 110, 111, 116, 32, 98, 101, 32, 110, 101, 103, 97, 116, 105, 118, 101]⟩)) id fun t7 =>
    Dead)
    (slices_Grow_s_string_string.s1 Q s0 n1)
theorem slices_Grow_s_string_string_ok (s0 : Sl) (n1 : Int) (Q : Sl → K) (w : World) (h : slices_Grow_s_string_string s0 n1 Q w) : slices_Grow_s_string_string.call s0 n1 Q w := by
  have hJ6 : JH 6 fun D => D [] (fun C => ∀ (s0_2 : Sl), C [(0, (Sl.val s0_2))] (slices_Grow_s_string_string.s2 Q s0_2)) := by intros; exact ⟨fun _ h => ⟨_, _, h⟩⟩
  have hJ3 : JH 3 fun D => ∃ (s0_1 : Sl) (n1_1 : Int), D [(0, (Sl.val s0_1)), (1, (.int .i64 n1_1))] (fun C => C [(0, (Sl.val s0_1)), (1, (.int .i64 n1_1))] (slices_Grow_s_string_string.s1 Q s0_1 n1_1)) := by intros; exact ⟨fun _ ⟨_, _, h⟩ => ⟨_, _, h⟩⟩
  exact g_walk 27 h Try.func53
end Go.Proofs.Yteolfpghafdmdaa
/- slices.Sort of strings, by the shelf's contract; slices.Sorted of a map's keys. -/
namespace Go.Proofs.Yteolfpghafdmdaa
open Go Go.Sep
set_option linter.unusedSimpArgs false
set_option linter.unusedVariables false
set_option maxRecDepth 100000

abbrev sortL (ss : List (List UInt8)) : List (List UInt8) := ss.mergeSort fun x y => decide (x ≤ y)
section
variable {B w : World} {Γ : List HProp}
theorem holds_grow (h : Holds B Γ w) (os : Array Obj) : Holds B Γ (Sort.grow w os) := by
  obtain ⟨l⟩ := os
  induction l generalizing w with
  | nil => simpa [Sort.grow] using h
  | cons o l ih =>
    have h1 := ih (h.alloc o).tail
    have e : Sort.grow { w with heap := w.heap.push o } ⟨l⟩ = Sort.grow w ⟨o :: l⟩ := by
      have e2 : w.heap.push o ++ (⟨l⟩ : Array Obj) = w.heap ++ (⟨o :: l⟩ : Array Obj) := by
        apply Array.ext'
        rw [Array.toList_append, Array.toList_append, Array.toList_push, List.append_assoc]
        rfl
      unfold Sort.grow
      rw [← e2]
    rw [e] at h1
    exact h1
theorem slices_Sort_spec {s : Sl} {ss : List (List UInt8)} {k : K} (hl : ss.length ≤ 1000000) (h : Holds B (SlC ty_string 1 s (ss.map strV) :: Γ) w) (hk : ∀ w, Holds B (SlC ty_string 1 s ((sortL ss).map strV) :: Γ) w → k w) : slices_Sort_s_string_string.call s k w := by
  have hsc := h.slCap
  have hn : ss.length = s.n := by have := hsc.1; simpa using this
  unfold slices_Sort_s_string_string.call CallF
  cases ha : s.a with
  | none =>
    have hs0 : s.n = 0 := by have := hsc.2.2.2 ha; omega
    have hss : ss = [] := List.length_eq_zero_iff.1 (by omega)
    subst hss
    have h1 := AnyM.slices_Sort_string_none sortLay none s.c w
    have e : [Sl.val s].toArray = #[.slice none 0 s.c] := by
      show #[Value.slice s.a s.n s.c] = _
      rw [ha, hs0]
    rw [e]
    refine Calls.mono h1 fun e w' he => ?_
    obtain ⟨rfl, rfl⟩ := he
    exact ⟨rfl, hk _ (by simpa [sortL] using h)⟩
  | some a =>
    obtain ⟨cs, fz, h, hsp, hf, hsz, hr, hlen, hc⟩ := slOpen h ha
    obtain ⟨b, off, sp⟩ := a
    simp only at hsp
    subst hsp
    simp only at h hf hsz hr
    have hb := h.block
    have hH : Sort.Holds Proofs.encStr w b off ss.toArray := fun j hj => by
      simp only [List.size_toArray] at hj
      have h1 := hr j (by simpa using hj)
      constructor
      · refine cell_block hb ?_
        rw [h1, List.getElem?_map, List.getElem?_eq_getElem hj]
        simp [getElem!_pos, hj]
      · exact frozen_block hb (hf _ (by omega) (by omega))
    have h1 := AnyM.slices_Sort_string sortLay b off s.c ss w hH (Array.getElem?_eq_some_iff.1 hb).1 (by omega)
    have e : [Sl.val s].toArray = #[.slice (some ⟨b, off, none⟩) ss.length s.c] := by
      show #[Value.slice s.a s.n s.c] = _
      rw [ha, hn]
    rw [e]
    refine Calls.mono h1 fun e w' he => ?_
    obtain ⟨rfl, n, os, rfl⟩ := he
    refine ⟨rfl, hk _ ?_⟩
    have h2 : Holds B (blk b (.cells cs ty_string fz) :: Γ) (Sort.ahead w n) := h.drew _
    have h3 := h2.setBlock (o' := .cells (Sort.putCells Proofs.encStr off (sortL ss).toArray cs) ty_string fz) rfl
    have e2 : ({ (Sort.ahead w n) with heap := (Sort.ahead w n).heap.setIfInBounds b (.cells (Sort.putCells Proofs.encStr off (sortL ss).toArray cs) ty_string fz) } : World) = Sort.putRow Proofs.encStr (Sort.ahead w n) b off (sortL ss).toArray := by
      have harr : (Sort.ahead w n).heap.setIfInBounds b (.cells (Sort.putCells Proofs.encStr off (sortL ss).toArray cs) ty_string fz) = (Sort.ahead w n).heap.modify b (Sort.onCells (Sort.putCells Proofs.encStr off (sortL ss).toArray)) := by
        apply Array.ext_getElem?
        intro i
        rw [Array.getElem?_modify]
        by_cases hi : b = i
        · subst hi
          rw [if_pos rfl, h2.block, Array.getElem?_setIfInBounds_self_of_lt (Array.getElem?_eq_some_iff.1 h2.block).1]
          rfl
        · rw [if_neg hi, Array.getElem?_setIfInBounds_ne hi]
      unfold Sort.putRow Sort.mapBlock
      rw [← harr]
    rw [e2] at h3
    have h4 := holds_grow h3 os
    have hsl : (sortL ss).length = ss.length := by simp [sortL]
    refine slShut (a := ⟨b, off, none⟩) ha h4 ⟨rfl, hf, ?_, fun i hi => ?_, by rw [List.length_map, hsl]; simpa using hlen, hc⟩
    · have : (Sort.putCells Proofs.encStr off (sortL ss).toArray cs).size = cs.size := by simp [Sort.putCells]
      rw [this]; exact hsz
    · simp only [List.length_map] at hi
      unfold Sort.putCells
      rw [Array.getElem?_mapIdx]
      have hlt : off + i < cs.size := by omega
      rw [Array.getElem?_eq_getElem hlt, Option.map_some, if_pos (by simp; omega), List.getElem?_map, List.getElem?_eq_getElem hi, Option.map_some, Nat.add_sub_cancel_left, getElem!_pos (sortL ss).toArray i (by simpa using hi)]
      simp
end
end Go.Proofs.Yteolfpghafdmdaa
/- A range over a map of one's own: every entry comes once, in whatever order. Holds for every program. -/
namespace Go.Sep
open Go Go.RowKit Go.MapKept
set_option linter.unusedSimpArgs false
set_option linter.unusedVariables false
set_option linter.unusedSectionVars false

section
variable {α β : Type} [DecidableEq α] {P : Program} {B w : World} {Γ : List HProp} {enc : α → Value} {cV : β → Value}

/-- What is still to come, by the stamps that came. -/
def itLeft (es : Array MapEntry) (seen : Array Nat) (m : List (α × β)) : List (α × β) := ((es.toList.zip m).filter fun p => !seen.contains p.1.born).map Prod.snd
structure ItF (enc : α → Value) (cV : β → Value) (es : Array MapEntry) (c : Nat) (seen : Array Nat) (m left : List (α × β)) (cur : Option (α × β)) : Prop where
  rel : mrel enc cV es m
  st : stamps es c
  lf : left = itLeft es seen m
  cnt : seen.size + left.length = m.length
  cur : ∀ p, cur = some p → ∃ (seen' : Array Nat) (e : MapEntry), seen = seen'.push e.born ∧ e ∈ es.toList ∧ e.key = enc p.1 ∧ e.val = cV p.2
/-- A map, and a range over it that is under way. -/
def MapIt (enc : α → Value) (cV : β → Value) (b r : Nat) (m left : List (α × β)) (cur : Option (α × β)) : HProp := ex fun es : Array MapEntry => ex fun c : Nat => ex fun seen : Array Nat =>
  stars [pur (ItF enc cV es c seen m left cur), blk b (.map es c), blk r (.mapIter (some b) c seen c)]

theorem MapIt.opens {b r : Nat} {m left : List (α × β)} {cur : Option (α × β)} (h : Holds B (MapIt enc cV b r m left cur :: Γ) w) : ∃ es c seen, ItF enc cV es c seen m left cur ∧ Holds B (blk b (.map es c) :: blk r (.mapIter (some b) c seen c) :: Γ) w := by
  obtain ⟨es, h⟩ := Holds.ex.1 h
  obtain ⟨c, h⟩ := Holds.ex.1 h
  obtain ⟨seen, h⟩ := Holds.ex.1 h
  obtain ⟨hp, h⟩ := Holds.pur.1 (Holds.flat.1 h)
  exact ⟨es, c, seen, hp, h⟩
theorem MapIt.shuts {b r : Nat} {m left : List (α × β)} {cur : Option (α × β)} {es : Array MapEntry} {c : Nat} {seen : Array Nat} (hp : ItF enc cV es c seen m left cur) (h : Holds B (blk b (.map es c) :: blk r (.mapIter (some b) c seen c) :: Γ) w) : Holds B (MapIt enc cV b r m left cur :: Γ) w :=
  Holds.ex.2 ⟨es, Holds.ex.2 ⟨c, Holds.ex.2 ⟨seen, Holds.flat.2 (Holds.pur.2 ⟨hp, h⟩)⟩⟩⟩
theorem MapIt.ends {b r : Nat} {m left : List (α × β)} {cur : Option (α × β)} (h : Holds B (MapIt enc cV b r m left cur :: Γ) w) : Holds B (MapR enc cV b m :: Γ) w := by
  obtain ⟨es, c, seen, hp, h⟩ := MapIt.opens h
  exact MapR.shuts ⟨hp.rel, hp.st⟩ (h.del 1 rfl)

theorem mrel_len {es : Array MapEntry} {m : List (α × β)} (h : mrel enc cV es m) : es.toList.length = m.length := by have := congrArg List.length h; simpa using this
theorem mrel_zip {es : Array MapEntry} {m : List (α × β)} (h : mrel enc cV es m) : ∀ p ∈ es.toList.zip m, p.1.key = enc p.2.1 ∧ p.1.val = cV p.2.2 := by
  intro p hp
  obtain ⟨i, hi⟩ := List.getElem?_of_mem hp
  rw [List.getElem?_zip_eq_some] at hi
  have := mrel_at h i
  rw [hi.1, hi.2] at this
  simp only [Option.map_some, Option.some.injEq, Prod.mk.injEq] at this
  exact this

theorem r_range {T E : TypeId} {d : TypeDesc} {b : Nat} {m : List (α × β)} {k : Option Addr → K} (hT : mapIs P T d E) (h : Holds B (MapR enc cV b m :: Γ) w) (hk : ∀ r w, Holds B (MapIt enc cV b r m m none :: Γ) w → k (some ⟨r, 0, none⟩) w) :
    Do P (Instr.range T (.map (some b))) Value.pointer k w := by
  obtain ⟨kt, hT, hd⟩ := hT
  obtain ⟨es, c, ⟨hr, hst⟩, h⟩ := MapR.opens h
  have hb := h.block
  refine ⟨some ⟨w.heap.size, 0, none⟩, { w with heap := w.heap.push (.mapIter (some b) c #[] c) }, ?_, hk _ _ (MapIt.shuts (seen := #[]) ⟨hr, hst, ?_, by simp, fun p hp => by cases hp⟩ (h.alloc _).swap)⟩
  · unfold Instr.range
    simp only [Sem.run_bind, run_underlying hT, Result.andThen, MapKept.run_getObj_map hb, Sem.run_pure]
    rfl
  · unfold itLeft
    have e : (es.toList.zip m).filter (fun p => !(#[] : Array Nat).contains p.1.born) = es.toList.zip m := List.filter_eq_self.2 (fun p _ => by simp)
    rw [e, List.map_snd_zip (by rw [mrel_len hr]; exact Nat.le_refl _)]

theorem zip_filter_split {es : List MapEntry} {m : List (α × β)} (seen : Array Nat) (hn : (es.map (·.born)).Nodup) (hl : es.length = m.length) {e : MapEntry} (he : e ∈ es.filter (fun e => !seen.contains e.born)) :
    ∃ l1 p l2, (e, p) ∈ es.zip m ∧ ((es.zip m).filter fun p => !seen.contains p.1.born).map Prod.snd = l1 ++ p :: l2 ∧ ((es.zip m).filter fun p => !(seen.push e.born).contains p.1.born).map Prod.snd = l1 ++ l2 := by
  induction es generalizing m with
  | nil => simp at he
  | cons x es ih =>
    cases m with
    | nil => simp at hl
    | cons q m =>
      simp only [List.map_cons, List.nodup_cons] at hn
      simp only [List.zip_cons_cons]
      by_cases hx : x = e
      · subst hx
        have hxs : (!seen.contains x.born) = true := (List.mem_filter.1 he).2
        refine ⟨[], q, ((es.zip m).filter fun p => !seen.contains p.1.born).map Prod.snd, List.mem_cons_self, ?_, ?_⟩
        · simp only [List.filter_cons]; rw [if_pos hxs]; rfl
        · simp only [List.filter_cons]
          rw [if_neg (by simp)]
          simp only [List.nil_append]
          congr 1
          refine List.filter_congr fun p hp => ?_
          have hpe : p.1.born ≠ x.born := fun heq => hn.1 (by rw [← heq]; exact List.mem_map_of_mem (List.of_mem_zip hp).1)
          simp [Array.contains_push, hpe]
      · have he2 : e ∈ es.filter (fun e => !seen.contains e.born) := by
          have h1 := List.mem_filter.1 he
          rcases List.mem_cons.1 h1.1 with h2 | h2
          · exact absurd h2.symm hx
          · exact List.mem_filter.2 ⟨h2, h1.2⟩
        obtain ⟨l1, p, l2, h1, h2, h3⟩ := ih hn.2 (by simpa using hl) he2
        have hxb : x.born ≠ e.born := fun heq => hn.1 (by rw [heq]; exact List.mem_map_of_mem (List.mem_filter.1 he2).1)
        by_cases hs : (!seen.contains x.born) = true
        · refine ⟨q :: l1, p, l2, List.mem_cons_of_mem _ h1, ?_, ?_⟩
          · simp only [List.filter_cons]
            rw [if_pos hs, List.map_cons, h2]; rfl
          · simp only [List.filter_cons]
            rw [if_pos (by simp [Array.contains_push, hxb] at hs ⊢; exact hs), List.map_cons, h3]; rfl
        · refine ⟨l1, p, l2, List.mem_cons_of_mem _ h1, ?_, ?_⟩
          · simp only [List.filter_cons]
            rw [if_neg hs, h2]
          · simp only [List.filter_cons]
            rw [if_neg (by simp [Array.contains_push, hxb] at hs ⊢; exact hs), h3]

theorem r_next {b r : Nat} {m left : List (α × β)} {cur : Option (α × β)} {k : Value → K} (h : Holds B (MapIt enc cV b r m left cur :: Γ) w)
    (h0 : left = [] → ∀ w, Holds B (MapR enc cV b m :: Γ) w → k (.tuple #[.bool false]) w)
    (h1 : ∀ l1 p l2 w, left = l1 ++ p :: l2 → p ∈ m → Holds B (MapIt enc cV b r m (l1 ++ l2) (some p) :: Γ) w → k (.tuple #[.bool true, enc p.1, cV p.2]) w) :
    Do P (Instr.next (.pointer (some ⟨r, 0, none⟩)) false 0) id k w := by
  have hend := MapIt.ends h
  obtain ⟨es, c, seen, hp, h⟩ := MapIt.opens h
  have hb := h.block
  have hr := h.tail.block
  rcases run_next_at (P := P) w 0 r b c c seen es c hr hb hp.st.2 (Nat.le_refl _) with ⟨hz, hrun⟩ | ⟨e, he, w1, hw1, hrun⟩
  · refine ⟨_, w, hrun, h0 ?_ w hend⟩
    rw [hp.lf]
    unfold itLeft
    have hnone : es.toList.filter (fun e => !seen.contains e.born) = [] := by
      have : (leftOf es seen).toList.length = 0 := by simpa using hz
      unfold leftOf at this
      rw [Array.toList_filter] at this
      exact List.length_eq_zero_iff.1 this
    have : (es.toList.zip m).filter (fun p => !seen.contains p.1.born) = [] := by
      rw [List.filter_eq_nil_iff] at hnone ⊢
      intro p hpz
      exact hnone p.1 (List.of_mem_zip hpz).1
    rw [this]; rfl
  · have he2 : e ∈ es.toList.filter (fun e => !seen.contains e.born) := by
      unfold leftOf at he
      rw [Array.toList_filter] at he
      exact he
    obtain ⟨l1, p, l2, hz, hl, hl2⟩ := zip_filter_split seen hp.st.1 (mrel_len hp.rel) he2
    have hkv := mrel_zip hp.rel _ hz
    simp only at hkv
    refine ⟨_, _, hrun, ?_⟩
    show k (.tuple #[.bool true, e.key, e.val]) _
    rw [hkv.1, hkv.2]
    have hw : ∃ w', w1 = w' ∧ Holds B (blk b (.map es c) :: blk r (.mapIter (some b) c seen c) :: Γ) w' := by
      rcases hw1 with rfl | rfl
      · exact ⟨_, rfl, h⟩
      · exact ⟨_, rfl, h.drew _⟩
    obtain ⟨w', rfl, h⟩ := hw
    refine h1 l1 p l2 _ (by rw [hp.lf]; exact hl) (List.of_mem_zip hz).2 (MapIt.shuts (es := es) (c := c) (seen := seen.push e.born) ⟨hp.rel, hp.st, hl2.symm, ?_, fun q hq => ?_⟩ ?_)
    · have h3 := hp.cnt
      have h4 : left = l1 ++ p :: l2 := by rw [hp.lf]; exact hl
      rw [h4] at h3
      simp only [List.length_append, List.length_cons, Array.size_push] at h3 ⊢
      omega
    · cases hq
      exact ⟨seen, e, rfl, (List.of_mem_zip hz).1, hkv.1, hkv.2⟩
    · exact (h.swap.setBlock (o' := .mapIter (some b) c (seen.push e.born) c) rfl).swap

/-- How many are still to come, as the world tells. -/
def itCount (r n : Nat) (w : World) : Nat := match w.heap[r]? with
  | some (.mapIter _ _ seen _) => n - seen.size
  | _ => 0
theorem it_count {b r : Nat} {m left : List (α × β)} {cur : Option (α × β)} (h : Holds B (MapIt enc cV b r m left cur :: Γ) w) : itCount r m.length w = left.length := by
  obtain ⟨es, c, seen, hp, h⟩ := MapIt.opens h
  have := hp.cnt
  unfold itCount
  rw [h.tail.block]
  simp only
  omega
theorem r_entry {b r : Nat} {m left : List (α × β)} {p : α × β} {k : Value → K} (h : Holds B (MapIt enc cV b r m left (some p) :: Γ) w) (hk : k (.tuple #[enc p.1, cV p.2]) w) :
    Do P (Instr.entry (.pointer (some ⟨r, 0, none⟩))) id k w := by
  obtain ⟨es, c, seen, hp, h⟩ := MapIt.opens h
  obtain ⟨seen', e, hs, he, hk1, hk2⟩ := hp.cur p rfl
  subst hs
  refine ⟨_, w, run_entry_at (P := P) w r b c seen' es c e h.tail.block h.block he hp.st.1, ?_⟩
  show k (.tuple #[e.key, e.val]) w
  rw [hk1, hk2]
  exact hk
theorem run_lookZ {zv : Value} {T E : TypeId} {d : TypeDesc} {b : Nat} {m : List (α × β)} {a : α} (hT : mapIs P T d E) (hE : KeyE d enc) (hz : zeroT P E zv) {es : Array MapEntry} {c : Nat} (hb : w.heap[b]? = some (.map es c)) (hr : mrel enc cV es m) (ok : Bool) :
    (Instr.lookup T (.map (some b)) (enc a) ok).run P w = .ok (if ok then .tuple #[((mget a m).map cV).getD zv, .bool (mget a m).isSome] else ((mget a m).map cV).getD zv) w := by
  obtain ⟨kt, hT, hd⟩ := hT
  unfold Instr.lookup
  simp only [Sem.run_bind, run_underlying hT, Result.andThen, MapKept.run_getObj_map hb, run_checkKey hd (hE.key a), Sem.run_pure]
  rcases mfound hE hr a with ⟨h1, h2, _⟩ | ⟨j, x, h1, _, _, h2, _⟩
  · simp only [run_findKey hd h1, Result.andThen, Sem.run_bind, zeroT_spec hz, Sem.run_pure, h2]
    cases ok <;> rfl
  · simp only [run_findKey hd h1, Result.andThen, Sem.run_bind, Sem.run_pure, h2]
    cases ok <;> rfl
end
end Go.Sep
/- Keys as strings, sorted. -/
namespace Go.Proofs.Yteolfpghafdmdaa
open Go Go.Sep
set_option linter.unusedSimpArgs false
set_option linter.unusedVariables false
set_option maxRecDepth 100000

theorem keyE_str : KeyE .string strV := ⟨fun _ => trivial, fun a b h => by
  have h1 : bs a = bs b := by injection h
  have h2 := congrArg (fun x : ByteArray => x.data.toList) h1
  simpa using h2, fun a => keyE_string.bits (bs a)⟩
theorem sortL_perm {l l' : List (List UInt8)} (h : l.Perm l') : sortL l = sortL l' := by
  have tr : ∀ a b c : List UInt8, decide (a ≤ b) = true → decide (b ≤ c) = true → decide (a ≤ c) = true := fun a b c h1 h2 => by
    simp only [decide_eq_true_eq] at *
    exact List.le_trans h1 h2
  have tot : ∀ a b : List UInt8, (decide (a ≤ b) || decide (b ≤ a)) = true := fun a b => by
    simp only [Bool.or_eq_true, decide_eq_true_eq]
    exact List.le_total a b
  refine List.Perm.eq_of_pairwise (le := fun a b => decide (a ≤ b) = true) (fun a b _ _ h1 h2 => ?_) (List.pairwise_mergeSort tr tot l) (List.pairwise_mergeSort tr tot l') ?_
  · simp only [decide_eq_true_eq] at h1 h2
    exact List.le_antisymm h1 h2
  · exact ((List.mergeSort_perm l _).trans h).trans (List.mergeSort_perm l' _).symm
theorem sortL_len (l : List (List UInt8)) : (sortL l).length = l.length := (List.mergeSort_perm l _).length_eq
theorem sortL_mem {l : List (List UInt8)} {x : List UInt8} : x ∈ sortL l ↔ x ∈ l := (List.mergeSort_perm l _).mem_iff


abbrev SlS (s : Sl) (ss : List (List UInt8)) : HProp := SlC ty_string 1 s (ss.map strV)
end Go.Proofs.Yteolfpghafdmdaa
/- Steps that ask for no word of mine: what a word reads, and what it leaves, is found by classes. Holds for every program. -/
namespace Go.Sep
open Go Go.RowKit
set_option linter.unusedSimpArgs false
set_option linter.unusedVariables false

/-- From k over Γ one step leads to j over Δ. -/
class Nx (B : World) (Γ : List HProp) (k : K) (Δ : outParam (List HProp)) (j : outParam K) : Prop where h : HG B Δ j → HG B Γ k
class NthV (l : List Value) (n : Nat) (v : outParam Value) : Prop where h : nth l n = some v
class Cv {α : Type} (c : α → Value) (v : Value) (x : outParam α) : Prop where h : v = c x
class SetV (l : List Value) (n : Nat) (v : Value) (l' : outParam (List Value)) : Prop where h : l.set n v = l' ∧ n < l.length
class TakeV (l : List Value) (m n : Nat) (l' : outParam (List Value)) : Prop where h : (l.drop m).take n = l' ∧ l'.length = n
class FlatV (v : Value) : Prop where h : flatV v = true
class FlatL (l : List Value) : Prop where h : l.all flatV = true
class LenV (l : List Value) (n : outParam Nat) : Prop where h : l.length = n
class BoolV (b : Bool) (v : outParam Bool) : Prop where h : b = v
instance nthV0 {v : Value} {l : List Value} : NthV (v :: l) 0 v := ⟨rfl⟩
instance nthV1 {v u : Value} {l : List Value} {n : Nat} [h : NthV l n v] : NthV (u :: l) (n + 1) v := ⟨h.h⟩
instance cvBool {b : Bool} : Cv Value.bool (.bool b) b := ⟨rfl⟩
instance cvInt {k : IntKind} {n : Int} : Cv (Value.int k) (.int k n) n := ⟨rfl⟩
instance cvStr {b : ByteArray} : Cv Value.string (.string b) b := ⟨rfl⟩
instance cvPtr {p : Option Addr} : Cv Value.pointer (.pointer p) p := ⟨rfl⟩
instance cvMap {p : Option Nat} : Cv Value.map (.map p) p := ⟨rfl⟩
instance (priority := high) cvSl {s : Sl} : Cv Sl.val s.val s := ⟨rfl⟩
instance cvSl2 {a : Option Addr} {n c : Nat} : Cv Sl.val (.slice a n c) ⟨a, n, c⟩ := ⟨rfl⟩
instance cvId {v : Value} : Cv id v v := ⟨rfl⟩
instance cvAgg {v : Array Value} : Cv Value.agg (.agg v) v := ⟨rfl⟩
instance setV0 {v u : Value} {l : List Value} : SetV (u :: l) 0 v (v :: l) := ⟨⟨rfl, Nat.zero_lt_succ _⟩⟩
instance setV1 {v u : Value} {l l' : List Value} {n : Nat} [h : SetV l n v l'] : SetV (u :: l) (n + 1) v (u :: l') := ⟨⟨by rw [List.set_cons_succ, h.h.1], Nat.succ_lt_succ h.h.2⟩⟩
instance takeV0 {l : List Value} : TakeV l 0 0 [] := ⟨⟨rfl, rfl⟩⟩
instance takeV1 {u : Value} {l l' : List Value} {n : Nat} [h : TakeV l 0 n l'] : TakeV (u :: l) 0 (n + 1) (u :: l') := ⟨⟨by have := h.h.1; rw [List.drop_zero] at this ⊢; rw [List.take_succ_cons, this], by rw [List.length_cons, h.h.2]⟩⟩
instance takeV2 {u : Value} {l l' : List Value} {m n : Nat} [h : TakeV l m n l'] : TakeV (u :: l) (m + 1) n l' := ⟨h.h⟩
instance flatVB {b : Bool} : FlatV (.bool b) := ⟨rfl⟩
instance flatVI {k : IntKind} {n : Int} : FlatV (.int k n) := ⟨rfl⟩
instance flatVS {b : ByteArray} : FlatV (.string b) := ⟨rfl⟩
instance flatVP {p : Option Addr} : FlatV (.pointer p) := ⟨rfl⟩
instance flatVM {p : Option Nat} : FlatV (.map p) := ⟨rfl⟩
instance flatVSl {a : Option Addr} {n c : Nat} : FlatV (.slice a n c) := ⟨rfl⟩
instance flatL0 : FlatL [] := ⟨rfl⟩
instance flatL1 {v : Value} {l : List Value} [h : FlatV v] [g : FlatL l] : FlatL (v :: l) := ⟨by rw [List.all_cons, h.h, g.h]; rfl⟩
instance lenV0 : LenV [] 0 := ⟨rfl⟩
instance lenV1 {v : Value} {l : List Value} {n : Nat} [h : LenV l n] : LenV (v :: l) (n + 1) := ⟨by rw [List.length_cons, h.h]⟩
instance boolVT : BoolV true true := ⟨rfl⟩
instance boolVF : BoolV false false := ⟨rfl⟩
instance boolVN1 {b : Bool} [h : BoolV b true] : BoolV (!b) false := ⟨by rw [h.h]; rfl⟩
instance boolVN0 {b : Bool} [h : BoolV b false] : BoolV (!b) true := ⟨by rw [h.h]; rfl⟩
instance boolVS {α : Type} {x : α} : BoolV (some x).isNone false := ⟨rfl⟩
instance boolV0 {α : Type} : BoolV (none : Option α).isNone true := ⟨rfl⟩
instance (priority := high) adr_add0 {b n : Nat} : AdrIs ((⟨b, 0, none⟩ : Addr).add n) b n := ⟨by rw [add_mk, Nat.zero_add]⟩

section
variable {B : World} {Γ Δ Γ0 : List HProp} {k j : K}
theorem s_wsD {k : (World → Prop) → K} (Γ0 : List HProp) (h : HG B Γ (k (Holds B Γ0))) [d : Drops Γ Γ0] : HG B Γ (WithS k) := fun w hw => ⟨Holds B Γ0, hw.drops, h w hw⟩
theorem s_nx (h : HG B Δ j) [n : Nx B Γ k Δ j] : HG B Γ k := n.h h
instance nx_nn {a : Addr} {k : Addr → K} : Nx B Γ (Nn (some a) k) Γ (k a) := ⟨s_nn⟩
instance nx_dr : Nx B Γ (Dr k) Γ k := ⟨s_dr⟩
instance nx_ws {k : (World → Prop) → K} : Nx B Γ (WithS k) Γ (k (Holds B Γ)) := ⟨s_ws⟩
instance nx_sv [d : Drops Γ Δ] : Nx B Γ (Sv (Holds B Δ) k) Γ k := ⟨fun h => s_sv h⟩
instance nx_ld {α : Type} {a : Addr} {b off : Nat} {l : List Value} {T : TypeId} {fz : Nat × Nat} {c : α → Value} {v : Value} {x : α} {k : α → K} [ad : AdrIs a b off] [p : Own b Γ (blk b (.cells l.toArray T fz)) Δ] [n : NthV l off v] [e : Cv c v x] : Nx B Γ (Ld a c k) Γ (k x) := ⟨fun h => s_ld h (by rw [n.h, e.h])⟩
instance nx_ldS {α : Type} {a : Addr} {b off : Nat} {l : List Value} {T : TypeId} {fz : Nat × Nat} {c : α → Value} {v : Value} {x : α} {k : α → K} [ad : AdrIs a b off] [p : Own b Γ0 (blk b (.cells l.toArray T fz)) Δ] [n : NthV l off v] [e : Cv c v x] : Nx B Γ (LdS (Holds B Γ0) a c k) Γ (k x) := ⟨fun h => s_ldS h (by rw [n.h, e.h])⟩
instance nx_ldN {a : Addr} {b off n : Nat} {l l' : List Value} {T : TypeId} {fz : Nat × Nat} {k : Array Value → K} [ad : AdrIs a b off] [p : Own b Γ (blk b (.cells l.toArray T fz)) Δ] [t : TakeV l off n l'] : Nx B Γ (LdN a n k) Γ (k l'.toArray) := ⟨fun h => s_ldN h t.h.1 t.h.2⟩
instance nx_ldNS {a : Addr} {b off n : Nat} {l l' : List Value} {T : TypeId} {fz : Nat × Nat} {k : Array Value → K} [ad : AdrIs a b off] [p : Own b Γ0 (blk b (.cells l.toArray T fz)) Δ] [t : TakeV l off n l'] : Nx B Γ (LdNS (Holds B Γ0) a n k) Γ (k l'.toArray) := ⟨fun h => s_ldNS h t.h.1 t.h.2⟩
instance nx_st {a : Addr} {b off : Nat} {l l' : List Value} {T : TypeId} {v : Value} [ad : AdrIs a b off] [p : Own b Γ (blk b (.cells l.toArray T (0, 0))) Δ] [s : SetV l off v l'] [f : FlatV v] : Nx B Γ (St a v k) (blk b (.cells l'.toArray T (0, 0)) :: Δ) k := ⟨fun h => s_st h (Nat.ble_eq_true_of_le s.h.2) s.h.1 f.h⟩
instance nx_stN {a : Addr} {b n : Nat} {l l' : List Value} {T : TypeId} [ad : AdrIs a b 0] [p : Own b Γ (blk b (.cells l.toArray T (0, 0))) Δ] [h1 : LenV l n] [h2 : LenV l' n] [f : FlatL l'] : Nx B Γ (StN a n l'.toArray k) (blk b (.cells l'.toArray T (0, 0)) :: Δ) k := ⟨fun h => s_stN h h1.h h2.h f.h⟩
instance nx_fld {α : Type} {l : List Value} {off : Nat} {c : α → Value} {v : Value} {x : α} {k : α → K} [n : NthV l off v] [e : Cv c v x] : Nx B Γ (Fld l.toArray off c k) Γ (k x) := ⟨fun h => s_fld h (by rw [n.h, e.h])⟩
instance nx_bld1 {zero cs : List Value} {n : Nat} {k : Array Value → K} [h1 : LenV zero n] [h2 : LenV cs n] : Nx B Γ (Bld zero.toArray (fun i => some (i * n, n)) [(0, .agg cs.toArray)] k) Γ (k cs.toArray) := ⟨fun h => s_bld1 h h1.h h2.h⟩
instance nx_t {b : Bool} {x y : K} [h : BoolV b true] : Nx B Γ (Ite b x y) Γ x := ⟨fun g => s_t g h.h⟩
instance nx_f {b : Bool} {x y : K} [h : BoolV b false] : Nx B Γ (Ite b x y) Γ y := ⟨fun g => s_f g h.h⟩
end
/-! ### structs from parts -/
class CellsV (v : Value) (us : outParam (List Value)) : Prop where h : v.cells = us.toArray
class OverV (z : List Value) (off : Nat) (us : List Value) (z' : outParam (List Value)) : Prop where h : off + us.length ≤ z.length ∧ z' = z.take off ++ us ++ z.drop (off + us.length)
class PlaceV (pl : List (Nat × Nat)) (i : Nat) (off n : outParam Nat) : Prop where h : pl[i]? = some (off, n)
class FillV (pl : List (Nat × Nat)) (z : List Value) (ps : List (Nat × Value)) (cs : outParam (List Value)) : Prop where h : Instr.fill (pl[·]?) z.toArray ps = some cs.toArray
instance cellsVA {l : List Value} : CellsV (.agg l.toArray) l := ⟨rfl⟩
instance cellsVB {b : Bool} : CellsV (.bool b) [.bool b] := ⟨rfl⟩
instance cellsVI {k : IntKind} {n : Int} : CellsV (.int k n) [.int k n] := ⟨rfl⟩
instance cellsVS {b : ByteArray} : CellsV (.string b) [.string b] := ⟨rfl⟩
instance cellsVP {p : Option Addr} : CellsV (.pointer p) [.pointer p] := ⟨rfl⟩
instance cellsVM {p : Option Nat} : CellsV (.map p) [.map p] := ⟨rfl⟩
instance cellsVSl {a : Option Addr} {n c : Nat} : CellsV (.slice a n c) [.slice a n c] := ⟨rfl⟩
instance overV0 {z : List Value} : OverV z 0 [] z := ⟨⟨by simp, by simp⟩⟩
instance overV1 {v u : Value} {z us z' : List Value} [h : OverV z 0 us z'] : OverV (v :: z) 0 (u :: us) (u :: z') := ⟨by
  obtain ⟨h1, h2⟩ := h.h
  simp only [Nat.zero_add, List.take_zero, List.nil_append] at h1 h2
  refine ⟨by simp; omega, ?_⟩
  simp only [List.length_cons, Nat.zero_add, List.take_zero, List.nil_append, List.drop_succ_cons, List.cons_append]
  rw [h2]⟩
instance overV2 {v : Value} {z us z' : List Value} {off : Nat} [h : OverV z off us z'] : OverV (v :: z) (off + 1) us (v :: z') := ⟨by
  obtain ⟨h1, h2⟩ := h.h
  refine ⟨by simp; omega, ?_⟩
  rw [h2, show off + 1 + us.length = (off + us.length) + 1 by omega]
  simp⟩
instance placeV0 {o n : Nat} {pl : List (Nat × Nat)} : PlaceV ((o, n) :: pl) 0 o n := ⟨rfl⟩
instance placeV1 {x : Nat × Nat} {o n i : Nat} {pl : List (Nat × Nat)} [h : PlaceV pl i o n] : PlaceV (x :: pl) (i + 1) o n := ⟨h.h⟩
instance fillV0 {pl : List (Nat × Nat)} {z : List Value} : FillV pl z [] z := ⟨rfl⟩
theorem fill_part {pl : Nat → Option (Nat × Nat)} {z us z' : List Value} {i off : Nat} {v : Value} {ps : List (Nat × Value)} (hp : pl i = some (off, us.length)) (hc : v.cells = us.toArray) (h : off + us.length ≤ z.length ∧ z' = z.take off ++ us ++ z.drop (off + us.length)) :
    Instr.fill pl z.toArray ((i, v) :: ps) = Instr.fill pl z'.toArray ps := by
  obtain ⟨h1, rfl⟩ := h
  rw [Instr.fill, hp, hc]
  simp only [List.size_toArray]
  rw [if_neg (by simp; omega)]
  congr 1
  have hl : (z.take off).length = off := by rw [List.length_take]; omega
  have key : ∀ (us m pre C : List Value), pre.length = off → m.length = us.length → ∀ (o : Nat) (pre2 : List Value), pre2.length = off + o → (us.zipIdx o).foldl (fun (cs : Array Value) (p : Value × Nat) => cs.setIfInBounds (off + p.2) p.1) (pre2 ++ m ++ C).toArray = (pre2 ++ us ++ C).toArray := by
    intro us
    induction us with
    | nil => intro m pre C _ hm o pre2 _; rw [List.length_eq_zero_iff.1 hm]; rfl
    | cons u us ih =>
      intro m pre C hp hm o pre2 hp2
      cases m with
      | nil => simp at hm
      | cons x m =>
        simp only [List.zipIdx_cons, List.foldl_cons]
        have e : (pre2 ++ x :: m ++ C).toArray.setIfInBounds (off + o) u = ((pre2 ++ [u]) ++ m ++ C).toArray := by
          apply Array.ext'
          rw [← hp2]
          simp
        rw [e, ih m pre C hp (by simpa using hm) (o + 1) (pre2 ++ [u]) (by simp; omega)]
        simp
  have e : z = z.take off ++ (z.drop off).take us.length ++ z.drop (off + us.length) := by
    rw [← List.drop_drop, List.append_assoc, List.take_append_drop, List.take_append_drop]
  have h3 := key us ((z.drop off).take us.length) (z.take off) (z.drop (off + us.length)) hl (by rw [List.length_take, List.length_drop]; omega) 0 (z.take off) (by omega)
  rw [← e] at h3
  rw [← Array.foldl_toList, Array.toList_zipIdx]
  exact h3
instance fillV1 {pl : List (Nat × Nat)} {z z' us cs : List Value} {i off n : Nat} {v : Value} {ps : List (Nat × Value)} [p : PlaceV pl i off n] [c : CellsV v us] [l : LenV us n] [o : OverV z off us z'] [f : FillV pl z' ps cs] : FillV pl z ((i, v) :: ps) cs :=
  ⟨by rw [fill_part (by rw [l.h]; exact p.h) c.h o.h]; exact f.h⟩
instance nx_bld {pl : List (Nat × Nat)} {B : World} {Γ : List HProp} {z cs : List Value} {ps : List (Nat × Value)} {k : Array Value → K} [f : FillV pl z ps cs] : Nx B Γ (Bld z.toArray (pl[·]?) ps k) Γ (k cs.toArray) := ⟨fun h w hw => ⟨_, f.h, h w hw⟩⟩
end Go.Sep
