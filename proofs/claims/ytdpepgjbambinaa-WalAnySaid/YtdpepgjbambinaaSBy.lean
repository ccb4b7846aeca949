/- Bytes in memory: what is appended, copied, read. (By the types' names: for every seat.) -/
import Derived.Test.YtdpepgjbambinaaMore
import Derived.Test.YtdpepgjbambinaaStr
import Derived.Test.YtdpepgjbambinaaIRLibSlices
namespace Go.Proofs.Ytdpepgjbambinaa
open Go Go.Sep
set_option linter.unusedSimpArgs false
set_option linter.unusedVariables false
set_option maxRecDepth 100000
section
variable {B w : World} {Γ : List HProp}
theorem r_byte {s : Sl} {xs : List UInt8} {j : Nat} {x : UInt8} {k : Int → K} (hr : RdB w s xs) (hx : xs[j]? = some x) (hk : k (x.toNat : Int) w) : Idx s (j : Int) 1 (fun t => Ld t (Value.int .u8) k) w := by
  have e : xs.map byteV = (xs.map fun b => (b.toNat : Int)).map (Value.int .u8) := by rw [List.map_map]; rfl
  have hr2 : RdC w s 1 ((xs.map fun b => (b.toNat : Int)).map (Value.int .u8)) := by rw [← e]; exact hr
  exact r_idx1 hr2 (by rw [List.getElem?_map, hx]; rfl) hk
theorem rd_spot {w : World} {s : Sl} {xs : List UInt8} (h : RdB w s xs) (hx : xs ≠ []) : ∀ a, s.a = some a → a.spot = none := by
  intro a ha
  have h1 := h.at' a ha 0 (by have := List.length_pos_iff.2 hx; simpa using this)
  have e : a.add 0 = a := by simp [Addr.add]
  rw [e] at h1
  unfold World.cell? at h1
  cases hs : a.spot with
  | none => rfl
  | some y =>
    exfalso
    have h2 : (xs.map byteV)[0]? ≠ none := by
      cases xs with
      | nil => exact absurd rfl hx
      | cons x xs => simp
    split at h1
    · simp only [hs, Option.isSome_some, if_true] at h1
      exact h2 h1.symm
    · exact h2 h1.symm
/-- Bytes behind one's own bytes. -/
theorem r_appB {g x : Sl} {xs ys : List UInt8} {k : Sl → K} (h : Holds B (Bytes ty_uint8 g xs :: Γ) w) (hy : RdB w x ys) (hroom : xs.length + ys.length ≤ 1000000000)
    (hk : ∀ s w, Holds B (Bytes ty_uint8 s (xs ++ ys) :: Γ) w → s.n = xs.length + ys.length → (g.a.isSome = true → s.a.isSome = true) → k s w) :
    Do Try.prog (Builtin.append_ #[ty_s_uint8, ty_s_uint8] ty_s_uint8 #[g.val, x.val]) Sl.val k w := by
  have h1 : xs.length = g.n := by have := h.slCap.1; simpa using this
  have h2 : ys.length = x.n := by have := hy.len; simpa using this
  refine r_append h (by kernel_rfl) (by kernel_rfl) (by' := 1) (by kernel_rfl) zero_ty_uint8 rfl hy (byteV_flat _) (by omega) (by decide) fun s' w h hn ha => hk s' w ?_ (by omega) ha
  have e : xs.map byteV ++ ys.map byteV = (xs ++ ys).map byteV := by simp
  rw [e] at h
  exact h
theorem bytes_new {b n : Nat} {cs : Array Value} {xs : List UInt8} (hc : cs.toList = xs.map byteV) (hn : xs.length = n) (h : Holds B (blk b (.cells cs ty_uint8 (0, 0)) :: Γ) w) : Holds B (Bytes ty_uint8 ⟨some ⟨b, 0, none⟩, n, n⟩ xs :: Γ) w :=
  h.imp (blk_SlC hc (by simp [hn]))
theorem Bytes.len {s : Sl} {xs : List UInt8} (h : Holds B (Bytes ty_uint8 s xs :: Γ) w) : xs.length = s.n := by have := h.slCap.1; simpa using this
theorem Bytes.rd {s : Sl} {xs : List UInt8} (h : Holds B Γ w) (hm : Bytes ty_uint8 s xs ∈ Γ) : RdB w s xs := h.rdC (E := ty_uint8) hm
theorem slices_Clone_spec {b : Sl} {xs : List UInt8} {k : Sl → K} (h : Holds B Γ w) (hr : ∀ w, Holds B Γ w → RdB w b xs) (hl : xs.length ≤ 1000000000)
    (hk : ∀ s w, Holds B (Bytes ty_uint8 s xs :: Γ) w → s.a.isNone = b.a.isNone → k s w) : slices_Clone_s_byte_byte.call b k w := by
  refine slices_Clone_s_byte_byte_ok _ _ _ ?_
  unfold slices_Clone_s_byte_byte
  refine r_ite (fun hb => ?_) (fun hb => ?_)
  · have hx : xs = [] := by
      have h1 := (hr w h).nil (by simpa using hb)
      have h2 := (hr w h).len
      rw [h1] at h2; simpa using h2
    subst hx
    exact hk _ _ (h.nilSl _ _) (by rw [hb]; rfl)
  · refine r_new h ?_
    clear h
    intro t w h
    try simp only [add_mk, Nat.zero_add, Nat.reduceAdd]
    replace h := bytes_new (xs := []) (n := 0) (by rfl) rfl h
    refine r_appB h (hr w h.tail) (by simp; omega) fun s w h hs ha => ?_
    refine hk s w h ?_
    rw [hb]
    have := ha rfl
    cases hh : s.a <;> simp [hh] at this ⊢
theorem r_strS {S : World → Prop} {s : Sl} {xs : List UInt8} {src dst : TypeId} {k : ByteArray → K} (hT : strT Try.prog src dst = true) (hr : ∀ w, S w → RdB w s xs) (hk : k (ByteArray.mk xs.toArray) w) :
    RdS Try.prog S (convert src dst s.val) Value.string k w := by
  refine ⟨ByteArray.mk xs.toArray, fun w h => ?_, hk⟩
  obtain ⟨y, h1, h2⟩ := r_str (k := fun y _ => y = ByteArray.mk xs.toArray) hT (hr w h) rfl
  rw [h1, h2]
theorem rdB_take {w : World} {s : Sl} {d : List UInt8} {n c : Nat} (h : RdB w s d) (hn : n ≤ s.n) : RdB w ⟨s.a, n, c⟩ (d.take n) := by
  have h1 := h.take (m := n) (c := c) hn
  show RdC w _ 1 ((d.take n).map byteV)
  rw [List.map_take]
  simpa using h1
end
end Go.Proofs.Ytdpepgjbambinaa
