/- LinkRoom: no more data are open than there is room for. -/
import Derived.Test.YtilejcnbacmdnaaSLink4
namespace Go.Proofs.Ytilejcnbacmdnaa
open Go Go.Sep
set_option linter.unusedSimpArgs false
set_option linter.unusedVariables false
set_option maxRecDepth 100000

theorem ackL_spec (a : Int) : ∀ (o : List (List UInt8)) (ba : Int), ∃ n : Nat, n ≤ o.length ∧ ackL a o ba = (o.drop n, ba + n) ∧ (n < o.length → a < ba + n) ∧ (0 < n → ba + n - 1 ≤ a)
  | [], ba => ⟨0, by simp, by simp [ackL], by simp, by simp⟩
  | x :: o, ba => by
    unfold ackL
    split
    · rename_i hle
      obtain ⟨n, h1, h2, h3, h4⟩ := ackL_spec a o (ba + 1)
      refine ⟨n + 1, by simpa using h1, ?_, fun h => ?_, fun _ => ?_⟩
      · rw [h2]; simp; omega
      · have := h3 (by simpa using h); omega
      · by_cases hn : 0 < n
        · have := h4 hn; omega
        · have : n = 0 := by omega
          subst this; omega
    · exact ⟨0, by simp, by simp, fun _ => by simp; omega, by simp⟩

theorem and31 (n : Int) : 0 ≤ bitsOf .and .i64 n 31 ∧ bitsOf .and .i64 n 31 ≤ 31 := by
  unfold bitsOf
  simp only
  have h1 : ((BitVec.ofInt IntKind.i64.bits n &&& BitVec.ofInt IntKind.i64.bits 31).toNat) ≤ 31 := by
    rw [BitVec.toNat_and]
    exact Nat.le_trans Nat.and_le_right (by decide)
  rw [wrap64 (by omega) (by omega)]
  omega

section
variable {B w : World} {Γ : List HProp}

def roomD (done : Int) (out : List (List UInt8)) : LinkD := ⟨1, 4, done + 1, 1, out, []⟩
theorem room_ok {done : Int} {out : List (List UInt8)} (h0 : 0 ≤ done) (h1 : done ≤ 100000) (h2 : out.length ≤ 16) (h3 : ∀ x ∈ out, x.length = 1) : (roomD done out).ok 200000 :=
  ⟨by simp only [roomD]; omega, by simp only [roomD]; omega, by simp [roomD], by simp [roomD], fun x hx => by have := h3 x hx; omega, h2⟩

theorem law19_LinkRoom_spec {k : Bool → K} {n : Int} {s : Sl} {A : List Int} (hs : RdC B s 1 (A.map (Value.int .u64)))
    (h : Holds B Γ w) (hk : ∀ w, Holds B Γ w → k true w) : law19_LinkRoom.call n s k w := by
  have hsn : A.length = s.n := by have := hs.len; simpa using this
  refine law19_LinkRoom_ok _ _ _ _ ?_
  unfold law19_LinkRoom
  refine law19_speaks_spec h fun w h => ?_
  refine r_ite_f rfl ?_
  refine r_ite (fun hb => hk _ h) (fun hb => ?_)
  simp only [decide_eq_false_iff_not] at hb
  refine link_New_spec h fun b w h => ?_
  refine r_ite_f rfl ?_
  refine link_Receive_spec (p := ⟨4, 0, 0, 0, []⟩) (data := ⟨none, 0, 0⟩) ((new_ok 1).mono (by decide)) (by simp) (by simp) (by simp) (by simp) h (fun w h => RdC.none') fun c a w h => ?_
  rw [show LinkD.receive ⟨1, 0, 1, 1, [], []⟩ ⟨4, 0, 0, 0, []⟩ = (roomD 0 [], [], [⟨1, 4, 0, 0, []⟩]) by simp [LinkD.receive, LinkD.meet, LinkD.helloP, roomD]] at h
  simp only at h
  replace h := h.tail.tail
  refine r_new h ?_
  clear h
  intro t24 w h
  try simp only [add_mk, Nat.zero_add, Nat.reduceAdd]
  refine r_append (vs := [.int .u64 0]) (h.imp (blk_SlC rfl rfl)) (by kernel_rfl) (by kernel_rfl) (by' := 8) (by kernel_rfl) zero_ty_uint64 rfl (hs.old h) (ints_flat _) (by simp only; omega) (by decide) fun e w h hen _ => ?_
  have ee : [Value.int .u64 0] ++ A.map (Value.int .u64) = ((0 : Int) :: A).map (Value.int .u64) := rfl
  rw [ee] at h
  generalize hM : (0 : Int) :: A = M at h
  have hMn : M.length = e.n * 1 := by
    have := h.slCap.1
    rw [List.length_map] at this
    exact this
  have hM2 : M.length ≤ 51 := by rw [← hM]; simp; omega
  clear ee hen
  refine LoopK.of (α := Int × Int × Int) (fun t w => ∃ (j : Nat) (out : List (List UInt8)), t.2.2 = (j : Int) ∧ j ≤ M.length ∧ 0 ≤ t.2.1 ∧ t.1 = t.2.1 + out.length ∧ t.1 ≤ 16 * j ∧ out.length ≤ 16 ∧ (∀ x ∈ out, x.length = 1) ∧
      Holds B (LinkR b (roomD t.2.1 out) :: SlC ty_uint64 1 e (M.map (Value.int .u64)) :: Γ) w)
    (fun t _ => ((e.n : Int) - t.2.2).toNat) ⟨0, [], rfl, by omega, by simp, by simp, by simp, by simp, by simp, h.swap⟩ ?_
  clear h
  rintro ⟨sent, done, t⟩ w ⟨j, out, ht, hj, hd0, hsd, hsj, hol, hox, h⟩
  simp only at ht hd0 hsd hsj h
  subst ht
  dsimp only
  unfold law19_LinkRoom.b1
  refine r_ite (fun hb => ?_) (fun hb => hk _ h.tail.tail)
  simp only [decide_eq_true_eq] at hb
  have hjl : j < M.length := by omega
  refine r_idx1 (x := M[j]) (h.rdC (List.mem_cons_of_mem _ List.mem_cons_self)) (List.getElem?_eq_getElem hjl) ?_
  generalize M[j] = a
  refine link_Receive_spec (p := ⟨4, 1, 0, a, []⟩) (data := ⟨none, 0, 0⟩) ((room_ok hd0 (by omega) hol hox).mono (by decide)) (by simp [roomD]) (by simp) (by simp) (by simp) h (fun w h => RdC.none') fun c an w h => ?_
  obtain ⟨m, hm1, hm2, hm3, hm4⟩ := ackL_spec a out (done + 1)
  rw [show LinkD.receive (roomD done out) ⟨4, 1, 0, a, []⟩ = (roomD (done + m) (out.drop m), [], []) by
    simp [LinkD.receive, LinkD.meet, roomD, LinkD.ack, hm2]; omega] at h
  simp only at h
  replace h := h.tail.tail
  have hdl : (out.drop m).length = out.length - m := List.length_drop
  have hdx : ∀ x ∈ out.drop m, x.length = 1 := fun x hx => hox x (List.mem_of_mem_drop hx)
  refine r_ar rfl ?_
  refine r_ar (e' := done + m) (by
    by_cases h5 : m < out.length
    · have := hm3 h5
      by_cases h6 : 0 < m
      · have := hm4 h6
        split <;> split <;> omega
      · split <;> split <;> omega
    · by_cases h6 : 0 < m
      · have := hm4 h6
        split <;> split <;> omega
      · split <;> split <;> omega) ?_
  refine link_Open_spec h fun w h => ?_
  have hop : (roomD (done + m) (out.drop m)).out.length = out.length - m := hdl
  refine r_ar (wrapU64 (by omega) (by omega)) ?_
  refine r_ar (wrapU64 (by omega) (by omega)) ?_
  refine r_ite_f (by simp only [decide_eq_false_iff_not]; omega) ?_
  refine LoopK.of (α := Int × Int) (fun t w => ∃ (i : Nat) (out2 : List (List UInt8)), t.2 = (i : Int) ∧ i ≤ 40 ∧ t.1 = done + m + out2.length ∧ out2.length ≤ 16 ∧ (∀ x ∈ out2, x.length = 1) ∧
      Holds B (LinkR b (roomD (done + m) out2) :: SlC ty_uint64 1 e (M.map (Value.int .u64)) :: Γ) w)
    (fun t _ => ((50 : Int) - t.2).toNat) ⟨0, out.drop m, rfl, by omega, by simp only; omega, by omega, hdx, h⟩ ?_
  clear h hdx hdl hop
  rintro ⟨sent2, t⟩ w ⟨i, out2, ht, hi, hs2, ho2, hx2, h⟩
  simp only at ht hs2
  subst ht
  dsimp only
  have hok := room_ok (done := done + m) (by omega) (by omega) ho2 hx2
  obtain ⟨hn0, hn1⟩ := and31 n
  unfold law19_LinkRoom.b2 law19_LinkRoom.s3 law19_LinkRoom.s4
  refine r_ar rfl ?_
  refine r_add64 (by omega) (by omega) ?_
  refine r_ite (fun hb => ?_) (fun hb => ?_)
  · simp only [decide_eq_true_eq] at hb
    refine r_ar (wrapU8 (by omega) (by omega)) ?_
    refine r_new h ?_
    clear h
    intro t58 w h
    try simp only [add_mk, Nat.zero_add, Nat.reduceAdd]
    have hby : [Value.int .u8 (i : Int)] = [UInt8.ofNat i].map byteV := by
      simp only [List.map_cons, List.map_nil, byteV]
      congr 2
      simp; omega
    have hS : ∀ w, Holds B (LinkR b (roomD (done + m) out2) :: blk t58 (.cells #[.int .u8 (i : Int)] 5 (0, 0)) :: SlC ty_uint64 1 e (M.map (Value.int .u64)) :: Γ) w → RdB w ⟨some ⟨t58, 0, none⟩, 1, 1⟩ [UInt8.ofNat i] := fun w h => by
      have := RdC.of_blk (n := 1) (esz := 1) h (List.mem_cons_of_mem _ List.mem_cons_self) (vs := [.int .u8 (i : Int)]) rfl rfl 1
      rw [hby] at this
      exact this
    refine link_Send_spec (xs := [UInt8.ofNat i]) h.swap hS (by simp) (fun hfull w h => ?_) (fun hroom w h => ?_)
    · have hf2 : 16 ≤ out2.length := hfull
      refine r_ar (wrapU64 (by omega) (by omega)) ?_
      rw [show decide (sent2 - (done + (m : Int)) < 16) = false by simp; omega]
      refine r_ite_f rfl ?_
      refine r_ite_f rfl ?_
      refine r_add64 (by omega) (by omega) ?_
      exact ⟨⟨i + 1, out2, by omega, by omega, hs2, ho2, hx2, h.del 1 at1⟩, by omega⟩
    · have hf2 : out2.length < 16 := hroom
      refine r_ar (wrapU64 (by omega) (by omega)) ?_
      rw [show decide (sent2 - (done + (m : Int)) < 16) = true by simp; omega]
      refine r_ite_f rfl ?_
      refine r_ite_t rfl ?_
      refine r_ar (wrapU64 (by omega) (by omega)) ?_
      refine r_add64 (by omega) (by omega) ?_
      refine ⟨⟨i + 1, out2 ++ [[UInt8.ofNat i]], by omega, by omega, by simp only [List.length_append, List.length_singleton]; omega, by simp only [List.length_append, List.length_singleton]; omega, ?_, h.del 1 at1⟩, by omega⟩
      intro x hx
      rcases List.mem_append.1 hx with hx | hx
      · exact hx2 x hx
      · simp only [List.mem_singleton] at hx; subst hx; rfl
  · clear hb
    refine link_Packets_spec (hok.mono (by decide)) h fun p w h => ?_
    have hpk : (roomD (done + m) out2).packets = out2.zipIdx.map fun x => ⟨1, 4, (done + m + 1) + x.2, 0, x.1⟩ := by
      unfold LinkD.packets; rw [if_neg (by simp [roomD])]; rfl
    have hpl := PkR.len h
    rw [hpk] at hpl
    simp only [List.length_map, List.length_zipIdx] at hpl
    refine r_ar (wrapU64 (by omega) (by omega)) ?_
    refine r_ar (wrapU64 (by omega) (by omega)) ?_
    refine r_ite_f (by simp only [decide_eq_false_iff_not]; omega) ?_
    have fin : (∃ (j' : Nat) (out : List (List UInt8)), (j : Int) + 1 = (j' : Int) ∧ j' ≤ M.length ∧ 0 ≤ done + (m : Int) ∧ sent2 = done + m + out.length ∧ sent2 ≤ 16 * j' ∧ out.length ≤ 16 ∧ (∀ x ∈ out, x.length = 1) ∧
      Holds B (LinkR b (roomD (done + m) out) :: SlC ty_uint64 1 e (M.map (Value.int .u64)) :: Γ) w) ∧ ((e.n : Int) - ((j : Int) + 1)).toNat < ((e.n : Int) - (j : Int)).toNat :=
      ⟨⟨j + 1, out2, by omega, by omega, by omega, hs2, by omega, ho2, hx2, h.tail⟩, by omega⟩
    refine r_ite (fun hb => ?_) (fun hb => ?_)
    · simp only [decide_eq_true_eq] at hb
      obtain ⟨ls, hls, h⟩ := PkR.opens h
      have hln : 0 < ls.length := by
        have := congrArg List.length hls
        rw [hpk] at this
        simp only [List.length_map, List.length_zipIdx] at this
        omega
      have hy : ls[0]? = some ls[0] := List.getElem?_eq_getElem hln
      generalize ls[0] = y at hy
      have hysq : y.1.sq = done + m + 1 := by
        have := congrArg (·[0]?) hls
        rw [hpk] at this
        simp only [List.getElem?_map, hy, Option.map_some] at this
        cases out2 with
        | nil => simp at this
        | cons x o =>
          simp at this
          rw [this]
      refine r_idxA pkF pkF_len (by decide) (j := 0) (h.rdC List.mem_cons_self) hy fun t86 ht => ?_
      refine r_ldF (x := y.1.sq) 2 (ht w (h.rdC List.mem_cons_self)) (show 2 < 5 by decide) rfl ?_
      refine r_ar (wrapU64 (by omega) (by omega)) ?_
      refine r_ite_f (by simp only [decide_eq_false_iff_not]; omega) ?_
      refine r_add64 (by omega) (by omega) ?_
      exact fin
    · refine r_ite_f rfl ?_
      refine r_add64 (by omega) (by omega) ?_
      exact fin
end
end Go.Proofs.Ytilejcnbacmdnaa

namespace Go.Proofs.Ytilejcnbacmdnaa
open Go Go.Sep Go.RowKit
theorem LinkRoom_walk (W : World) (x : Int) (_ : (Lit.int .i64 x).wf = true) (s : Sl) (y0 : Rdy W Sh_ty_s_uint64 (Sl.val s).cells.toList) :
    Calls Try.prog 10 #[.int .i64 x, s.val] W (Ret fun v w' => v = .bool true ∧ Below W.heap.size W w') := by
  obtain ⟨L, hL, _⟩ := rdy_ints y0
  exact law_call (law19_LinkRoom_spec hL (Holds.start W) fun w h => ⟨rfl, h⟩)
end Go.Proofs.Ytilejcnbacmdnaa
