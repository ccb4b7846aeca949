/- The log: its files' names, what it reads, Sync, Append, Records. -/
import Derived.Test.YtdpepgjbambinaaSUnf
import Derived.Test.YtdpepgjbambinaaSDisk5
import Derived.Test.YtdpepgjbambinaaIRWal
--! WO(l;d;W;s;rs;G) = (blk $l (.cells (wA $d $W $s) ty_wal_Log (0, 0)) :: SlC ty_s_uint8 1 $s (List.map recV $rs) :: stars (List.map recB $rs) :: $G)
namespace Go.Proofs.Ytdpepgjbambinaa
open Go Go.Sep
set_option linter.unusedSimpArgs false
set_option linter.unusedVariables false
set_option maxRecDepth 100000
structure WalD where
  name : List UInt8
  size : Int
  part : Nat
  used : Nat
  dirty : Bool
  recs : List (List UInt8)
abbrev wA (d : Nat) (W : WalD) (s : Sl) : Array Value := #[.pointer (some ⟨d, 0, none⟩), strV W.name, .int .i64 W.size, .int .i64 (W.part : Int), .int .i64 (W.used : Int), .bool W.dirty, s.val]
abbrev RecL := List (Sl × List UInt8)
abbrev recV (p : Sl × List UInt8) : Value := p.1.val
abbrev recB (p : Sl × List UInt8) : HProp := Bytes ty_uint8 p.1 p.2
def fileW (n : List UInt8) (k : Nat) : List UInt8 := n ++ [u8 (48 + k)]
theorem bs_app' (a b : List UInt8) : bs a ++ bs b = bs (a ++ b) := by
  apply ByteArray.ext
  rw [ByteArray.data_append]
  simp [bs]

/-! ### what stands in a part -/
def parseL (d : List UInt8) : List (List UInt8) × Nat :=
  if h : d = [] ∨ (unframeL d).2.2 ≠ 0 then ([], 0)
  else ((unframeL d).1 :: (parseL (d.drop (unframeL d).2.1)).1, (unframeL d).2.1 + (parseL (d.drop (unframeL d).2.1)).2)
termination_by d.length
decreasing_by
  all_goals
    have h1 : d ≠ [] := fun e => h (.inl e)
    have h2 : (unframeL d).2.2 = 0 := by
      by_cases he : (unframeL d).2.2 = 0
      · exact he
      · exact absurd (.inr he) h
    have h3 := ((unfF d).ok h2).1
    have h4 : 0 < d.length := List.length_pos_iff.2 h1
    simp
    omega
theorem parse_nil : parseL [] = ([], 0) := by rw [parseL, dif_pos (.inl rfl)]
theorem parse_bad {d : List UInt8} (h : (unframeL d).2.2 ≠ 0) : parseL d = ([], 0) := by rw [parseL, dif_pos (.inr h)]
theorem parse_ok {d : List UInt8} (hd : d ≠ []) (h : (unframeL d).2.2 = 0) : parseL d = ((unframeL d).1 :: (parseL (d.drop (unframeL d).2.1)).1, (unframeL d).2.1 + (parseL (d.drop (unframeL d).2.1)).2) := by
  rw [parseL, dif_neg]
  rintro (h1 | h1)
  · exact hd h1
  · exact h1 h

section
variable {B w : World} {Γ : List HProp} {l d : Nat} {W : WalD} {s : Sl} {rs : RecL} {D : DiskD}
theorem r_rune {c : Nat} {k : ByteArray → K} (hc : c < 128) (hk : k (bs [u8 c]) w) : Rd Try.prog (convert ty_int32 ty_string (.int .i32 (c : Int))) Value.string k w := by
  refine ⟨_, ?_, hk⟩
  have h1 : Try.prog.underlying ty_int32 = some (.int .i32) := by kernel_rfl
  have h2 : Try.prog.underlying ty_string = some .string := by kernel_rfl
  have h3 : Utf8.encode (c : Int) = bs [u8 c] := by
    unfold Utf8.encode
    have hv : Utf8.valid (c : Int) = true := by simp [Utf8.valid]; omega
    simp only [hv, if_true, Int.toNat_natCast]
    rw [if_pos (by omega)]
    rfl
  simp [convert, run_underlying h1, run_underlying h2, Conv.intToString, h3]

theorem wal_file_spec {p : Nat} {k : ByteArray → K} (hp : p ≤ 9) (hn : W.name.length ≤ 1000) (h : Holds B (blk l (.cells (wA d W s) ty_wal_Log (0, 0)) :: SlC ty_s_uint8 1 s (List.map recV rs) :: stars (List.map recB rs) :: Γ) w) (hk : k (bs (fileW W.name p)) w) : wal_Log_file.call (some ⟨l, 0, none⟩) (p : Int) k w := by
  refine wal_Log_file_ok _ _ _ _ ?_
  unfold wal_Log_file
  refine r_nn rfl ?_
  try simp only [add_mk, Nat.zero_add, Nat.reduceAdd]
  refine r_ld (x := (bs W.name)) h rfl (by first | with_reducible exact M0 | with_reducible exact M1 | with_reducible exact M2 | with_reducible exact M3 | with_reducible exact M4 | with_reducible exact M5 | with_reducible exact M6 | with_reducible exact M7 | with_reducible exact M8 | with_reducible exact M9 | with_reducible exact M10 | with_reducible exact M11 | with_reducible exact M12) ?_ ?_
  · exact rfl
  refine r_ar (e' := ((48 + p : Nat) : Int)) (by rw [wrap64 (by omega) (by omega)]; omega) ?_
  refine r_ar (e' := ((48 + p : Nat) : Int)) (by unfold IntKind.wrap; simp only [IntKind.bits, IntKind.signed, Bool.true_and, decide_eq_true_eq, Nat.reduceSub, Int.reducePow, ge_iff_le]; split <;> omega) ?_
  refine r_rune (by omega) ?_
  refine ⟨bs (fileW W.name p), ?_, (bs_app' W.name [u8 (48 + p)]).symm, hk⟩
  have e1 : (bs W.name).size = W.name.length := by simp [bs, ByteArray.size]
  have e2 : (bs [u8 (48 + p)]).size = 1 := rfl
  rw [e1, e2]
  omega
end
end Go.Proofs.Ytdpepgjbambinaa
