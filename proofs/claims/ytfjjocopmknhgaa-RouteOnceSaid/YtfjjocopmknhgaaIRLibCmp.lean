/- Plain forms of functions, and that their code comes to them (package lib_cmp). -/
import Derived.Test.YtfjjocopmknhgaaCalls
namespace Go.Proofs.Ytfjjocopmknhgaa
open Go Go.Sep
set_option linter.unusedVariables false
set_option linter.unusedSimpArgs false
set_option maxRecDepth 100000
set_option maxHeartbeats 4000000
attribute [local irreducible] G Gp Cx Tx Ex Sx Dx Ox Ax Lx Rx Fx Bx Bj Al Do Ld LdN St StN New CallF Ar DoU Rd Rd2 Pu Cd Ite Fv CallV CallY Ans0 Ans1 Ans2 Ans3 Ans4 Ans5 Ext Dead Dr WithS Sv LdS LdNS RdS Rd2S Nn Idx IdxA IdxS Fld Bld Slc SlcS Cat All LoopK RangeF RangeJ TakeD
namespace F_IRLibCmp
instance cb_115 : CB Try.prog 115 := ⟨by kernel_rfl⟩
instance mx : MX Try.prog := ⟨mixed⟩
end F_IRLibCmp
def cmp_Compare_string (x0 : ByteArray) (y1 : ByteArray) (Q : Int → K) : K :=
  cmp_isNaN_string.call x0 fun t8 =>
  cmp_isNaN_string.call y1 fun t10 =>
  Ite t8
    (Ite t10
      (Q 0)
      (Q (-1)))
    (Ite t10
      (Q 1)
      (Ite (Op.bytesLess x0.toList y1.toList)
        (Q (-1))
        (Ite (!(Op.bytesLess x0.toList y1.toList || x0.toList == y1.toList))
          (Q 1)
          (Q 0))))
theorem cmp_Compare_string_ok (x0 : ByteArray) (y1 : ByteArray) (Q : Int → K) (w : World) (h : cmp_Compare_string x0 y1 Q w) : cmp_Compare_string.call x0 y1 Q w := by
  exact g_walk 20 h Try.func108
def cmp_isNaN_string (x0 : ByteArray) (Q : Bool → K) : K :=
  Q (!(x0.toList == x0.toList))
theorem cmp_isNaN_string_ok (x0 : ByteArray) (Q : Bool → K) (w : World) (h : cmp_isNaN_string x0 Q w) : cmp_isNaN_string.call x0 Q w := by
  exact g_walk 6 h Try.func115
def cmp_Less_string.s1 (Q : Bool → K)  (t4_1 : Bool) : K :=
  Q t4_1
def cmp_Less_string (x0 : ByteArray) (y1 : ByteArray) (Q : Bool → K) : K :=
  cmp_isNaN_string.call x0 fun t6 =>
  Ite t6
    (cmp_isNaN_string.call y1 fun t9 =>
    Ite (!t9)
      (cmp_Less_string.s1 Q true)
      (cmp_Less_string.s1 Q (Op.bytesLess x0.toList y1.toList)))
    (cmp_Less_string.s1 Q (Op.bytesLess x0.toList y1.toList))
theorem cmp_Less_string_ok (x0 : ByteArray) (y1 : ByteArray) (Q : Bool → K) (w : World) (h : cmp_Less_string x0 y1 Q w) : cmp_Less_string.call x0 y1 Q w := by
  have hJ1000001 : JH 1000001 fun D => D [] (fun C => ∀ (t4_1 : Bool), C [(4, (.bool t4_1))] (cmp_Less_string.s1 Q t4_1)) := by intros; exact ⟨fun _ h => ⟨_, _, h⟩⟩
  exact g_walk 17 h Try.func129
end Go.Proofs.Ytfjjocopmknhgaa
