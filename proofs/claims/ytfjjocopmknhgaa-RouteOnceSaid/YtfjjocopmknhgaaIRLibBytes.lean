/- Plain forms of functions, and that their code comes to them (package lib_bytes). -/
import Derived.Test.YtfjjocopmknhgaaCalls
namespace Go.Proofs.Ytfjjocopmknhgaa
open Go Go.Sep
set_option linter.unusedVariables false
set_option linter.unusedSimpArgs false
set_option maxRecDepth 100000
set_option maxHeartbeats 4000000
attribute [local irreducible] G Gp Cx Tx Ex Sx Dx Ox Ax Lx Rx Fx Bx Bj Al Do Ld LdN St StN New CallF Ar DoU Rd Rd2 Pu Cd Ite Fv CallV CallY Ans0 Ans1 Ans2 Ans3 Ans4 Ans5 Ext Dead Dr WithS Sv LdS LdNS RdS Rd2S Nn Idx IdxA IdxS Fld Bld Slc SlcS Cat All LoopK RangeF RangeJ TakeD
namespace F_IRLibBytes
instance mx : MX Try.prog := ⟨mixed⟩
instance sl_33 : SLT Try.prog 33 5 1 := ⟨by kernel_rfl⟩
instance un_33 : UN Try.prog 33 (.slice 5) := ⟨Try.underlying33⟩
instance zt_5 : ZT Try.prog 5 (.int .u8 0) := ⟨Try.t5, by kernel_rfl, by kernel_rfl⟩
end F_IRLibBytes
def bytes_Clone (b0 : Sl) (Q : Sl → K) : K :=
  Ite ((b0).a.isNone)
    (Q (Sl.mk none 0 0))
    (New 5 #[] fun t5 =>
    Do Try.prog (Builtin.append_ #[33, 33] 33 #[(Sl.val (Sl.mk (some t5) 0 0)), (Sl.val b0)]) Sl.val fun t7 =>
    Q t7)
theorem bytes_Clone_ok (b0 : Sl) (Q : Sl → K) (w : World) (h : bytes_Clone b0 Q w) : bytes_Clone.call b0 Q w := by
  exact g_walk 8 h Try.func56
def bytes_Equal (a0 : Sl) (b1 : Sl) (Q : Bool → K) : K :=
  Rd Try.prog (convert 33 9 (Sl.val a0)) Value.string fun t6 =>
  Rd Try.prog (convert 33 9 (Sl.val b1)) Value.string fun t8 =>
  Q (t6.toList == t8.toList)
theorem bytes_Equal_ok (a0 : Sl) (b1 : Sl) (Q : Bool → K) (w : World) (h : bytes_Equal a0 b1 Q w) : bytes_Equal.call a0 b1 Q w := by
  exact g_walk 10 h Try.func98
end Go.Proofs.Ytfjjocopmknhgaa
