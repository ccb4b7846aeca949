/- How the arguments of laws read. -/
import Derived.Test.YtgnkminakongkaaTypes
import Derived.Test.YtgnkminakongkaaRow
namespace Go.Proofs.Ytgnkminakongkaa
open Go Go.Sep
def Sh_ty_int : Sh := (.int .i64)
theorem sh_3 : mkSh Try.prog 9 3 = Sh_ty_int := by kernel_rfl
def Sh_ty_string : Sh := .str
theorem sh_9 : mkSh Try.prog 9 9 = Sh_ty_string := by kernel_rfl
def Sh_ty_s_argosylaw10_Move : Sh := (.sl (.fld 0 1 .str (.fld 1 1 (.int .i64) .nil)) 2)
theorem sh_22 : mkSh Try.prog 9 22 = Sh_ty_s_argosylaw10_Move := by kernel_rfl
def Sh_ty_s_uint8 : Sh := (.sl (.int .u8) 1)
theorem sh_33 : mkSh Try.prog 9 33 = Sh_ty_s_uint8 := by kernel_rfl
def Sh_ty_s_s_uint8 : Sh := (.sl (.sl (.int .u8) 1) 1)
theorem sh_43 : mkSh Try.prog 9 43 = Sh_ty_s_s_uint8 := by kernel_rfl
def Sh_ty_s_int : Sh := (.sl (.int .i64) 1)
theorem sh_44 : mkSh Try.prog 9 44 = Sh_ty_s_int := by kernel_rfl
def Sh_ty_s_argosylaw03_Op : Sh := (.sl (.fld 0 1 (.int .i64) (.fld 1 1 (.int .i64) (.fld 2 1 .str (.fld 3 1 .str (.fld 4 1 (.sl (.int .u8) 1) (.fld 5 1 (.sl (.int .i64) 1) .nil)))))) 6)
theorem sh_54 : mkSh Try.prog 9 54 = Sh_ty_s_argosylaw03_Op := by kernel_rfl
def Sh_ty_2_s_uint8 : Sh := (.fld 0 1 (.sl (.int .u8) 1) (.fld 1 1 (.sl (.int .u8) 1) .nil))
theorem sh_64 : mkSh Try.prog 9 64 = Sh_ty_2_s_uint8 := by kernel_rfl
def Sh_ty_s_argosylaw08_Op : Sh := (.sl (.fld 0 1 (.int .i64) (.fld 1 1 (.int .i64) (.fld 2 1 .str (.fld 3 1 (.sl (.int .u8) 1) (.fld 4 1 (.sl (.int .i64) 1) .nil))))) 5)
theorem sh_78 : mkSh Try.prog 9 78 = Sh_ty_s_argosylaw08_Op := by kernel_rfl
end Go.Proofs.Ytgnkminakongkaa
