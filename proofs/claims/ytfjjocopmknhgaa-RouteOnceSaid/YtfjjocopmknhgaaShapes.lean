/- How the arguments of laws read. -/
import Derived.Test.YtfjjocopmknhgaaTypes
import Derived.Test.YtfjjocopmknhgaaRow
namespace Go.Proofs.Ytfjjocopmknhgaa
open Go Go.Sep
def Sh_ty_int64 : Sh := (.int .i64)
theorem sh_2 : mkSh Try.prog 9 2 = Sh_ty_int64 := by kernel_rfl
def Sh_ty_int : Sh := (.int .i64)
theorem sh_3 : mkSh Try.prog 9 3 = Sh_ty_int := by kernel_rfl
def Sh_ty_string : Sh := .str
theorem sh_9 : mkSh Try.prog 9 9 = Sh_ty_string := by kernel_rfl
def Sh_ty_s_argosylaw10_Move : Sh := (.sl (.fld 0 1 .str (.fld 1 1 (.int .i64) .nil)) 2)
theorem sh_22 : mkSh Try.prog 9 22 = Sh_ty_s_argosylaw10_Move := by kernel_rfl
def Sh_ty_s_uint8 : Sh := (.sl (.int .u8) 1)
theorem sh_33 : mkSh Try.prog 9 33 = Sh_ty_s_uint8 := by kernel_rfl
def Sh_ty_api_Txn : Sh := (.fld 0 1 (.int .i64) (.fld 1 1 (.sl .str 1) (.fld 2 1 (.sl .str 1) (.fld 3 1 (.sl (.fld 0 1 (.int .i64) (.fld 1 1 .str (.fld 2 1 (.sl (.int .u8) 1) (.fld 3 1 (.int .i64) .nil)))) 4) (.fld 4 1 (.int .i64) .nil)))))
theorem sh_50 : mkSh Try.prog 9 50 = Sh_ty_api_Txn := by kernel_rfl
def Sh_ty_s_argosylaw07_Cell : Sh := (.sl (.fld 0 1 .str (.fld 1 1 (.sl (.int .u8) 1) (.fld 2 1 .bool (.fld 3 1 (.int .i64) .nil)))) 4)
theorem sh_70 : mkSh Try.prog 9 70 = Sh_ty_s_argosylaw07_Cell := by kernel_rfl
def Sh_ty_s_s_string : Sh := (.sl (.sl .str 1) 1)
theorem sh_93 : mkSh Try.prog 9 93 = Sh_ty_s_s_string := by kernel_rfl
def Sh_ty_s_int : Sh := (.sl (.int .i64) 1)
theorem sh_94 : mkSh Try.prog 9 94 = Sh_ty_s_int := by kernel_rfl
def Sh_ty_s_uint64 : Sh := (.sl (.int .u64) 1)
theorem sh_97 : mkSh Try.prog 9 97 = Sh_ty_s_uint64 := by kernel_rfl
end Go.Proofs.Ytfjjocopmknhgaa
