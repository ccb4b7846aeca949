/- How the arguments of laws read. -/
import Derived.Test.YtdpepgjbambinaaTypes
import Derived.Test.YtdpepgjbambinaaRow
namespace Go.Proofs.Ytdpepgjbambinaa
open Go Go.Sep
def Sh_ty_int64 : Sh := (.int .i64)
theorem sh_2 : mkSh Try.prog 9 2 = Sh_ty_int64 := by kernel_rfl
def Sh_ty_int : Sh := (.int .i64)
theorem sh_3 : mkSh Try.prog 9 3 = Sh_ty_int := by kernel_rfl
def Sh_ty_s_uint8 : Sh := (.sl (.int .u8) 1)
theorem sh_22 : mkSh Try.prog 9 22 = Sh_ty_s_uint8 := by kernel_rfl
def Sh_ty_s_s_string : Sh := (.sl (.sl .str 1) 1)
theorem sh_28 : mkSh Try.prog 9 28 = Sh_ty_s_s_string := by kernel_rfl
def Sh_ty_s_int : Sh := (.sl (.int .i64) 1)
theorem sh_29 : mkSh Try.prog 9 29 = Sh_ty_s_int := by kernel_rfl
def Sh_ty_s_s_uint8 : Sh := (.sl (.sl (.int .u8) 1) 1)
theorem sh_54 : mkSh Try.prog 9 54 = Sh_ty_s_s_uint8 := by kernel_rfl
def Sh_ty_argosylaw04_Kept : Sh := (.fld 0 1 (.sl (.sl (.int .u8) 1) 1) (.fld 1 1 (.sl (.sl (.int .u8) 1) 1) (.fld 2 1 (.sl (.int .i64) 1) .nil)))
theorem sh_56 : mkSh Try.prog 9 56 = Sh_ty_argosylaw04_Kept := by kernel_rfl
def Sh_ty_s_api_Txn : Sh := (.sl (.fld 0 1 (.int .i64) (.fld 1 1 (.sl .str 1) (.fld 2 1 (.sl .str 1) (.fld 3 1 (.sl (.fld 0 1 (.int .i64) (.fld 1 1 .str (.fld 2 1 (.sl (.int .u8) 1) (.fld 3 1 (.int .i64) .nil)))) 4) (.fld 4 1 (.int .i64) .nil))))) 5)
theorem sh_78 : mkSh Try.prog 9 78 = Sh_ty_s_api_Txn := by kernel_rfl
def Sh_ty_s_api_Decision : Sh := (.sl (.fld 0 4 (.fld 0 3 (.fld 0 1 (.int .i64) (.fld 1 1 (.int .u64) (.fld 2 1 (.int .u64) .nil))) (.fld 3 1 (.int .i64) .nil)) (.fld 4 2 (.fld 0 1 (.int .i64) (.fld 1 1 (.sl (.fld 0 1 .bool (.fld 1 1 (.sl (.int .u8) 1) .nil)) 2) .nil)) .nil)) 6)
theorem sh_79 : mkSh Try.prog 9 79 = Sh_ty_s_api_Decision := by kernel_rfl
end Go.Proofs.Ytdpepgjbambinaa
