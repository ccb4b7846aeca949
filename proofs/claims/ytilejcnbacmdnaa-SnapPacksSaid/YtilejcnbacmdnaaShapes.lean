/- How the arguments of laws read. -/
import Derived.Test.YtilejcnbacmdnaaTypes
import Derived.Test.YtilejcnbacmdnaaRow
namespace Go.Proofs.Ytilejcnbacmdnaa
open Go Go.Sep
def Sh_ty_int : Sh := (.int .i64)
theorem sh_3 : mkSh Try.prog 9 3 = Sh_ty_int := by kernel_rfl
def Sh_ty_s_uint8 : Sh := (.sl (.int .u8) 1)
theorem sh_22 : mkSh Try.prog 9 22 = Sh_ty_s_uint8 := by kernel_rfl
def Sh_ty_uint64 : Sh := (.int .u64)
theorem sh_23 : mkSh Try.prog 9 23 = Sh_ty_uint64 := by kernel_rfl
def Sh_ty_api_Record : Sh := (.fld 0 1 .bool (.fld 1 1 (.sl (.int .u8) 1) (.fld 2 1 (.int .i64) (.fld 3 1 (.int .u64) .nil))))
theorem sh_25 : mkSh Try.prog 9 25 = Sh_ty_api_Record := by kernel_rfl
def Sh_ty_api_Mark : Sh := (.fld 0 1 .str (.fld 1 1 (.int .i64) (.fld 2 1 (.int .u64) .nil)))
theorem sh_27 : mkSh Try.prog 9 27 = Sh_ty_api_Mark := by kernel_rfl
def Sh_ty_s_api_Parcel : Sh := (.sl (.fld 0 1 (.int .i64) (.fld 1 1 (.int .i64) (.fld 2 5 (.fld 0 1 (.int .u64) (.fld 1 1 (.int .u64) (.fld 2 1 (.int .u64) (.fld 3 1 (.int .u64) (.fld 4 1 (.sl (.int .u8) 1) .nil))))) .nil))) 7)
theorem sh_31 : mkSh Try.prog 9 31 = Sh_ty_s_api_Parcel := by kernel_rfl
def Sh_ty_s_int : Sh := (.sl (.int .i64) 1)
theorem sh_32 : mkSh Try.prog 9 32 = Sh_ty_s_int := by kernel_rfl
def Sh_ty_s_argosylaw20_Op : Sh := (.sl (.fld 0 1 (.int .i64) (.fld 1 1 (.int .i64) (.fld 2 7 (.fld 0 1 (.int .i64) (.fld 1 1 (.int .i64) (.fld 2 5 (.fld 0 1 (.int .u64) (.fld 1 1 (.int .u64) (.fld 2 1 (.int .u64) (.fld 3 1 (.int .u64) (.fld 4 1 (.sl (.int .u8) 1) .nil))))) .nil))) .nil))) 9)
theorem sh_47 : mkSh Try.prog 9 47 = Sh_ty_s_argosylaw20_Op := by kernel_rfl
def Sh_ty_s_s_uint8 : Sh := (.sl (.sl (.int .u8) 1) 1)
theorem sh_56 : mkSh Try.prog 9 56 = Sh_ty_s_s_uint8 := by kernel_rfl
def Sh_ty_s_api_Packet : Sh := (.sl (.fld 0 1 (.int .u64) (.fld 1 1 (.int .u64) (.fld 2 1 (.int .u64) (.fld 3 1 (.int .u64) (.fld 4 1 (.sl (.int .u8) 1) .nil))))) 5)
theorem sh_60 : mkSh Try.prog 9 60 = Sh_ty_s_api_Packet := by kernel_rfl
def Sh_ty_s_argosylaw19_Step : Sh := (.sl (.fld 0 1 (.int .i64) (.fld 1 1 (.int .i64) (.fld 2 1 (.int .i64) (.fld 3 1 (.sl (.int .u8) 1) .nil)))) 4)
theorem sh_66 : mkSh Try.prog 9 66 = Sh_ty_s_argosylaw19_Step := by kernel_rfl
def Sh_ty_s_uint64 : Sh := (.sl (.int .u64) 1)
theorem sh_80 : mkSh Try.prog 9 80 = Sh_ty_s_uint64 := by kernel_rfl
def Sh_ty_s_argosylaw19_Op : Sh := (.sl (.fld 0 1 (.int .i64) (.fld 1 1 (.sl (.int .u8) 1) (.fld 2 5 (.fld 0 1 (.int .u64) (.fld 1 1 (.int .u64) (.fld 2 1 (.int .u64) (.fld 3 1 (.int .u64) (.fld 4 1 (.sl (.int .u8) 1) .nil))))) .nil))) 7)
theorem sh_82 : mkSh Try.prog 9 82 = Sh_ty_s_argosylaw19_Op := by kernel_rfl
end Go.Proofs.Ytilejcnbacmdnaa
