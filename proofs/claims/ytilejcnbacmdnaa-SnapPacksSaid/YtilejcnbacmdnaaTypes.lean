/- Facts of the program's own tables. -/
import Derived.Test.YtilejcnbacmdnaaProg
import Derived.Test.YtilejcnbacmdnaaEffs
namespace Go.Proofs.Ytilejcnbacmdnaa
open Go Go.Sep
set_option linter.unusedVariables false
set_option linter.unusedSimpArgs false
abbrev ty_int64 : Nat := 2
abbrev ty_int : Nat := 3
abbrev ty_bool : Nat := 4
abbrev ty_uint8 : Nat := 5
abbrev ty_abi_BoundsErrorCode : Nat := 6
abbrev ty_runtime_boundsError : Nat := 8
abbrev ty_string : Nat := 9
abbrev ty_runtime_errorString : Nat := 10
abbrev ty_runtime_plainError : Nat := 11
abbrev ty_uintptr : Nat := 12
abbrev ty_struct_msg_string_addr_uintptr : Nat := 13
abbrev ty_runtime_errorAddressString : Nat := 14
abbrev ty_p_runtime_TypeAssertionError : Nat := 15
abbrev ty_p_runtime_PanicNilError : Nat := 16
abbrev ty_p_abi_Type : Nat := 17
abbrev ty_struct_typ_p_abi_Type : Nat := 18
abbrev ty_maps_unhashableTypeError : Nat := 19
abbrev ty_interface : Nat := 20
abbrev ty_int32 : Nat := 21
abbrev ty_s_uint8 : Nat := 22
abbrev ty_uint64 : Nat := 23
abbrev ty_api_Record : Nat := 25
abbrev ty_api_Mark : Nat := 27
abbrev ty_s_api_Parcel : Nat := 31
abbrev ty_s_int : Nat := 32
abbrev ty_p_net_Net : Nat := 33
abbrev ty_api_Packet : Nat := 36
abbrev ty_api_Parcel : Nat := 38
abbrev ty_api_Errno : Nat := 39
abbrev ty_s_argosylaw20_Op : Nat := 47
abbrev ty_p_argosyref20_Net : Nat := 48
abbrev ty_struct_List_s_api_Parcel : Nat := 49
abbrev ty_argosyref20_Net : Nat := 50
abbrev ty_struct_Kind_int_K_int_P_api_Parcel : Nat := 51
abbrev ty_argosylaw20_Op : Nat := 52
abbrev ty_s_s_uint8 : Nat := 56
abbrev ty_p_link_Link : Nat := 57
abbrev ty_s_api_Packet : Nat := 60
abbrev ty_s_argosylaw19_Step : Nat := 66
abbrev ty_p_argosylaw19_pair : Nat := 67
abbrev ty_2_p_link_Link : Nat := 68
abbrev ty_2_s_api_Packet : Nat := 69
abbrev ty_2_s_s_uint8 : Nat := 70
abbrev ty_argosylaw19_pair : Nat := 72
abbrev ty_argosylaw19_Step : Nat := 74
abbrev ty_s_uint64 : Nat := 80
abbrev ty_s_argosylaw19_Op : Nat := 82
abbrev ty_p_argosyref19_Link : Nat := 84
abbrev ty_argosylaw19_Op : Nat := 87
abbrev ty_s_argosyref19_Early : Nat := 90
abbrev ty_argosyref19_Link : Nat := 92
abbrev ty_struct_list_s_api_Parcel : Nat := 101
abbrev ty_net_Net : Nat := 102
abbrev ty_map_uint64_s_uint8 : Nat := 105
abbrev ty_link_Link : Nat := 107
abbrev ty_struct_Seq_uint64_Data_s_uint8 : Nat := 112
abbrev ty_argosyref19_Early : Nat := 113
abbrev ty_p_code_Pen : Nat := 114
abbrev ty_struct_out_s_uint8 : Nat := 115
abbrev ty_code_Pen : Nat := 116
abbrev ty_p_argosyref01_Eye : Nat := 125
abbrev ty_struct_B_s_uint8_I_int : Nat := 126
abbrev ty_argosyref01_Eye : Nat := 127
abbrev ty_uint : Nat := 131
abbrev ty_uint32 : Nat := 132
abbrev ty_18_int : Nat := 135
abbrev ty_runtime_TypeAssertionError : Nat := 138
abbrev ty_0_p_runtime_PanicNilError : Nat := 139
abbrev ty_struct_0_p_runtime_PanicNilError : Nat := 140
abbrev ty_runtime_PanicNilError : Nat := 141
abbrev ty_abi_TFlag : Nat := 142
abbrev ty_abi_Kind : Nat := 143
abbrev ty_p_uint8 : Nat := 145
abbrev ty_abi_NameOff : Nat := 146
abbrev ty_abi_TypeOff : Nat := 147
abbrev ty_abi_Type : Nat := 149
abbrev ty_unsafe_Pointer : Nat := 151
theorem zero_ty_int64 : zeroT Try.prog ty_int64 (.int .i64 0) := ⟨Try.t2, by kernel_rfl, by kernel_rfl⟩
theorem zero_ty_int : zeroT Try.prog ty_int (.int .i64 0) := ⟨Try.t3, by kernel_rfl, by kernel_rfl⟩
theorem zero_ty_bool : zeroT Try.prog ty_bool (.bool false) := ⟨Try.t4, by kernel_rfl, by kernel_rfl⟩
theorem zero_ty_uint8 : zeroT Try.prog ty_uint8 (.int .u8 0) := ⟨Try.t5, by kernel_rfl, by kernel_rfl⟩
theorem zero_ty_abi_BoundsErrorCode : zeroT Try.prog ty_abi_BoundsErrorCode (.int .u8 0) := ⟨Try.t6, by kernel_rfl, by kernel_rfl⟩
theorem zero_ty_runtime_boundsError : zeroT Try.prog ty_runtime_boundsError (.agg #[(.int .i64 0), (.int .i64 0), (.bool false), (.int .u8 0)]) := ⟨Try.t8, by kernel_rfl, by kernel_rfl⟩
theorem zero_ty_string : zeroT Try.prog ty_string (.string ⟨#[]⟩) := ⟨Try.t9, by kernel_rfl, by kernel_rfl⟩
theorem zero_ty_runtime_errorString : zeroT Try.prog ty_runtime_errorString (.string ⟨#[]⟩) := ⟨Try.t10, by kernel_rfl, by kernel_rfl⟩
theorem zero_ty_runtime_plainError : zeroT Try.prog ty_runtime_plainError (.string ⟨#[]⟩) := ⟨Try.t11, by kernel_rfl, by kernel_rfl⟩
theorem zero_ty_uintptr : zeroT Try.prog ty_uintptr (.int .u64 0) := ⟨Try.t12, by kernel_rfl, by kernel_rfl⟩
theorem zero_ty_struct_msg_string_addr_uintptr : zeroT Try.prog ty_struct_msg_string_addr_uintptr (.agg #[(.string ⟨#[]⟩), (.int .u64 0)]) := ⟨Try.t13, by kernel_rfl, by kernel_rfl⟩
theorem zero_ty_runtime_errorAddressString : zeroT Try.prog ty_runtime_errorAddressString (.agg #[(.string ⟨#[]⟩), (.int .u64 0)]) := ⟨Try.t14, by kernel_rfl, by kernel_rfl⟩
theorem zero_ty_p_runtime_TypeAssertionError : zeroT Try.prog ty_p_runtime_TypeAssertionError (.pointer none) := ⟨Try.t15, by kernel_rfl, by kernel_rfl⟩
theorem zero_ty_p_runtime_PanicNilError : zeroT Try.prog ty_p_runtime_PanicNilError (.pointer none) := ⟨Try.t16, by kernel_rfl, by kernel_rfl⟩
theorem zero_ty_p_abi_Type : zeroT Try.prog ty_p_abi_Type (.pointer none) := ⟨Try.t17, by kernel_rfl, by kernel_rfl⟩
theorem zero_ty_struct_typ_p_abi_Type : zeroT Try.prog ty_struct_typ_p_abi_Type (.agg #[(.pointer none)]) := ⟨Try.t18, by kernel_rfl, by kernel_rfl⟩
theorem zero_ty_maps_unhashableTypeError : zeroT Try.prog ty_maps_unhashableTypeError (.agg #[(.pointer none)]) := ⟨Try.t19, by kernel_rfl, by kernel_rfl⟩
theorem zero_ty_interface : zeroT Try.prog ty_interface .nilIface := ⟨Try.t20, by kernel_rfl, by kernel_rfl⟩
theorem zero_ty_int32 : zeroT Try.prog ty_int32 (.int .i32 0) := ⟨Try.t21, by kernel_rfl, by kernel_rfl⟩
theorem zero_ty_s_uint8 : zeroT Try.prog ty_s_uint8 (Sl.val ⟨none, 0, 0⟩) := ⟨Try.t22, by kernel_rfl, by kernel_rfl⟩
theorem zero_ty_uint64 : zeroT Try.prog ty_uint64 (.int .u64 0) := ⟨Try.t23, by kernel_rfl, by kernel_rfl⟩
theorem zero_ty_api_Record : zeroT Try.prog ty_api_Record (.agg #[(.bool false), (Sl.val ⟨none, 0, 0⟩), (.int .i64 0), (.int .u64 0)]) := ⟨Try.t25, by kernel_rfl, by kernel_rfl⟩
theorem zero_ty_api_Mark : zeroT Try.prog ty_api_Mark (.agg #[(.string ⟨#[]⟩), (.int .i64 0), (.int .u64 0)]) := ⟨Try.t27, by kernel_rfl, by kernel_rfl⟩
theorem zero_ty_s_api_Parcel : zeroT Try.prog ty_s_api_Parcel (Sl.val ⟨none, 0, 0⟩) := ⟨Try.t31, by kernel_rfl, by kernel_rfl⟩
theorem zero_ty_s_int : zeroT Try.prog ty_s_int (Sl.val ⟨none, 0, 0⟩) := ⟨Try.t32, by kernel_rfl, by kernel_rfl⟩
theorem zero_ty_p_net_Net : zeroT Try.prog ty_p_net_Net (.pointer none) := ⟨Try.t33, by kernel_rfl, by kernel_rfl⟩
theorem zero_ty_api_Packet : zeroT Try.prog ty_api_Packet (.agg #[(.int .u64 0), (.int .u64 0), (.int .u64 0), (.int .u64 0), (Sl.val ⟨none, 0, 0⟩)]) := ⟨Try.t36, by kernel_rfl, by kernel_rfl⟩
theorem zero_ty_api_Parcel : zeroT Try.prog ty_api_Parcel (.agg #[(.int .i64 0), (.int .i64 0), (.int .u64 0), (.int .u64 0), (.int .u64 0), (.int .u64 0), (Sl.val ⟨none, 0, 0⟩)]) := ⟨Try.t38, by kernel_rfl, by kernel_rfl⟩
theorem zero_ty_api_Errno : zeroT Try.prog ty_api_Errno (.int .i64 0) := ⟨Try.t39, by kernel_rfl, by kernel_rfl⟩
theorem zero_ty_s_argosylaw20_Op : zeroT Try.prog ty_s_argosylaw20_Op (Sl.val ⟨none, 0, 0⟩) := ⟨Try.t47, by kernel_rfl, by kernel_rfl⟩
theorem zero_ty_p_argosyref20_Net : zeroT Try.prog ty_p_argosyref20_Net (.pointer none) := ⟨Try.t48, by kernel_rfl, by kernel_rfl⟩
theorem zero_ty_struct_List_s_api_Parcel : zeroT Try.prog ty_struct_List_s_api_Parcel (.agg #[(Sl.val ⟨none, 0, 0⟩)]) := ⟨Try.t49, by kernel_rfl, by kernel_rfl⟩
theorem zero_ty_argosyref20_Net : zeroT Try.prog ty_argosyref20_Net (.agg #[(Sl.val ⟨none, 0, 0⟩)]) := ⟨Try.t50, by kernel_rfl, by kernel_rfl⟩
theorem zero_ty_struct_Kind_int_K_int_P_api_Parcel : zeroT Try.prog ty_struct_Kind_int_K_int_P_api_Parcel (.agg #[(.int .i64 0), (.int .i64 0), (.int .i64 0), (.int .i64 0), (.int .u64 0), (.int .u64 0), (.int .u64 0), (.int .u64 0), (Sl.val ⟨none, 0, 0⟩)]) := ⟨Try.t51, by kernel_rfl, by kernel_rfl⟩
theorem zero_ty_argosylaw20_Op : zeroT Try.prog ty_argosylaw20_Op (.agg #[(.int .i64 0), (.int .i64 0), (.int .i64 0), (.int .i64 0), (.int .u64 0), (.int .u64 0), (.int .u64 0), (.int .u64 0), (Sl.val ⟨none, 0, 0⟩)]) := ⟨Try.t52, by kernel_rfl, by kernel_rfl⟩
theorem zero_ty_s_s_uint8 : zeroT Try.prog ty_s_s_uint8 (Sl.val ⟨none, 0, 0⟩) := ⟨Try.t56, by kernel_rfl, by kernel_rfl⟩
theorem zero_ty_p_link_Link : zeroT Try.prog ty_p_link_Link (.pointer none) := ⟨Try.t57, by kernel_rfl, by kernel_rfl⟩
theorem zero_ty_s_api_Packet : zeroT Try.prog ty_s_api_Packet (Sl.val ⟨none, 0, 0⟩) := ⟨Try.t60, by kernel_rfl, by kernel_rfl⟩
theorem zero_ty_s_argosylaw19_Step : zeroT Try.prog ty_s_argosylaw19_Step (Sl.val ⟨none, 0, 0⟩) := ⟨Try.t66, by kernel_rfl, by kernel_rfl⟩
theorem zero_ty_p_argosylaw19_pair : zeroT Try.prog ty_p_argosylaw19_pair (.pointer none) := ⟨Try.t67, by kernel_rfl, by kernel_rfl⟩
theorem zero_ty_2_p_link_Link : zeroT Try.prog ty_2_p_link_Link (.agg #[(.pointer none), (.pointer none)]) := ⟨Try.t68, by kernel_rfl, by kernel_rfl⟩
theorem zero_ty_2_s_api_Packet : zeroT Try.prog ty_2_s_api_Packet (.agg #[(Sl.val ⟨none, 0, 0⟩), (Sl.val ⟨none, 0, 0⟩)]) := ⟨Try.t69, by kernel_rfl, by kernel_rfl⟩
theorem zero_ty_2_s_s_uint8 : zeroT Try.prog ty_2_s_s_uint8 (.agg #[(Sl.val ⟨none, 0, 0⟩), (Sl.val ⟨none, 0, 0⟩)]) := ⟨Try.t70, by kernel_rfl, by kernel_rfl⟩
theorem zero_ty_argosylaw19_pair : zeroT Try.prog ty_argosylaw19_pair (.agg #[(.pointer none), (.pointer none), (Sl.val ⟨none, 0, 0⟩), (Sl.val ⟨none, 0, 0⟩), (Sl.val ⟨none, 0, 0⟩), (Sl.val ⟨none, 0, 0⟩), (Sl.val ⟨none, 0, 0⟩), (Sl.val ⟨none, 0, 0⟩)]) := ⟨Try.t72, by kernel_rfl, by kernel_rfl⟩
theorem zero_ty_argosylaw19_Step : zeroT Try.prog ty_argosylaw19_Step (.agg #[(.int .i64 0), (.int .i64 0), (.int .i64 0), (Sl.val ⟨none, 0, 0⟩)]) := ⟨Try.t74, by kernel_rfl, by kernel_rfl⟩
theorem zero_ty_s_uint64 : zeroT Try.prog ty_s_uint64 (Sl.val ⟨none, 0, 0⟩) := ⟨Try.t80, by kernel_rfl, by kernel_rfl⟩
theorem zero_ty_s_argosylaw19_Op : zeroT Try.prog ty_s_argosylaw19_Op (Sl.val ⟨none, 0, 0⟩) := ⟨Try.t82, by kernel_rfl, by kernel_rfl⟩
theorem zero_ty_p_argosyref19_Link : zeroT Try.prog ty_p_argosyref19_Link (.pointer none) := ⟨Try.t84, by kernel_rfl, by kernel_rfl⟩
theorem zero_ty_argosylaw19_Op : zeroT Try.prog ty_argosylaw19_Op (.agg #[(.int .i64 0), (Sl.val ⟨none, 0, 0⟩), (.int .u64 0), (.int .u64 0), (.int .u64 0), (.int .u64 0), (Sl.val ⟨none, 0, 0⟩)]) := ⟨Try.t87, by kernel_rfl, by kernel_rfl⟩
theorem zero_ty_s_argosyref19_Early : zeroT Try.prog ty_s_argosyref19_Early (Sl.val ⟨none, 0, 0⟩) := ⟨Try.t90, by kernel_rfl, by kernel_rfl⟩
theorem zero_ty_argosyref19_Link : zeroT Try.prog ty_argosyref19_Link (.agg #[(.int .u64 0), (.int .u64 0), (.int .u64 0), (.int .u64 0), (Sl.val ⟨none, 0, 0⟩), (Sl.val ⟨none, 0, 0⟩)]) := ⟨Try.t92, by kernel_rfl, by kernel_rfl⟩
theorem zero_ty_struct_list_s_api_Parcel : zeroT Try.prog ty_struct_list_s_api_Parcel (.agg #[(Sl.val ⟨none, 0, 0⟩)]) := ⟨Try.t101, by kernel_rfl, by kernel_rfl⟩
theorem zero_ty_net_Net : zeroT Try.prog ty_net_Net (.agg #[(Sl.val ⟨none, 0, 0⟩)]) := ⟨Try.t102, by kernel_rfl, by kernel_rfl⟩
theorem zero_ty_map_uint64_s_uint8 : zeroT Try.prog ty_map_uint64_s_uint8 (.map none) := ⟨Try.t105, by kernel_rfl, by kernel_rfl⟩
theorem zero_ty_link_Link : zeroT Try.prog ty_link_Link (.agg #[(.int .u64 0), (.int .u64 0), (.int .u64 0), (.int .u64 0), (Sl.val ⟨none, 0, 0⟩), (.map none)]) := ⟨Try.t107, by kernel_rfl, by kernel_rfl⟩
theorem zero_ty_struct_Seq_uint64_Data_s_uint8 : zeroT Try.prog ty_struct_Seq_uint64_Data_s_uint8 (.agg #[(.int .u64 0), (Sl.val ⟨none, 0, 0⟩)]) := ⟨Try.t112, by kernel_rfl, by kernel_rfl⟩
theorem zero_ty_argosyref19_Early : zeroT Try.prog ty_argosyref19_Early (.agg #[(.int .u64 0), (Sl.val ⟨none, 0, 0⟩)]) := ⟨Try.t113, by kernel_rfl, by kernel_rfl⟩
theorem zero_ty_p_code_Pen : zeroT Try.prog ty_p_code_Pen (.pointer none) := ⟨Try.t114, by kernel_rfl, by kernel_rfl⟩
theorem zero_ty_struct_out_s_uint8 : zeroT Try.prog ty_struct_out_s_uint8 (.agg #[(Sl.val ⟨none, 0, 0⟩)]) := ⟨Try.t115, by kernel_rfl, by kernel_rfl⟩
theorem zero_ty_code_Pen : zeroT Try.prog ty_code_Pen (.agg #[(Sl.val ⟨none, 0, 0⟩)]) := ⟨Try.t116, by kernel_rfl, by kernel_rfl⟩
theorem zero_ty_p_argosyref01_Eye : zeroT Try.prog ty_p_argosyref01_Eye (.pointer none) := ⟨Try.t125, by kernel_rfl, by kernel_rfl⟩
theorem zero_ty_struct_B_s_uint8_I_int : zeroT Try.prog ty_struct_B_s_uint8_I_int (.agg #[(Sl.val ⟨none, 0, 0⟩), (.int .i64 0)]) := ⟨Try.t126, by kernel_rfl, by kernel_rfl⟩
theorem zero_ty_argosyref01_Eye : zeroT Try.prog ty_argosyref01_Eye (.agg #[(Sl.val ⟨none, 0, 0⟩), (.int .i64 0)]) := ⟨Try.t127, by kernel_rfl, by kernel_rfl⟩
theorem zero_ty_uint : zeroT Try.prog ty_uint (.int .u64 0) := ⟨Try.t131, by kernel_rfl, by kernel_rfl⟩
theorem zero_ty_uint32 : zeroT Try.prog ty_uint32 (.int .u32 0) := ⟨Try.t132, by kernel_rfl, by kernel_rfl⟩
theorem zero_ty_runtime_TypeAssertionError : zeroT Try.prog ty_runtime_TypeAssertionError (.agg #[(.pointer none), (.pointer none), (.pointer none), (.string ⟨#[]⟩)]) := ⟨Try.t138, by kernel_rfl, by kernel_rfl⟩
theorem zero_ty_0_p_runtime_PanicNilError : zeroT Try.prog ty_0_p_runtime_PanicNilError (.agg #[]) := ⟨Try.t139, by kernel_rfl, by kernel_rfl⟩
theorem zero_ty_struct_0_p_runtime_PanicNilError : zeroT Try.prog ty_struct_0_p_runtime_PanicNilError (.agg #[]) := ⟨Try.t140, by kernel_rfl, by kernel_rfl⟩
theorem zero_ty_runtime_PanicNilError : zeroT Try.prog ty_runtime_PanicNilError (.agg #[]) := ⟨Try.t141, by kernel_rfl, by kernel_rfl⟩
theorem zero_ty_abi_TFlag : zeroT Try.prog ty_abi_TFlag (.int .u8 0) := ⟨Try.t142, by kernel_rfl, by kernel_rfl⟩
theorem zero_ty_abi_Kind : zeroT Try.prog ty_abi_Kind (.int .u8 0) := ⟨Try.t143, by kernel_rfl, by kernel_rfl⟩
theorem zero_ty_p_uint8 : zeroT Try.prog ty_p_uint8 (.pointer none) := ⟨Try.t145, by kernel_rfl, by kernel_rfl⟩
theorem zero_ty_abi_NameOff : zeroT Try.prog ty_abi_NameOff (.int .i32 0) := ⟨Try.t146, by kernel_rfl, by kernel_rfl⟩
theorem zero_ty_abi_TypeOff : zeroT Try.prog ty_abi_TypeOff (.int .i32 0) := ⟨Try.t147, by kernel_rfl, by kernel_rfl⟩
theorem zero_ty_unsafe_Pointer : zeroT Try.prog ty_unsafe_Pointer (.pointer none) := ⟨Try.t151, by kernel_rfl, by kernel_rfl⟩
theorem mixed : Try.prog.follows .mixedOrders = true := by kernel_rfl
theorem ar_135 : arrayT Try.prog 135 3 18 1 = true := by kernel_rfl
theorem ar_68 : arrayT Try.prog 68 57 2 1 = true := by kernel_rfl
theorem ar_69 : arrayT Try.prog 69 60 2 1 = true := by kernel_rfl
theorem ar_70 : arrayT Try.prog 70 56 2 1 = true := by kernel_rfl
theorem at_25 : aggT Try.prog 25 4 = true := by kernel_rfl
theorem at_27 : aggT Try.prog 27 3 = true := by kernel_rfl
theorem at_36 : aggT Try.prog 36 5 = true := by kernel_rfl
theorem at_38 : aggT Try.prog 38 7 = true := by kernel_rfl
theorem at_52 : aggT Try.prog 52 9 = true := by kernel_rfl
theorem at_74 : aggT Try.prog 74 4 = true := by kernel_rfl
theorem at_87 : aggT Try.prog 87 7 = true := by kernel_rfl
theorem cb_14 : callable Try.prog 14 = true := by kernel_rfl
theorem cb_15 : callable Try.prog 15 = true := by kernel_rfl
theorem cb_16 : callable Try.prog 16 = true := by kernel_rfl
theorem cb_17 : callable Try.prog 17 = true := by kernel_rfl
theorem cb_18 : callable Try.prog 18 = true := by kernel_rfl
theorem cb_19 : callable Try.prog 19 = true := by kernel_rfl
theorem cb_20 : callable Try.prog 20 = true := by kernel_rfl
theorem cb_21 : callable Try.prog 21 = true := by kernel_rfl
theorem cb_22 : callable Try.prog 22 = true := by kernel_rfl
theorem cb_23 : callable Try.prog 23 = true := by kernel_rfl
theorem cb_24 : callable Try.prog 24 = true := by kernel_rfl
theorem cb_25 : callable Try.prog 25 = true := by kernel_rfl
theorem cb_26 : callable Try.prog 26 = true := by kernel_rfl
theorem cb_27 : callable Try.prog 27 = true := by kernel_rfl
theorem cb_28 : callable Try.prog 28 = true := by kernel_rfl
theorem cb_29 : callable Try.prog 29 = true := by kernel_rfl
theorem cb_30 : callable Try.prog 30 = true := by kernel_rfl
theorem cb_31 : callable Try.prog 31 = true := by kernel_rfl
theorem cb_32 : callable Try.prog 32 = true := by kernel_rfl
theorem cb_33 : callable Try.prog 33 = true := by kernel_rfl
theorem cb_34 : callable Try.prog 34 = true := by kernel_rfl
theorem cb_35 : callable Try.prog 35 = true := by kernel_rfl
theorem cb_36 : callable Try.prog 36 = true := by kernel_rfl
theorem cb_37 : callable Try.prog 37 = true := by kernel_rfl
theorem cb_38 : callable Try.prog 38 = true := by kernel_rfl
theorem cb_39 : callable Try.prog 39 = true := by kernel_rfl
theorem cb_40 : callable Try.prog 40 = true := by kernel_rfl
theorem cb_41 : callable Try.prog 41 = true := by kernel_rfl
theorem cb_42 : callable Try.prog 42 = true := by kernel_rfl
theorem cb_43 : callable Try.prog 43 = true := by kernel_rfl
theorem cb_44 : callable Try.prog 44 = true := by kernel_rfl
theorem cb_45 : callable Try.prog 45 = true := by kernel_rfl
theorem cb_46 : callable Try.prog 46 = true := by kernel_rfl
theorem cb_47 : callable Try.prog 47 = true := by kernel_rfl
theorem cb_48 : callable Try.prog 48 = true := by kernel_rfl
theorem cb_49 : callable Try.prog 49 = true := by kernel_rfl
theorem cb_50 : callable Try.prog 50 = true := by kernel_rfl
theorem cb_51 : callable Try.prog 51 = true := by kernel_rfl
theorem cb_52 : callable Try.prog 52 = true := by kernel_rfl
theorem cb_53 : callable Try.prog 53 = true := by kernel_rfl
theorem cb_54 : callable Try.prog 54 = true := by kernel_rfl
theorem cb_55 : callable Try.prog 55 = true := by kernel_rfl
theorem cb_56 : callable Try.prog 56 = true := by kernel_rfl
theorem cb_57 : callable Try.prog 57 = true := by kernel_rfl
theorem cb_58 : callable Try.prog 58 = true := by kernel_rfl
theorem cb_59 : callable Try.prog 59 = true := by kernel_rfl
theorem cb_60 : callable Try.prog 60 = true := by kernel_rfl
theorem cb_61 : callable Try.prog 61 = true := by kernel_rfl
theorem cb_62 : callable Try.prog 62 = true := by kernel_rfl
theorem cb_63 : callable Try.prog 63 = true := by kernel_rfl
theorem cb_64 : callable Try.prog 64 = true := by kernel_rfl
theorem cb_65 : callable Try.prog 65 = true := by kernel_rfl
theorem cb_66 : callable Try.prog 66 = true := by kernel_rfl
theorem cb_67 : callable Try.prog 67 = true := by kernel_rfl
theorem cb_68 : callable Try.prog 68 = true := by kernel_rfl
theorem cb_69 : callable Try.prog 69 = true := by kernel_rfl
theorem cb_70 : callable Try.prog 70 = true := by kernel_rfl
theorem cb_72 : callable Try.prog 72 = true := by kernel_rfl
theorem cb_73 : callable Try.prog 73 = true := by kernel_rfl
theorem ct_105 : cellT Try.prog 105 = true := by kernel_rfl
theorem ct_22 : cellT Try.prog 22 = true := by kernel_rfl
theorem ct_23 : cellT Try.prog 23 = true := by kernel_rfl
theorem ct_3 : cellT Try.prog 3 = true := by kernel_rfl
theorem ct_31 : cellT Try.prog 31 = true := by kernel_rfl
theorem ct_5 : cellT Try.prog 5 = true := by kernel_rfl
theorem ct_56 : cellT Try.prog 56 = true := by kernel_rfl
theorem ct_57 : cellT Try.prog 57 = true := by kernel_rfl
theorem ct_60 : cellT Try.prog 60 = true := by kernel_rfl
theorem ct_90 : cellT Try.prog 90 = true := by kernel_rfl
theorem ft_102_0 : fieldT Try.prog 102 0 0 1 = true := by kernel_rfl
theorem ft_107_0 : fieldT Try.prog 107 0 0 1 = true := by kernel_rfl
theorem ft_107_1 : fieldT Try.prog 107 1 1 1 = true := by kernel_rfl
theorem ft_107_2 : fieldT Try.prog 107 2 2 1 = true := by kernel_rfl
theorem ft_107_3 : fieldT Try.prog 107 3 3 1 = true := by kernel_rfl
theorem ft_107_4 : fieldT Try.prog 107 4 4 1 = true := by kernel_rfl
theorem ft_107_5 : fieldT Try.prog 107 5 5 1 = true := by kernel_rfl
theorem ft_113_0 : fieldT Try.prog 113 0 0 1 = true := by kernel_rfl
theorem ft_113_1 : fieldT Try.prog 113 1 1 1 = true := by kernel_rfl
theorem ft_116_0 : fieldT Try.prog 116 0 0 1 = true := by kernel_rfl
theorem ft_127_0 : fieldT Try.prog 127 0 0 1 = true := by kernel_rfl
theorem ft_127_1 : fieldT Try.prog 127 1 1 1 = true := by kernel_rfl
theorem ft_25_2 : fieldT Try.prog 25 2 2 1 = true := by kernel_rfl
theorem ft_25_3 : fieldT Try.prog 25 3 3 1 = true := by kernel_rfl
theorem ft_27_1 : fieldT Try.prog 27 1 1 1 = true := by kernel_rfl
theorem ft_27_2 : fieldT Try.prog 27 2 2 1 = true := by kernel_rfl
theorem ft_36_0 : fieldT Try.prog 36 0 0 1 = true := by kernel_rfl
theorem ft_36_1 : fieldT Try.prog 36 1 1 1 = true := by kernel_rfl
theorem ft_36_2 : fieldT Try.prog 36 2 2 1 = true := by kernel_rfl
theorem ft_36_3 : fieldT Try.prog 36 3 3 1 = true := by kernel_rfl
theorem ft_36_4 : fieldT Try.prog 36 4 4 1 = true := by kernel_rfl
theorem ft_38_0 : fieldT Try.prog 38 0 0 1 = true := by kernel_rfl
theorem ft_38_1 : fieldT Try.prog 38 1 1 1 = true := by kernel_rfl
theorem ft_38_2 : fieldT Try.prog 38 2 2 5 = true := by kernel_rfl
theorem ft_50_0 : fieldT Try.prog 50 0 0 1 = true := by kernel_rfl
theorem ft_52_0 : fieldT Try.prog 52 0 0 1 = true := by kernel_rfl
theorem ft_52_1 : fieldT Try.prog 52 1 1 1 = true := by kernel_rfl
theorem ft_52_2 : fieldT Try.prog 52 2 2 7 = true := by kernel_rfl
theorem ft_72_0 : fieldT Try.prog 72 0 0 2 = true := by kernel_rfl
theorem ft_72_1 : fieldT Try.prog 72 1 2 2 = true := by kernel_rfl
theorem ft_72_2 : fieldT Try.prog 72 2 4 2 = true := by kernel_rfl
theorem ft_72_3 : fieldT Try.prog 72 3 6 2 = true := by kernel_rfl
theorem ft_74_0 : fieldT Try.prog 74 0 0 1 = true := by kernel_rfl
theorem ft_74_1 : fieldT Try.prog 74 1 1 1 = true := by kernel_rfl
theorem ft_74_2 : fieldT Try.prog 74 2 2 1 = true := by kernel_rfl
theorem ft_74_3 : fieldT Try.prog 74 3 3 1 = true := by kernel_rfl
theorem ft_87_0 : fieldT Try.prog 87 0 0 1 = true := by kernel_rfl
theorem ft_87_1 : fieldT Try.prog 87 1 1 1 = true := by kernel_rfl
theorem ft_87_2 : fieldT Try.prog 87 2 2 5 = true := by kernel_rfl
theorem ft_92_0 : fieldT Try.prog 92 0 0 1 = true := by kernel_rfl
theorem ft_92_1 : fieldT Try.prog 92 1 1 1 = true := by kernel_rfl
theorem ft_92_2 : fieldT Try.prog 92 2 2 1 = true := by kernel_rfl
theorem ft_92_3 : fieldT Try.prog 92 3 3 1 = true := by kernel_rfl
theorem ft_92_4 : fieldT Try.prog 92 4 4 1 = true := by kernel_rfl
theorem ft_92_5 : fieldT Try.prog 92 5 5 1 = true := by kernel_rfl
theorem in_131 : intT Try.prog 131 .u64 = true := by kernel_rfl
theorem in_132 : intT Try.prog 132 .u32 = true := by kernel_rfl
theorem in_23 : intT Try.prog 23 .u64 = true := by kernel_rfl
theorem in_3 : intT Try.prog 3 .i64 = true := by kernel_rfl
theorem in_5 : intT Try.prog 5 .u8 = true := by kernel_rfl
theorem pl_102 : placesT Try.prog 102 [(0, 1)] := ⟨_, Try.underlying102, by kernel_rfl⟩
theorem pl_107 : placesT Try.prog 107 [(0, 1), (1, 1), (2, 1), (3, 1), (4, 1), (5, 1)] := ⟨_, Try.underlying107, by kernel_rfl⟩
theorem pl_113 : placesT Try.prog 113 [(0, 1), (1, 1)] := ⟨_, Try.underlying113, by kernel_rfl⟩
theorem pl_116 : placesT Try.prog 116 [(0, 1)] := ⟨_, Try.underlying116, by kernel_rfl⟩
theorem pl_127 : placesT Try.prog 127 [(0, 1), (1, 1)] := ⟨_, Try.underlying127, by kernel_rfl⟩
theorem pl_25 : placesT Try.prog 25 [(0, 1), (1, 1), (2, 1), (3, 1)] := ⟨_, Try.underlying25, by kernel_rfl⟩
theorem pl_27 : placesT Try.prog 27 [(0, 1), (1, 1), (2, 1)] := ⟨_, Try.underlying27, by kernel_rfl⟩
theorem pl_36 : placesT Try.prog 36 [(0, 1), (1, 1), (2, 1), (3, 1), (4, 1)] := ⟨_, Try.underlying36, by kernel_rfl⟩
theorem pl_38 : placesT Try.prog 38 [(0, 1), (1, 1), (2, 5)] := ⟨_, Try.underlying38, by kernel_rfl⟩
theorem pl_50 : placesT Try.prog 50 [(0, 1)] := ⟨_, Try.underlying50, by kernel_rfl⟩
theorem pl_72 : placesT Try.prog 72 [(0, 2), (2, 2), (4, 2), (6, 2)] := ⟨_, Try.underlying72, by kernel_rfl⟩
theorem pl_92 : placesT Try.prog 92 [(0, 1), (1, 1), (2, 1), (3, 1), (4, 1), (5, 1)] := ⟨_, Try.underlying92, by kernel_rfl⟩
theorem rz_113_0 : (Array.range (0 * 2)).map (fun i => (if 0 * 2 = 0 then #[] else Value.cells (.agg #[(.int .u64 0), (Sl.val ⟨none, 0, 0⟩)]))[i % (if 0 * 2 = 0 then #[] else Value.cells (.agg #[(.int .u64 0), (Sl.val ⟨none, 0, 0⟩)])).size]!) = #[] := by kernel_rfl
theorem rz_113_1 : (Array.range (1 * 2)).map (fun i => (if 1 * 2 = 0 then #[] else Value.cells (.agg #[(.int .u64 0), (Sl.val ⟨none, 0, 0⟩)]))[i % (if 1 * 2 = 0 then #[] else Value.cells (.agg #[(.int .u64 0), (Sl.val ⟨none, 0, 0⟩)])).size]!) = #[(.int .u64 0), (Sl.val ⟨none, 0, 0⟩)] := by kernel_rfl
theorem rz_22_0 : (Array.range (0 * 1)).map (fun i => (if 0 * 1 = 0 then #[] else Value.cells (Sl.val ⟨none, 0, 0⟩))[i % (if 0 * 1 = 0 then #[] else Value.cells (Sl.val ⟨none, 0, 0⟩)).size]!) = #[] := by kernel_rfl
theorem rz_22_1 : (Array.range (1 * 1)).map (fun i => (if 1 * 1 = 0 then #[] else Value.cells (Sl.val ⟨none, 0, 0⟩))[i % (if 1 * 1 = 0 then #[] else Value.cells (Sl.val ⟨none, 0, 0⟩)).size]!) = #[(Sl.val ⟨none, 0, 0⟩)] := by kernel_rfl
theorem rz_23_1 : (Array.range (1 * 1)).map (fun i => (if 1 * 1 = 0 then #[] else Value.cells (.int .u64 0))[i % (if 1 * 1 = 0 then #[] else Value.cells (.int .u64 0)).size]!) = #[(.int .u64 0)] := by kernel_rfl
theorem rz_36_0 : (Array.range (0 * 5)).map (fun i => (if 0 * 5 = 0 then #[] else Value.cells (.agg #[(.int .u64 0), (.int .u64 0), (.int .u64 0), (.int .u64 0), (Sl.val ⟨none, 0, 0⟩)]))[i % (if 0 * 5 = 0 then #[] else Value.cells (.agg #[(.int .u64 0), (.int .u64 0), (.int .u64 0), (.int .u64 0), (Sl.val ⟨none, 0, 0⟩)])).size]!) = #[] := by kernel_rfl
theorem rz_36_1 : (Array.range (1 * 5)).map (fun i => (if 1 * 5 = 0 then #[] else Value.cells (.agg #[(.int .u64 0), (.int .u64 0), (.int .u64 0), (.int .u64 0), (Sl.val ⟨none, 0, 0⟩)]))[i % (if 1 * 5 = 0 then #[] else Value.cells (.agg #[(.int .u64 0), (.int .u64 0), (.int .u64 0), (.int .u64 0), (Sl.val ⟨none, 0, 0⟩)])).size]!) = #[(.int .u64 0), (.int .u64 0), (.int .u64 0), (.int .u64 0), (Sl.val ⟨none, 0, 0⟩)] := by kernel_rfl
theorem rz_38_0 : (Array.range (0 * 7)).map (fun i => (if 0 * 7 = 0 then #[] else Value.cells (.agg #[(.int .i64 0), (.int .i64 0), (.int .u64 0), (.int .u64 0), (.int .u64 0), (.int .u64 0), (Sl.val ⟨none, 0, 0⟩)]))[i % (if 0 * 7 = 0 then #[] else Value.cells (.agg #[(.int .i64 0), (.int .i64 0), (.int .u64 0), (.int .u64 0), (.int .u64 0), (.int .u64 0), (Sl.val ⟨none, 0, 0⟩)])).size]!) = #[] := by kernel_rfl
theorem rz_38_1 : (Array.range (1 * 7)).map (fun i => (if 1 * 7 = 0 then #[] else Value.cells (.agg #[(.int .i64 0), (.int .i64 0), (.int .u64 0), (.int .u64 0), (.int .u64 0), (.int .u64 0), (Sl.val ⟨none, 0, 0⟩)]))[i % (if 1 * 7 = 0 then #[] else Value.cells (.agg #[(.int .i64 0), (.int .i64 0), (.int .u64 0), (.int .u64 0), (.int .u64 0), (.int .u64 0), (Sl.val ⟨none, 0, 0⟩)])).size]!) = #[(.int .i64 0), (.int .i64 0), (.int .u64 0), (.int .u64 0), (.int .u64 0), (.int .u64 0), (Sl.val ⟨none, 0, 0⟩)] := by kernel_rfl
theorem rz_3_0 : (Array.range (0 * 1)).map (fun i => (if 0 * 1 = 0 then #[] else Value.cells (.int .i64 0))[i % (if 0 * 1 = 0 then #[] else Value.cells (.int .i64 0)).size]!) = #[] := by kernel_rfl
theorem rz_3_1 : (Array.range (1 * 1)).map (fun i => (if 1 * 1 = 0 then #[] else Value.cells (.int .i64 0))[i % (if 1 * 1 = 0 then #[] else Value.cells (.int .i64 0)).size]!) = #[(.int .i64 0)] := by kernel_rfl
theorem rz_5_0 : (Array.range (0 * 1)).map (fun i => (if 0 * 1 = 0 then #[] else Value.cells (.int .u8 0))[i % (if 0 * 1 = 0 then #[] else Value.cells (.int .u8 0)).size]!) = #[] := by kernel_rfl
theorem rz_5_1 : (Array.range (1 * 1)).map (fun i => (if 1 * 1 = 0 then #[] else Value.cells (.int .u8 0))[i % (if 1 * 1 = 0 then #[] else Value.cells (.int .u8 0)).size]!) = #[(.int .u8 0)] := by kernel_rfl
theorem rz_5_2 : (Array.range (2 * 1)).map (fun i => (if 2 * 1 = 0 then #[] else Value.cells (.int .u8 0))[i % (if 2 * 1 = 0 then #[] else Value.cells (.int .u8 0)).size]!) = #[(.int .u8 0), (.int .u8 0)] := by kernel_rfl
theorem rz_5_6 : (Array.range (6 * 1)).map (fun i => (if 6 * 1 = 0 then #[] else Value.cells (.int .u8 0))[i % (if 6 * 1 = 0 then #[] else Value.cells (.int .u8 0)).size]!) = #[(.int .u8 0), (.int .u8 0), (.int .u8 0), (.int .u8 0), (.int .u8 0), (.int .u8 0)] := by kernel_rfl
theorem sl_22 : sliceT Try.prog 22 5 1 = true := by kernel_rfl
theorem sl_31 : sliceT Try.prog 31 38 7 = true := by kernel_rfl
theorem sl_32 : sliceT Try.prog 32 3 1 = true := by kernel_rfl
theorem sl_47 : sliceT Try.prog 47 52 9 = true := by kernel_rfl
theorem sl_56 : sliceT Try.prog 56 22 1 = true := by kernel_rfl
theorem sl_60 : sliceT Try.prog 60 36 5 = true := by kernel_rfl
theorem sl_66 : sliceT Try.prog 66 74 4 = true := by kernel_rfl
theorem sl_80 : sliceT Try.prog 80 23 1 = true := by kernel_rfl
theorem sl_82 : sliceT Try.prog 82 87 7 = true := by kernel_rfl
theorem sl_90 : sliceT Try.prog 90 113 2 = true := by kernel_rfl
theorem sz_135 : sizeT Try.prog 135 18 = true := by kernel_rfl
theorem sz_22 : sizeT Try.prog 22 1 = true := by kernel_rfl
theorem sz_23 : sizeT Try.prog 23 1 = true := by kernel_rfl
theorem sz_25 : sizeT Try.prog 25 4 = true := by kernel_rfl
theorem sz_3 : sizeT Try.prog 3 1 = true := by kernel_rfl
theorem sz_31 : sizeT Try.prog 31 1 = true := by kernel_rfl
theorem sz_36 : sizeT Try.prog 36 5 = true := by kernel_rfl
theorem sz_38 : sizeT Try.prog 38 7 = true := by kernel_rfl
theorem sz_5 : sizeT Try.prog 5 1 = true := by kernel_rfl
theorem sz_52 : sizeT Try.prog 52 9 = true := by kernel_rfl
theorem sz_56 : sizeT Try.prog 56 1 = true := by kernel_rfl
theorem sz_60 : sizeT Try.prog 60 1 = true := by kernel_rfl
theorem sz_69 : sizeT Try.prog 69 2 = true := by kernel_rfl
theorem sz_74 : sizeT Try.prog 74 4 = true := by kernel_rfl
theorem sz_87 : sizeT Try.prog 87 7 = true := by kernel_rfl
theorem sz_90 : sizeT Try.prog 90 1 = true := by kernel_rfl
theorem zt_102 : zeroT Try.prog 102 (.agg #[(Sl.val ⟨none, 0, 0⟩)]) := ⟨Try.t102, by kernel_rfl, by kernel_rfl⟩
theorem zt_107 : zeroT Try.prog 107 (.agg #[(.int .u64 0), (.int .u64 0), (.int .u64 0), (.int .u64 0), (Sl.val ⟨none, 0, 0⟩), (.map none)]) := ⟨Try.t107, by kernel_rfl, by kernel_rfl⟩
theorem zt_113 : zeroT Try.prog 113 (.agg #[(.int .u64 0), (Sl.val ⟨none, 0, 0⟩)]) := ⟨Try.t113, by kernel_rfl, by kernel_rfl⟩
theorem zt_116 : zeroT Try.prog 116 (.agg #[(Sl.val ⟨none, 0, 0⟩)]) := ⟨Try.t116, by kernel_rfl, by kernel_rfl⟩
theorem zt_127 : zeroT Try.prog 127 (.agg #[(Sl.val ⟨none, 0, 0⟩), (.int .i64 0)]) := ⟨Try.t127, by kernel_rfl, by kernel_rfl⟩
theorem zt_135 : zeroT Try.prog 135 (.agg #[(.int .i64 0), (.int .i64 0), (.int .i64 0), (.int .i64 0), (.int .i64 0), (.int .i64 0), (.int .i64 0), (.int .i64 0), (.int .i64 0), (.int .i64 0), (.int .i64 0), (.int .i64 0), (.int .i64 0), (.int .i64 0), (.int .i64 0), (.int .i64 0), (.int .i64 0), (.int .i64 0)]) := ⟨Try.t135, by kernel_rfl, by kernel_rfl⟩
theorem zt_22 : zeroT Try.prog 22 (Sl.val ⟨none, 0, 0⟩) := ⟨Try.t22, by kernel_rfl, by kernel_rfl⟩
theorem zt_23 : zeroT Try.prog 23 (.int .u64 0) := ⟨Try.t23, by kernel_rfl, by kernel_rfl⟩
theorem zt_25 : zeroT Try.prog 25 (.agg #[(.bool false), (Sl.val ⟨none, 0, 0⟩), (.int .i64 0), (.int .u64 0)]) := ⟨Try.t25, by kernel_rfl, by kernel_rfl⟩
theorem zt_27 : zeroT Try.prog 27 (.agg #[(.string ⟨#[]⟩), (.int .i64 0), (.int .u64 0)]) := ⟨Try.t27, by kernel_rfl, by kernel_rfl⟩
theorem zt_3 : zeroT Try.prog 3 (.int .i64 0) := ⟨Try.t3, by kernel_rfl, by kernel_rfl⟩
theorem zt_36 : zeroT Try.prog 36 (.agg #[(.int .u64 0), (.int .u64 0), (.int .u64 0), (.int .u64 0), (Sl.val ⟨none, 0, 0⟩)]) := ⟨Try.t36, by kernel_rfl, by kernel_rfl⟩
theorem zt_38 : zeroT Try.prog 38 (.agg #[(.int .i64 0), (.int .i64 0), (.int .u64 0), (.int .u64 0), (.int .u64 0), (.int .u64 0), (Sl.val ⟨none, 0, 0⟩)]) := ⟨Try.t38, by kernel_rfl, by kernel_rfl⟩
theorem zt_5 : zeroT Try.prog 5 (.int .u8 0) := ⟨Try.t5, by kernel_rfl, by kernel_rfl⟩
theorem zt_50 : zeroT Try.prog 50 (.agg #[(Sl.val ⟨none, 0, 0⟩)]) := ⟨Try.t50, by kernel_rfl, by kernel_rfl⟩
theorem zt_52 : zeroT Try.prog 52 (.agg #[(.int .i64 0), (.int .i64 0), (.int .i64 0), (.int .i64 0), (.int .u64 0), (.int .u64 0), (.int .u64 0), (.int .u64 0), (Sl.val ⟨none, 0, 0⟩)]) := ⟨Try.t52, by kernel_rfl, by kernel_rfl⟩
theorem zt_72 : zeroT Try.prog 72 (.agg #[(.pointer none), (.pointer none), (Sl.val ⟨none, 0, 0⟩), (Sl.val ⟨none, 0, 0⟩), (Sl.val ⟨none, 0, 0⟩), (Sl.val ⟨none, 0, 0⟩), (Sl.val ⟨none, 0, 0⟩), (Sl.val ⟨none, 0, 0⟩)]) := ⟨Try.t72, by kernel_rfl, by kernel_rfl⟩
theorem zt_74 : zeroT Try.prog 74 (.agg #[(.int .i64 0), (.int .i64 0), (.int .i64 0), (Sl.val ⟨none, 0, 0⟩)]) := ⟨Try.t74, by kernel_rfl, by kernel_rfl⟩
theorem zt_87 : zeroT Try.prog 87 (.agg #[(.int .i64 0), (Sl.val ⟨none, 0, 0⟩), (.int .u64 0), (.int .u64 0), (.int .u64 0), (.int .u64 0), (Sl.val ⟨none, 0, 0⟩)]) := ⟨Try.t87, by kernel_rfl, by kernel_rfl⟩
theorem zt_92 : zeroT Try.prog 92 (.agg #[(.int .u64 0), (.int .u64 0), (.int .u64 0), (.int .u64 0), (Sl.val ⟨none, 0, 0⟩), (Sl.val ⟨none, 0, 0⟩)]) := ⟨Try.t92, by kernel_rfl, by kernel_rfl⟩
end Go.Proofs.Ytilejcnbacmdnaa
