/- Facts of the program's own tables. -/
import Derived.Test.YtgnkminakongkaaProg
import Derived.Test.YtgnkminakongkaaEffs
namespace Go.Proofs.Ytgnkminakongkaa
open Go Go.Sep
set_option linter.unusedVariables false
set_option linter.unusedSimpArgs false
abbrev ty_int64 : Nat := 2
abbrev ty_int : Nat := 3
abbrev ty_bool : Nat := 4
abbrev ty_uint8 : Nat := 5
abbrev ty_abi_BoundsErrorCode : Nat := 6
abbrev ty_runtime_boundsError : Nat := 8
abbrev ty_string : Nat := 9
abbrev ty_runtime_errorString : Nat := 10
abbrev ty_runtime_plainError : Nat := 11
abbrev ty_uintptr : Nat := 12
abbrev ty_struct_msg_string_addr_uintptr : Nat := 13
abbrev ty_runtime_errorAddressString : Nat := 14
abbrev ty_p_runtime_TypeAssertionError : Nat := 15
abbrev ty_p_runtime_PanicNilError : Nat := 16
abbrev ty_p_abi_Type : Nat := 17
abbrev ty_struct_typ_p_abi_Type : Nat := 18
abbrev ty_maps_unhashableTypeError : Nat := 19
abbrev ty_interface : Nat := 20
abbrev ty_int32 : Nat := 21
abbrev ty_s_argosylaw10_Move : Nat := 22
abbrev ty_p_store_Store : Nat := 25
abbrev ty_api_Errno : Nat := 26
abbrev ty_s_api_Mark : Nat := 29
abbrev ty_s_api_Record : Nat := 30
abbrev ty_struct_Key_string_To_int : Nat := 31
abbrev ty_argosylaw10_Move : Nat := 32
abbrev ty_s_uint8 : Nat := 33
abbrev ty_uint64 : Nat := 34
abbrev ty_api_Record : Nat := 36
abbrev ty_api_Mark : Nat := 39
abbrev ty_s_s_uint8 : Nat := 43
abbrev ty_s_int : Nat := 44
abbrev ty_p_disk_Disk : Nat := 45
abbrev ty_s_argosylaw03_Op : Nat := 54
abbrev ty_argosylaw03_Op : Nat := 57
abbrev ty_s_string : Nat := 59
abbrev ty_2_s_uint8 : Nat := 64
abbrev ty_p_argosyref03_Disk : Nat := 70
abbrev ty_s_argosylaw08_Op : Nat := 78
abbrev ty_argosylaw08_Op : Nat := 81
abbrev ty_s_argosyref03_File : Nat := 85
abbrev ty_argosyref03_Disk : Nat := 87
abbrev ty_argosyref03_File : Nat := 89
abbrev ty_p_btree_Tree_string_api_Record : Nat := 91
abbrev ty_store_Store : Nat := 94
abbrev ty_4_string : Nat := 100
abbrev ty_map_string_p_disk_file : Nat := 101
abbrev ty_disk_Disk : Nat := 103
abbrev ty_p_disk_file : Nat := 104
abbrev ty_struct_data_s_uint8_last_int : Nat := 107
abbrev ty_disk_file : Nat := 108
abbrev ty_p_btree_node_string_api_Record : Nat := 123
abbrev ty_s_btree_item_string_api_Record : Nat := 124
abbrev ty_s_p_btree_node_string_api_Record : Nat := 125
abbrev ty_btree_node_string_api_Record : Nat := 127
abbrev ty_btree_Tree_string_api_Record : Nat := 129
abbrev ty_struct_key_string_value_api_Record : Nat := 132
abbrev ty_btree_item_string_api_Record : Nat := 133
abbrev ty_p_code_Pen : Nat := 140
abbrev ty_struct_out_s_uint8 : Nat := 141
abbrev ty_code_Pen : Nat := 142
abbrev ty_p_argosyref01_Eye : Nat := 153
abbrev ty_struct_B_s_uint8_I_int : Nat := 154
abbrev ty_argosyref01_Eye : Nat := 155
abbrev ty_p_btree_item_string_api_Record : Nat := 160
abbrev ty_uint : Nat := 166
abbrev ty_uint32 : Nat := 167
abbrev ty_slices_sortedHint : Nat := 177
abbrev ty_18_int : Nat := 186
abbrev ty_slices_xorshift : Nat := 192
abbrev ty_p_int : Nat := 196
abbrev ty_p_slices_xorshift : Nat := 198
abbrev ty_runtime_TypeAssertionError : Nat := 204
abbrev ty_0_p_runtime_PanicNilError : Nat := 205
abbrev ty_struct_0_p_runtime_PanicNilError : Nat := 206
abbrev ty_runtime_PanicNilError : Nat := 207
abbrev ty_abi_TFlag : Nat := 208
abbrev ty_abi_Kind : Nat := 209
abbrev ty_p_uint8 : Nat := 211
abbrev ty_abi_NameOff : Nat := 212
abbrev ty_abi_TypeOff : Nat := 213
abbrev ty_abi_Type : Nat := 215
abbrev ty_unsafe_Pointer : Nat := 217
theorem zero_ty_int64 : zeroT Try.prog ty_int64 (.int .i64 0) := ⟨Try.t2, by kernel_rfl, by kernel_rfl⟩
theorem zero_ty_int : zeroT Try.prog ty_int (.int .i64 0) := ⟨Try.t3, by kernel_rfl, by kernel_rfl⟩
theorem zero_ty_bool : zeroT Try.prog ty_bool (.bool false) := ⟨Try.t4, by kernel_rfl, by kernel_rfl⟩
theorem zero_ty_uint8 : zeroT Try.prog ty_uint8 (.int .u8 0) := ⟨Try.t5, by kernel_rfl, by kernel_rfl⟩
theorem zero_ty_abi_BoundsErrorCode : zeroT Try.prog ty_abi_BoundsErrorCode (.int .u8 0) := ⟨Try.t6, by kernel_rfl, by kernel_rfl⟩
theorem zero_ty_runtime_boundsError : zeroT Try.prog ty_runtime_boundsError (.agg #[(.int .i64 0), (.int .i64 0), (.bool false), (.int .u8 0)]) := ⟨Try.t8, by kernel_rfl, by kernel_rfl⟩
theorem zero_ty_string : zeroT Try.prog ty_string (.string ⟨#[]⟩) := ⟨Try.t9, by kernel_rfl, by kernel_rfl⟩
theorem zero_ty_runtime_errorString : zeroT Try.prog ty_runtime_errorString (.string ⟨#[]⟩) := ⟨Try.t10, by kernel_rfl, by kernel_rfl⟩
theorem zero_ty_runtime_plainError : zeroT Try.prog ty_runtime_plainError (.string ⟨#[]⟩) := ⟨Try.t11, by kernel_rfl, by kernel_rfl⟩
theorem zero_ty_uintptr : zeroT Try.prog ty_uintptr (.int .u64 0) := ⟨Try.t12, by kernel_rfl, by kernel_rfl⟩
theorem zero_ty_struct_msg_string_addr_uintptr : zeroT Try.prog ty_struct_msg_string_addr_uintptr (.agg #[(.string ⟨#[]⟩), (.int .u64 0)]) := ⟨Try.t13, by kernel_rfl, by kernel_rfl⟩
theorem zero_ty_runtime_errorAddressString : zeroT Try.prog ty_runtime_errorAddressString (.agg #[(.string ⟨#[]⟩), (.int .u64 0)]) := ⟨Try.t14, by kernel_rfl, by kernel_rfl⟩
theorem zero_ty_p_runtime_TypeAssertionError : zeroT Try.prog ty_p_runtime_TypeAssertionError (.pointer none) := ⟨Try.t15, by kernel_rfl, by kernel_rfl⟩
theorem zero_ty_p_runtime_PanicNilError : zeroT Try.prog ty_p_runtime_PanicNilError (.pointer none) := ⟨Try.t16, by kernel_rfl, by kernel_rfl⟩
theorem zero_ty_p_abi_Type : zeroT Try.prog ty_p_abi_Type (.pointer none) := ⟨Try.t17, by kernel_rfl, by kernel_rfl⟩
theorem zero_ty_struct_typ_p_abi_Type : zeroT Try.prog ty_struct_typ_p_abi_Type (.agg #[(.pointer none)]) := ⟨Try.t18, by kernel_rfl, by kernel_rfl⟩
theorem zero_ty_maps_unhashableTypeError : zeroT Try.prog ty_maps_unhashableTypeError (.agg #[(.pointer none)]) := ⟨Try.t19, by kernel_rfl, by kernel_rfl⟩
theorem zero_ty_interface : zeroT Try.prog ty_interface .nilIface := ⟨Try.t20, by kernel_rfl, by kernel_rfl⟩
theorem zero_ty_int32 : zeroT Try.prog ty_int32 (.int .i32 0) := ⟨Try.t21, by kernel_rfl, by kernel_rfl⟩
theorem zero_ty_s_argosylaw10_Move : zeroT Try.prog ty_s_argosylaw10_Move (Sl.val ⟨none, 0, 0⟩) := ⟨Try.t22, by kernel_rfl, by kernel_rfl⟩
theorem zero_ty_p_store_Store : zeroT Try.prog ty_p_store_Store (.pointer none) := ⟨Try.t25, by kernel_rfl, by kernel_rfl⟩
theorem zero_ty_api_Errno : zeroT Try.prog ty_api_Errno (.int .i64 0) := ⟨Try.t26, by kernel_rfl, by kernel_rfl⟩
theorem zero_ty_s_api_Mark : zeroT Try.prog ty_s_api_Mark (Sl.val ⟨none, 0, 0⟩) := ⟨Try.t29, by kernel_rfl, by kernel_rfl⟩
theorem zero_ty_s_api_Record : zeroT Try.prog ty_s_api_Record (Sl.val ⟨none, 0, 0⟩) := ⟨Try.t30, by kernel_rfl, by kernel_rfl⟩
theorem zero_ty_struct_Key_string_To_int : zeroT Try.prog ty_struct_Key_string_To_int (.agg #[(.string ⟨#[]⟩), (.int .i64 0)]) := ⟨Try.t31, by kernel_rfl, by kernel_rfl⟩
theorem zero_ty_argosylaw10_Move : zeroT Try.prog ty_argosylaw10_Move (.agg #[(.string ⟨#[]⟩), (.int .i64 0)]) := ⟨Try.t32, by kernel_rfl, by kernel_rfl⟩
theorem zero_ty_s_uint8 : zeroT Try.prog ty_s_uint8 (Sl.val ⟨none, 0, 0⟩) := ⟨Try.t33, by kernel_rfl, by kernel_rfl⟩
theorem zero_ty_uint64 : zeroT Try.prog ty_uint64 (.int .u64 0) := ⟨Try.t34, by kernel_rfl, by kernel_rfl⟩
theorem zero_ty_api_Record : zeroT Try.prog ty_api_Record (.agg #[(.bool false), (Sl.val ⟨none, 0, 0⟩), (.int .i64 0), (.int .u64 0)]) := ⟨Try.t36, by kernel_rfl, by kernel_rfl⟩
theorem zero_ty_api_Mark : zeroT Try.prog ty_api_Mark (.agg #[(.string ⟨#[]⟩), (.int .i64 0), (.int .u64 0)]) := ⟨Try.t39, by kernel_rfl, by kernel_rfl⟩
theorem zero_ty_s_s_uint8 : zeroT Try.prog ty_s_s_uint8 (Sl.val ⟨none, 0, 0⟩) := ⟨Try.t43, by kernel_rfl, by kernel_rfl⟩
theorem zero_ty_s_int : zeroT Try.prog ty_s_int (Sl.val ⟨none, 0, 0⟩) := ⟨Try.t44, by kernel_rfl, by kernel_rfl⟩
theorem zero_ty_p_disk_Disk : zeroT Try.prog ty_p_disk_Disk (.pointer none) := ⟨Try.t45, by kernel_rfl, by kernel_rfl⟩
theorem zero_ty_s_argosylaw03_Op : zeroT Try.prog ty_s_argosylaw03_Op (Sl.val ⟨none, 0, 0⟩) := ⟨Try.t54, by kernel_rfl, by kernel_rfl⟩
theorem zero_ty_argosylaw03_Op : zeroT Try.prog ty_argosylaw03_Op (.agg #[(.int .i64 0), (.int .i64 0), (.string ⟨#[]⟩), (.string ⟨#[]⟩), (Sl.val ⟨none, 0, 0⟩), (Sl.val ⟨none, 0, 0⟩)]) := ⟨Try.t57, by kernel_rfl, by kernel_rfl⟩
theorem zero_ty_s_string : zeroT Try.prog ty_s_string (Sl.val ⟨none, 0, 0⟩) := ⟨Try.t59, by kernel_rfl, by kernel_rfl⟩
theorem zero_ty_2_s_uint8 : zeroT Try.prog ty_2_s_uint8 (.agg #[(Sl.val ⟨none, 0, 0⟩), (Sl.val ⟨none, 0, 0⟩)]) := ⟨Try.t64, by kernel_rfl, by kernel_rfl⟩
theorem zero_ty_p_argosyref03_Disk : zeroT Try.prog ty_p_argosyref03_Disk (.pointer none) := ⟨Try.t70, by kernel_rfl, by kernel_rfl⟩
theorem zero_ty_s_argosylaw08_Op : zeroT Try.prog ty_s_argosylaw08_Op (Sl.val ⟨none, 0, 0⟩) := ⟨Try.t78, by kernel_rfl, by kernel_rfl⟩
theorem zero_ty_argosylaw08_Op : zeroT Try.prog ty_argosylaw08_Op (.agg #[(.int .i64 0), (.int .i64 0), (.string ⟨#[]⟩), (Sl.val ⟨none, 0, 0⟩), (Sl.val ⟨none, 0, 0⟩)]) := ⟨Try.t81, by kernel_rfl, by kernel_rfl⟩
theorem zero_ty_s_argosyref03_File : zeroT Try.prog ty_s_argosyref03_File (Sl.val ⟨none, 0, 0⟩) := ⟨Try.t85, by kernel_rfl, by kernel_rfl⟩
theorem zero_ty_argosyref03_Disk : zeroT Try.prog ty_argosyref03_Disk (.agg #[(.int .i64 0), (Sl.val ⟨none, 0, 0⟩), (.int .i64 0), (.bool false)]) := ⟨Try.t87, by kernel_rfl, by kernel_rfl⟩
theorem zero_ty_argosyref03_File : zeroT Try.prog ty_argosyref03_File (.agg #[(.string ⟨#[]⟩), (Sl.val ⟨none, 0, 0⟩), (.int .i64 0)]) := ⟨Try.t89, by kernel_rfl, by kernel_rfl⟩
theorem zero_ty_p_btree_Tree_string_api_Record : zeroT Try.prog ty_p_btree_Tree_string_api_Record (.pointer none) := ⟨Try.t91, by kernel_rfl, by kernel_rfl⟩
theorem zero_ty_store_Store : zeroT Try.prog ty_store_Store (.agg #[(.int .i64 0), (.pointer none)]) := ⟨Try.t94, by kernel_rfl, by kernel_rfl⟩
theorem zero_ty_4_string : zeroT Try.prog ty_4_string (.agg #[(.string ⟨#[]⟩), (.string ⟨#[]⟩), (.string ⟨#[]⟩), (.string ⟨#[]⟩)]) := ⟨Try.t100, by kernel_rfl, by kernel_rfl⟩
theorem zero_ty_map_string_p_disk_file : zeroT Try.prog ty_map_string_p_disk_file (.map none) := ⟨Try.t101, by kernel_rfl, by kernel_rfl⟩
theorem zero_ty_disk_Disk : zeroT Try.prog ty_disk_Disk (.agg #[(.int .i64 0), (.map none), (.int .i64 0), (.bool false)]) := ⟨Try.t103, by kernel_rfl, by kernel_rfl⟩
theorem zero_ty_p_disk_file : zeroT Try.prog ty_p_disk_file (.pointer none) := ⟨Try.t104, by kernel_rfl, by kernel_rfl⟩
theorem zero_ty_struct_data_s_uint8_last_int : zeroT Try.prog ty_struct_data_s_uint8_last_int (.agg #[(Sl.val ⟨none, 0, 0⟩), (.int .i64 0)]) := ⟨Try.t107, by kernel_rfl, by kernel_rfl⟩
theorem zero_ty_disk_file : zeroT Try.prog ty_disk_file (.agg #[(Sl.val ⟨none, 0, 0⟩), (.int .i64 0)]) := ⟨Try.t108, by kernel_rfl, by kernel_rfl⟩
theorem zero_ty_p_btree_node_string_api_Record : zeroT Try.prog ty_p_btree_node_string_api_Record (.pointer none) := ⟨Try.t123, by kernel_rfl, by kernel_rfl⟩
theorem zero_ty_s_btree_item_string_api_Record : zeroT Try.prog ty_s_btree_item_string_api_Record (Sl.val ⟨none, 0, 0⟩) := ⟨Try.t124, by kernel_rfl, by kernel_rfl⟩
theorem zero_ty_s_p_btree_node_string_api_Record : zeroT Try.prog ty_s_p_btree_node_string_api_Record (Sl.val ⟨none, 0, 0⟩) := ⟨Try.t125, by kernel_rfl, by kernel_rfl⟩
theorem zero_ty_btree_node_string_api_Record : zeroT Try.prog ty_btree_node_string_api_Record (.agg #[(Sl.val ⟨none, 0, 0⟩), (Sl.val ⟨none, 0, 0⟩)]) := ⟨Try.t127, by kernel_rfl, by kernel_rfl⟩
theorem zero_ty_btree_Tree_string_api_Record : zeroT Try.prog ty_btree_Tree_string_api_Record (.agg #[(.pointer none), (.int .i64 0)]) := ⟨Try.t129, by kernel_rfl, by kernel_rfl⟩
theorem zero_ty_struct_key_string_value_api_Record : zeroT Try.prog ty_struct_key_string_value_api_Record (.agg #[(.string ⟨#[]⟩), (.bool false), (Sl.val ⟨none, 0, 0⟩), (.int .i64 0), (.int .u64 0)]) := ⟨Try.t132, by kernel_rfl, by kernel_rfl⟩
theorem zero_ty_btree_item_string_api_Record : zeroT Try.prog ty_btree_item_string_api_Record (.agg #[(.string ⟨#[]⟩), (.bool false), (Sl.val ⟨none, 0, 0⟩), (.int .i64 0), (.int .u64 0)]) := ⟨Try.t133, by kernel_rfl, by kernel_rfl⟩
theorem zero_ty_p_code_Pen : zeroT Try.prog ty_p_code_Pen (.pointer none) := ⟨Try.t140, by kernel_rfl, by kernel_rfl⟩
theorem zero_ty_struct_out_s_uint8 : zeroT Try.prog ty_struct_out_s_uint8 (.agg #[(Sl.val ⟨none, 0, 0⟩)]) := ⟨Try.t141, by kernel_rfl, by kernel_rfl⟩
theorem zero_ty_code_Pen : zeroT Try.prog ty_code_Pen (.agg #[(Sl.val ⟨none, 0, 0⟩)]) := ⟨Try.t142, by kernel_rfl, by kernel_rfl⟩
theorem zero_ty_p_argosyref01_Eye : zeroT Try.prog ty_p_argosyref01_Eye (.pointer none) := ⟨Try.t153, by kernel_rfl, by kernel_rfl⟩
theorem zero_ty_struct_B_s_uint8_I_int : zeroT Try.prog ty_struct_B_s_uint8_I_int (.agg #[(Sl.val ⟨none, 0, 0⟩), (.int .i64 0)]) := ⟨Try.t154, by kernel_rfl, by kernel_rfl⟩
theorem zero_ty_argosyref01_Eye : zeroT Try.prog ty_argosyref01_Eye (.agg #[(Sl.val ⟨none, 0, 0⟩), (.int .i64 0)]) := ⟨Try.t155, by kernel_rfl, by kernel_rfl⟩
theorem zero_ty_p_btree_item_string_api_Record : zeroT Try.prog ty_p_btree_item_string_api_Record (.pointer none) := ⟨Try.t160, by kernel_rfl, by kernel_rfl⟩
theorem zero_ty_uint : zeroT Try.prog ty_uint (.int .u64 0) := ⟨Try.t166, by kernel_rfl, by kernel_rfl⟩
theorem zero_ty_uint32 : zeroT Try.prog ty_uint32 (.int .u32 0) := ⟨Try.t167, by kernel_rfl, by kernel_rfl⟩
theorem zero_ty_slices_sortedHint : zeroT Try.prog ty_slices_sortedHint (.int .i64 0) := ⟨Try.t177, by kernel_rfl, by kernel_rfl⟩
theorem zero_ty_slices_xorshift : zeroT Try.prog ty_slices_xorshift (.int .u64 0) := ⟨Try.t192, by kernel_rfl, by kernel_rfl⟩
theorem zero_ty_p_int : zeroT Try.prog ty_p_int (.pointer none) := ⟨Try.t196, by kernel_rfl, by kernel_rfl⟩
theorem zero_ty_p_slices_xorshift : zeroT Try.prog ty_p_slices_xorshift (.pointer none) := ⟨Try.t198, by kernel_rfl, by kernel_rfl⟩
theorem zero_ty_runtime_TypeAssertionError : zeroT Try.prog ty_runtime_TypeAssertionError (.agg #[(.pointer none), (.pointer none), (.pointer none), (.string ⟨#[]⟩)]) := ⟨Try.t204, by kernel_rfl, by kernel_rfl⟩
theorem zero_ty_0_p_runtime_PanicNilError : zeroT Try.prog ty_0_p_runtime_PanicNilError (.agg #[]) := ⟨Try.t205, by kernel_rfl, by kernel_rfl⟩
theorem zero_ty_struct_0_p_runtime_PanicNilError : zeroT Try.prog ty_struct_0_p_runtime_PanicNilError (.agg #[]) := ⟨Try.t206, by kernel_rfl, by kernel_rfl⟩
theorem zero_ty_runtime_PanicNilError : zeroT Try.prog ty_runtime_PanicNilError (.agg #[]) := ⟨Try.t207, by kernel_rfl, by kernel_rfl⟩
theorem zero_ty_abi_TFlag : zeroT Try.prog ty_abi_TFlag (.int .u8 0) := ⟨Try.t208, by kernel_rfl, by kernel_rfl⟩
theorem zero_ty_abi_Kind : zeroT Try.prog ty_abi_Kind (.int .u8 0) := ⟨Try.t209, by kernel_rfl, by kernel_rfl⟩
theorem zero_ty_p_uint8 : zeroT Try.prog ty_p_uint8 (.pointer none) := ⟨Try.t211, by kernel_rfl, by kernel_rfl⟩
theorem zero_ty_abi_NameOff : zeroT Try.prog ty_abi_NameOff (.int .i32 0) := ⟨Try.t212, by kernel_rfl, by kernel_rfl⟩
theorem zero_ty_abi_TypeOff : zeroT Try.prog ty_abi_TypeOff (.int .i32 0) := ⟨Try.t213, by kernel_rfl, by kernel_rfl⟩
theorem zero_ty_unsafe_Pointer : zeroT Try.prog ty_unsafe_Pointer (.pointer none) := ⟨Try.t217, by kernel_rfl, by kernel_rfl⟩
theorem mixed : Try.prog.follows .mixedOrders = true := by kernel_rfl
theorem ar_100 : arrayT Try.prog 100 9 4 1 = true := by kernel_rfl
theorem ar_186 : arrayT Try.prog 186 3 18 1 = true := by kernel_rfl
theorem ar_64 : arrayT Try.prog 64 33 2 1 = true := by kernel_rfl
theorem at_133 : aggT Try.prog 133 5 = true := by kernel_rfl
theorem at_32 : aggT Try.prog 32 2 = true := by kernel_rfl
theorem at_36 : aggT Try.prog 36 4 = true := by kernel_rfl
theorem at_39 : aggT Try.prog 39 3 = true := by kernel_rfl
theorem at_57 : aggT Try.prog 57 6 = true := by kernel_rfl
theorem at_81 : aggT Try.prog 81 5 = true := by kernel_rfl
theorem at_89 : aggT Try.prog 89 3 = true := by kernel_rfl
theorem cb_100 : callable Try.prog 100 = true := by kernel_rfl
theorem cb_101 : callable Try.prog 101 = true := by kernel_rfl
theorem cb_102 : callable Try.prog 102 = true := by kernel_rfl
theorem cb_103 : callable Try.prog 103 = true := by kernel_rfl
theorem cb_104 : callable Try.prog 104 = true := by kernel_rfl
theorem cb_105 : callable Try.prog 105 = true := by kernel_rfl
theorem cb_106 : callable Try.prog 106 = true := by kernel_rfl
theorem cb_107 : callable Try.prog 107 = true := by kernel_rfl
theorem cb_108 : callable Try.prog 108 = true := by kernel_rfl
theorem cb_109 : callable Try.prog 109 = true := by kernel_rfl
theorem cb_110 : callable Try.prog 110 = true := by kernel_rfl
theorem cb_111 : callable Try.prog 111 = true := by kernel_rfl
theorem cb_112 : callable Try.prog 112 = true := by kernel_rfl
theorem cb_113 : callable Try.prog 113 = true := by kernel_rfl
theorem cb_114 : callable Try.prog 114 = true := by kernel_rfl
theorem cb_115 : callable Try.prog 115 = true := by kernel_rfl
theorem cb_116 : callable Try.prog 116 = true := by kernel_rfl
theorem cb_117 : callable Try.prog 117 = true := by kernel_rfl
theorem cb_119 : callable Try.prog 119 = true := by kernel_rfl
theorem cb_120 : callable Try.prog 120 = true := by kernel_rfl
theorem cb_121 : callable Try.prog 121 = true := by kernel_rfl
theorem cb_126 : callable Try.prog 126 = true := by kernel_rfl
theorem cb_127 : callable Try.prog 127 = true := by kernel_rfl
theorem cb_128 : callable Try.prog 128 = true := by kernel_rfl
theorem cb_129 : callable Try.prog 129 = true := by kernel_rfl
theorem cb_130 : callable Try.prog 130 = true := by kernel_rfl
theorem cb_131 : callable Try.prog 131 = true := by kernel_rfl
theorem cb_132 : callable Try.prog 132 = true := by kernel_rfl
theorem cb_133 : callable Try.prog 133 = true := by kernel_rfl
theorem cb_134 : callable Try.prog 134 = true := by kernel_rfl
theorem cb_135 : callable Try.prog 135 = true := by kernel_rfl
theorem cb_14 : callable Try.prog 14 = true := by kernel_rfl
theorem cb_15 : callable Try.prog 15 = true := by kernel_rfl
theorem cb_16 : callable Try.prog 16 = true := by kernel_rfl
theorem cb_17 : callable Try.prog 17 = true := by kernel_rfl
theorem cb_18 : callable Try.prog 18 = true := by kernel_rfl
theorem cb_19 : callable Try.prog 19 = true := by kernel_rfl
theorem cb_20 : callable Try.prog 20 = true := by kernel_rfl
theorem cb_21 : callable Try.prog 21 = true := by kernel_rfl
theorem cb_22 : callable Try.prog 22 = true := by kernel_rfl
theorem cb_23 : callable Try.prog 23 = true := by kernel_rfl
theorem cb_24 : callable Try.prog 24 = true := by kernel_rfl
theorem cb_25 : callable Try.prog 25 = true := by kernel_rfl
theorem cb_26 : callable Try.prog 26 = true := by kernel_rfl
theorem cb_27 : callable Try.prog 27 = true := by kernel_rfl
theorem cb_28 : callable Try.prog 28 = true := by kernel_rfl
theorem cb_29 : callable Try.prog 29 = true := by kernel_rfl
theorem cb_30 : callable Try.prog 30 = true := by kernel_rfl
theorem cb_31 : callable Try.prog 31 = true := by kernel_rfl
theorem cb_32 : callable Try.prog 32 = true := by kernel_rfl
theorem cb_33 : callable Try.prog 33 = true := by kernel_rfl
theorem cb_34 : callable Try.prog 34 = true := by kernel_rfl
theorem cb_35 : callable Try.prog 35 = true := by kernel_rfl
theorem cb_36 : callable Try.prog 36 = true := by kernel_rfl
theorem cb_37 : callable Try.prog 37 = true := by kernel_rfl
theorem cb_38 : callable Try.prog 38 = true := by kernel_rfl
theorem cb_39 : callable Try.prog 39 = true := by kernel_rfl
theorem cb_40 : callable Try.prog 40 = true := by kernel_rfl
theorem cb_41 : callable Try.prog 41 = true := by kernel_rfl
theorem cb_42 : callable Try.prog 42 = true := by kernel_rfl
theorem cb_43 : callable Try.prog 43 = true := by kernel_rfl
theorem cb_44 : callable Try.prog 44 = true := by kernel_rfl
theorem cb_45 : callable Try.prog 45 = true := by kernel_rfl
theorem cb_46 : callable Try.prog 46 = true := by kernel_rfl
theorem cb_47 : callable Try.prog 47 = true := by kernel_rfl
theorem cb_48 : callable Try.prog 48 = true := by kernel_rfl
theorem cb_49 : callable Try.prog 49 = true := by kernel_rfl
theorem cb_50 : callable Try.prog 50 = true := by kernel_rfl
theorem cb_51 : callable Try.prog 51 = true := by kernel_rfl
theorem cb_52 : callable Try.prog 52 = true := by kernel_rfl
theorem cb_53 : callable Try.prog 53 = true := by kernel_rfl
theorem cb_54 : callable Try.prog 54 = true := by kernel_rfl
theorem cb_55 : callable Try.prog 55 = true := by kernel_rfl
theorem cb_56 : callable Try.prog 56 = true := by kernel_rfl
theorem cb_57 : callable Try.prog 57 = true := by kernel_rfl
theorem cb_58 : callable Try.prog 58 = true := by kernel_rfl
theorem cb_59 : callable Try.prog 59 = true := by kernel_rfl
theorem cb_60 : callable Try.prog 60 = true := by kernel_rfl
theorem cb_61 : callable Try.prog 61 = true := by kernel_rfl
theorem cb_62 : callable Try.prog 62 = true := by kernel_rfl
theorem cb_63 : callable Try.prog 63 = true := by kernel_rfl
theorem cb_64 : callable Try.prog 64 = true := by kernel_rfl
theorem cb_65 : callable Try.prog 65 = true := by kernel_rfl
theorem cb_66 : callable Try.prog 66 = true := by kernel_rfl
theorem cb_67 : callable Try.prog 67 = true := by kernel_rfl
theorem cb_68 : callable Try.prog 68 = true := by kernel_rfl
theorem cb_69 : callable Try.prog 69 = true := by kernel_rfl
theorem cb_70 : callable Try.prog 70 = true := by kernel_rfl
theorem cb_71 : callable Try.prog 71 = true := by kernel_rfl
theorem cb_72 : callable Try.prog 72 = true := by kernel_rfl
theorem cb_74 : callable Try.prog 74 = true := by kernel_rfl
theorem cb_75 : callable Try.prog 75 = true := by kernel_rfl
theorem cb_76 : callable Try.prog 76 = true := by kernel_rfl
theorem cb_77 : callable Try.prog 77 = true := by kernel_rfl
theorem cb_78 : callable Try.prog 78 = true := by kernel_rfl
theorem cb_79 : callable Try.prog 79 = true := by kernel_rfl
theorem cb_80 : callable Try.prog 80 = true := by kernel_rfl
theorem cb_81 : callable Try.prog 81 = true := by kernel_rfl
theorem cb_82 : callable Try.prog 82 = true := by kernel_rfl
theorem cb_83 : callable Try.prog 83 = true := by kernel_rfl
theorem cb_84 : callable Try.prog 84 = true := by kernel_rfl
theorem cb_85 : callable Try.prog 85 = true := by kernel_rfl
theorem cb_86 : callable Try.prog 86 = true := by kernel_rfl
theorem cb_87 : callable Try.prog 87 = true := by kernel_rfl
theorem cb_88 : callable Try.prog 88 = true := by kernel_rfl
theorem cb_89 : callable Try.prog 89 = true := by kernel_rfl
theorem cb_90 : callable Try.prog 90 = true := by kernel_rfl
theorem cb_92 : callable Try.prog 92 = true := by kernel_rfl
theorem cb_93 : callable Try.prog 93 = true := by kernel_rfl
theorem cb_94 : callable Try.prog 94 = true := by kernel_rfl
theorem cb_95 : callable Try.prog 95 = true := by kernel_rfl
theorem cb_96 : callable Try.prog 96 = true := by kernel_rfl
theorem cb_97 : callable Try.prog 97 = true := by kernel_rfl
theorem cb_98 : callable Try.prog 98 = true := by kernel_rfl
theorem ct_101 : cellT Try.prog 101 = true := by kernel_rfl
theorem ct_123 : cellT Try.prog 123 = true := by kernel_rfl
theorem ct_124 : cellT Try.prog 124 = true := by kernel_rfl
theorem ct_125 : cellT Try.prog 125 = true := by kernel_rfl
theorem ct_192 : cellT Try.prog 192 = true := by kernel_rfl
theorem ct_3 : cellT Try.prog 3 = true := by kernel_rfl
theorem ct_33 : cellT Try.prog 33 = true := by kernel_rfl
theorem ct_34 : cellT Try.prog 34 = true := by kernel_rfl
theorem ct_4 : cellT Try.prog 4 = true := by kernel_rfl
theorem ct_44 : cellT Try.prog 44 = true := by kernel_rfl
theorem ct_5 : cellT Try.prog 5 = true := by kernel_rfl
theorem ct_59 : cellT Try.prog 59 = true := by kernel_rfl
theorem ct_85 : cellT Try.prog 85 = true := by kernel_rfl
theorem ct_9 : cellT Try.prog 9 = true := by kernel_rfl
theorem ct_91 : cellT Try.prog 91 = true := by kernel_rfl
theorem ft_103_0 : fieldT Try.prog 103 0 0 1 = true := by kernel_rfl
theorem ft_103_1 : fieldT Try.prog 103 1 1 1 = true := by kernel_rfl
theorem ft_103_2 : fieldT Try.prog 103 2 2 1 = true := by kernel_rfl
theorem ft_103_3 : fieldT Try.prog 103 3 3 1 = true := by kernel_rfl
theorem ft_108_0 : fieldT Try.prog 108 0 0 1 = true := by kernel_rfl
theorem ft_108_1 : fieldT Try.prog 108 1 1 1 = true := by kernel_rfl
theorem ft_127_0 : fieldT Try.prog 127 0 0 1 = true := by kernel_rfl
theorem ft_127_1 : fieldT Try.prog 127 1 1 1 = true := by kernel_rfl
theorem ft_129_0 : fieldT Try.prog 129 0 0 1 = true := by kernel_rfl
theorem ft_129_1 : fieldT Try.prog 129 1 1 1 = true := by kernel_rfl
theorem ft_133_0 : fieldT Try.prog 133 0 0 1 = true := by kernel_rfl
theorem ft_133_1 : fieldT Try.prog 133 1 1 4 = true := by kernel_rfl
theorem ft_142_0 : fieldT Try.prog 142 0 0 1 = true := by kernel_rfl
theorem ft_155_0 : fieldT Try.prog 155 0 0 1 = true := by kernel_rfl
theorem ft_155_1 : fieldT Try.prog 155 1 1 1 = true := by kernel_rfl
theorem ft_32_0 : fieldT Try.prog 32 0 0 1 = true := by kernel_rfl
theorem ft_32_1 : fieldT Try.prog 32 1 1 1 = true := by kernel_rfl
theorem ft_36_0 : fieldT Try.prog 36 0 0 1 = true := by kernel_rfl
theorem ft_36_1 : fieldT Try.prog 36 1 1 1 = true := by kernel_rfl
theorem ft_36_2 : fieldT Try.prog 36 2 2 1 = true := by kernel_rfl
theorem ft_36_3 : fieldT Try.prog 36 3 3 1 = true := by kernel_rfl
theorem ft_39_1 : fieldT Try.prog 39 1 1 1 = true := by kernel_rfl
theorem ft_39_2 : fieldT Try.prog 39 2 2 1 = true := by kernel_rfl
theorem ft_57_0 : fieldT Try.prog 57 0 0 1 = true := by kernel_rfl
theorem ft_57_1 : fieldT Try.prog 57 1 1 1 = true := by kernel_rfl
theorem ft_57_2 : fieldT Try.prog 57 2 2 1 = true := by kernel_rfl
theorem ft_57_3 : fieldT Try.prog 57 3 3 1 = true := by kernel_rfl
theorem ft_57_4 : fieldT Try.prog 57 4 4 1 = true := by kernel_rfl
theorem ft_57_5 : fieldT Try.prog 57 5 5 1 = true := by kernel_rfl
theorem ft_81_0 : fieldT Try.prog 81 0 0 1 = true := by kernel_rfl
theorem ft_81_1 : fieldT Try.prog 81 1 1 1 = true := by kernel_rfl
theorem ft_81_2 : fieldT Try.prog 81 2 2 1 = true := by kernel_rfl
theorem ft_81_3 : fieldT Try.prog 81 3 3 1 = true := by kernel_rfl
theorem ft_81_4 : fieldT Try.prog 81 4 4 1 = true := by kernel_rfl
theorem ft_87_0 : fieldT Try.prog 87 0 0 1 = true := by kernel_rfl
theorem ft_87_1 : fieldT Try.prog 87 1 1 1 = true := by kernel_rfl
theorem ft_87_2 : fieldT Try.prog 87 2 2 1 = true := by kernel_rfl
theorem ft_87_3 : fieldT Try.prog 87 3 3 1 = true := by kernel_rfl
theorem ft_89_0 : fieldT Try.prog 89 0 0 1 = true := by kernel_rfl
theorem ft_89_1 : fieldT Try.prog 89 1 1 1 = true := by kernel_rfl
theorem ft_89_2 : fieldT Try.prog 89 2 2 1 = true := by kernel_rfl
theorem ft_94_0 : fieldT Try.prog 94 0 0 1 = true := by kernel_rfl
theorem ft_94_1 : fieldT Try.prog 94 1 1 1 = true := by kernel_rfl
theorem in_166 : intT Try.prog 166 .u64 = true := by kernel_rfl
theorem in_167 : intT Try.prog 167 .u32 = true := by kernel_rfl
theorem in_192 : intT Try.prog 192 .u64 = true := by kernel_rfl
theorem in_3 : intT Try.prog 3 .i64 = true := by kernel_rfl
theorem in_34 : intT Try.prog 34 .u64 = true := by kernel_rfl
theorem in_5 : intT Try.prog 5 .u8 = true := by kernel_rfl
theorem pl_103 : placesT Try.prog 103 [(0, 1), (1, 1), (2, 1), (3, 1)] := ⟨_, Try.underlying103, by kernel_rfl⟩
theorem pl_108 : placesT Try.prog 108 [(0, 1), (1, 1)] := ⟨_, Try.underlying108, by kernel_rfl⟩
theorem pl_127 : placesT Try.prog 127 [(0, 1), (1, 1)] := ⟨_, Try.underlying127, by kernel_rfl⟩
theorem pl_129 : placesT Try.prog 129 [(0, 1), (1, 1)] := ⟨_, Try.underlying129, by kernel_rfl⟩
theorem pl_133 : placesT Try.prog 133 [(0, 1), (1, 4)] := ⟨_, Try.underlying133, by kernel_rfl⟩
theorem pl_142 : placesT Try.prog 142 [(0, 1)] := ⟨_, Try.underlying142, by kernel_rfl⟩
theorem pl_155 : placesT Try.prog 155 [(0, 1), (1, 1)] := ⟨_, Try.underlying155, by kernel_rfl⟩
theorem pl_36 : placesT Try.prog 36 [(0, 1), (1, 1), (2, 1), (3, 1)] := ⟨_, Try.underlying36, by kernel_rfl⟩
theorem pl_39 : placesT Try.prog 39 [(0, 1), (1, 1), (2, 1)] := ⟨_, Try.underlying39, by kernel_rfl⟩
theorem pl_87 : placesT Try.prog 87 [(0, 1), (1, 1), (2, 1), (3, 1)] := ⟨_, Try.underlying87, by kernel_rfl⟩
theorem pl_89 : placesT Try.prog 89 [(0, 1), (1, 1), (2, 1)] := ⟨_, Try.underlying89, by kernel_rfl⟩
theorem pl_94 : placesT Try.prog 94 [(0, 1), (1, 1)] := ⟨_, Try.underlying94, by kernel_rfl⟩
theorem rz_123_0 : (Array.range (0 * 1)).map (fun i => (if 0 * 1 = 0 then #[] else Value.cells (.pointer none))[i % (if 0 * 1 = 0 then #[] else Value.cells (.pointer none)).size]!) = #[] := by kernel_rfl
theorem rz_123_1 : (Array.range (1 * 1)).map (fun i => (if 1 * 1 = 0 then #[] else Value.cells (.pointer none))[i % (if 1 * 1 = 0 then #[] else Value.cells (.pointer none)).size]!) = #[(.pointer none)] := by kernel_rfl
theorem rz_123_2 : (Array.range (2 * 1)).map (fun i => (if 2 * 1 = 0 then #[] else Value.cells (.pointer none))[i % (if 2 * 1 = 0 then #[] else Value.cells (.pointer none)).size]!) = #[(.pointer none), (.pointer none)] := by kernel_rfl
theorem rz_133_0 : (Array.range (0 * 5)).map (fun i => (if 0 * 5 = 0 then #[] else Value.cells (.agg #[(.string ⟨#[]⟩), (.bool false), (Sl.val ⟨none, 0, 0⟩), (.int .i64 0), (.int .u64 0)]))[i % (if 0 * 5 = 0 then #[] else Value.cells (.agg #[(.string ⟨#[]⟩), (.bool false), (Sl.val ⟨none, 0, 0⟩), (.int .i64 0), (.int .u64 0)])).size]!) = #[] := by kernel_rfl
theorem rz_133_1 : (Array.range (1 * 5)).map (fun i => (if 1 * 5 = 0 then #[] else Value.cells (.agg #[(.string ⟨#[]⟩), (.bool false), (Sl.val ⟨none, 0, 0⟩), (.int .i64 0), (.int .u64 0)]))[i % (if 1 * 5 = 0 then #[] else Value.cells (.agg #[(.string ⟨#[]⟩), (.bool false), (Sl.val ⟨none, 0, 0⟩), (.int .i64 0), (.int .u64 0)])).size]!) = #[(.string ⟨#[]⟩), (.bool false), (Sl.val ⟨none, 0, 0⟩), (.int .i64 0), (.int .u64 0)] := by kernel_rfl
theorem rz_36_0 : (Array.range (0 * 4)).map (fun i => (if 0 * 4 = 0 then #[] else Value.cells (.agg #[(.bool false), (Sl.val ⟨none, 0, 0⟩), (.int .i64 0), (.int .u64 0)]))[i % (if 0 * 4 = 0 then #[] else Value.cells (.agg #[(.bool false), (Sl.val ⟨none, 0, 0⟩), (.int .i64 0), (.int .u64 0)])).size]!) = #[] := by kernel_rfl
theorem rz_36_1 : (Array.range (1 * 4)).map (fun i => (if 1 * 4 = 0 then #[] else Value.cells (.agg #[(.bool false), (Sl.val ⟨none, 0, 0⟩), (.int .i64 0), (.int .u64 0)]))[i % (if 1 * 4 = 0 then #[] else Value.cells (.agg #[(.bool false), (Sl.val ⟨none, 0, 0⟩), (.int .i64 0), (.int .u64 0)])).size]!) = #[(.bool false), (Sl.val ⟨none, 0, 0⟩), (.int .i64 0), (.int .u64 0)] := by kernel_rfl
theorem rz_39_0 : (Array.range (0 * 3)).map (fun i => (if 0 * 3 = 0 then #[] else Value.cells (.agg #[(.string ⟨#[]⟩), (.int .i64 0), (.int .u64 0)]))[i % (if 0 * 3 = 0 then #[] else Value.cells (.agg #[(.string ⟨#[]⟩), (.int .i64 0), (.int .u64 0)])).size]!) = #[] := by kernel_rfl
theorem rz_39_1 : (Array.range (1 * 3)).map (fun i => (if 1 * 3 = 0 then #[] else Value.cells (.agg #[(.string ⟨#[]⟩), (.int .i64 0), (.int .u64 0)]))[i % (if 1 * 3 = 0 then #[] else Value.cells (.agg #[(.string ⟨#[]⟩), (.int .i64 0), (.int .u64 0)])).size]!) = #[(.string ⟨#[]⟩), (.int .i64 0), (.int .u64 0)] := by kernel_rfl
theorem rz_3_0 : (Array.range (0 * 1)).map (fun i => (if 0 * 1 = 0 then #[] else Value.cells (.int .i64 0))[i % (if 0 * 1 = 0 then #[] else Value.cells (.int .i64 0)).size]!) = #[] := by kernel_rfl
theorem rz_3_1 : (Array.range (1 * 1)).map (fun i => (if 1 * 1 = 0 then #[] else Value.cells (.int .i64 0))[i % (if 1 * 1 = 0 then #[] else Value.cells (.int .i64 0)).size]!) = #[(.int .i64 0)] := by kernel_rfl
theorem rz_5_0 : (Array.range (0 * 1)).map (fun i => (if 0 * 1 = 0 then #[] else Value.cells (.int .u8 0))[i % (if 0 * 1 = 0 then #[] else Value.cells (.int .u8 0)).size]!) = #[] := by kernel_rfl
theorem rz_5_1 : (Array.range (1 * 1)).map (fun i => (if 1 * 1 = 0 then #[] else Value.cells (.int .u8 0))[i % (if 1 * 1 = 0 then #[] else Value.cells (.int .u8 0)).size]!) = #[(.int .u8 0)] := by kernel_rfl
theorem rz_5_2 : (Array.range (2 * 1)).map (fun i => (if 2 * 1 = 0 then #[] else Value.cells (.int .u8 0))[i % (if 2 * 1 = 0 then #[] else Value.cells (.int .u8 0)).size]!) = #[(.int .u8 0), (.int .u8 0)] := by kernel_rfl
theorem rz_5_3 : (Array.range (3 * 1)).map (fun i => (if 3 * 1 = 0 then #[] else Value.cells (.int .u8 0))[i % (if 3 * 1 = 0 then #[] else Value.cells (.int .u8 0)).size]!) = #[(.int .u8 0), (.int .u8 0), (.int .u8 0)] := by kernel_rfl
theorem rz_5_4 : (Array.range (4 * 1)).map (fun i => (if 4 * 1 = 0 then #[] else Value.cells (.int .u8 0))[i % (if 4 * 1 = 0 then #[] else Value.cells (.int .u8 0)).size]!) = #[(.int .u8 0), (.int .u8 0), (.int .u8 0), (.int .u8 0)] := by kernel_rfl
theorem rz_5_6 : (Array.range (6 * 1)).map (fun i => (if 6 * 1 = 0 then #[] else Value.cells (.int .u8 0))[i % (if 6 * 1 = 0 then #[] else Value.cells (.int .u8 0)).size]!) = #[(.int .u8 0), (.int .u8 0), (.int .u8 0), (.int .u8 0), (.int .u8 0), (.int .u8 0)] := by kernel_rfl
theorem rz_89_0 : (Array.range (0 * 3)).map (fun i => (if 0 * 3 = 0 then #[] else Value.cells (.agg #[(.string ⟨#[]⟩), (Sl.val ⟨none, 0, 0⟩), (.int .i64 0)]))[i % (if 0 * 3 = 0 then #[] else Value.cells (.agg #[(.string ⟨#[]⟩), (Sl.val ⟨none, 0, 0⟩), (.int .i64 0)])).size]!) = #[] := by kernel_rfl
theorem rz_89_1 : (Array.range (1 * 3)).map (fun i => (if 1 * 3 = 0 then #[] else Value.cells (.agg #[(.string ⟨#[]⟩), (Sl.val ⟨none, 0, 0⟩), (.int .i64 0)]))[i % (if 1 * 3 = 0 then #[] else Value.cells (.agg #[(.string ⟨#[]⟩), (Sl.val ⟨none, 0, 0⟩), (.int .i64 0)])).size]!) = #[(.string ⟨#[]⟩), (Sl.val ⟨none, 0, 0⟩), (.int .i64 0)] := by kernel_rfl
theorem rz_9_1 : (Array.range (1 * 1)).map (fun i => (if 1 * 1 = 0 then #[] else Value.cells (.string ⟨#[]⟩))[i % (if 1 * 1 = 0 then #[] else Value.cells (.string ⟨#[]⟩)).size]!) = #[(.string ⟨#[]⟩)] := by kernel_rfl
theorem sl_124 : sliceT Try.prog 124 133 5 = true := by kernel_rfl
theorem sl_125 : sliceT Try.prog 125 123 1 = true := by kernel_rfl
theorem sl_22 : sliceT Try.prog 22 32 2 = true := by kernel_rfl
theorem sl_29 : sliceT Try.prog 29 39 3 = true := by kernel_rfl
theorem sl_30 : sliceT Try.prog 30 36 4 = true := by kernel_rfl
theorem sl_33 : sliceT Try.prog 33 5 1 = true := by kernel_rfl
theorem sl_43 : sliceT Try.prog 43 33 1 = true := by kernel_rfl
theorem sl_44 : sliceT Try.prog 44 3 1 = true := by kernel_rfl
theorem sl_54 : sliceT Try.prog 54 57 6 = true := by kernel_rfl
theorem sl_59 : sliceT Try.prog 59 9 1 = true := by kernel_rfl
theorem sl_78 : sliceT Try.prog 78 81 5 = true := by kernel_rfl
theorem sl_85 : sliceT Try.prog 85 89 3 = true := by kernel_rfl
theorem st_9 : stringT Try.prog 9 = true := by kernel_rfl
theorem sz_100 : sizeT Try.prog 100 4 = true := by kernel_rfl
theorem sz_123 : sizeT Try.prog 123 1 = true := by kernel_rfl
theorem sz_124 : sizeT Try.prog 124 1 = true := by kernel_rfl
theorem sz_125 : sizeT Try.prog 125 1 = true := by kernel_rfl
theorem sz_133 : sizeT Try.prog 133 5 = true := by kernel_rfl
theorem sz_186 : sizeT Try.prog 186 18 = true := by kernel_rfl
theorem sz_192 : sizeT Try.prog 192 1 = true := by kernel_rfl
theorem sz_3 : sizeT Try.prog 3 1 = true := by kernel_rfl
theorem sz_32 : sizeT Try.prog 32 2 = true := by kernel_rfl
theorem sz_33 : sizeT Try.prog 33 1 = true := by kernel_rfl
theorem sz_34 : sizeT Try.prog 34 1 = true := by kernel_rfl
theorem sz_36 : sizeT Try.prog 36 4 = true := by kernel_rfl
theorem sz_39 : sizeT Try.prog 39 3 = true := by kernel_rfl
theorem sz_4 : sizeT Try.prog 4 1 = true := by kernel_rfl
theorem sz_5 : sizeT Try.prog 5 1 = true := by kernel_rfl
theorem sz_57 : sizeT Try.prog 57 6 = true := by kernel_rfl
theorem sz_59 : sizeT Try.prog 59 1 = true := by kernel_rfl
theorem sz_81 : sizeT Try.prog 81 5 = true := by kernel_rfl
theorem sz_85 : sizeT Try.prog 85 1 = true := by kernel_rfl
theorem sz_89 : sizeT Try.prog 89 3 = true := by kernel_rfl
theorem sz_9 : sizeT Try.prog 9 1 = true := by kernel_rfl
theorem zt_100 : zeroT Try.prog 100 (.agg #[(.string ⟨#[]⟩), (.string ⟨#[]⟩), (.string ⟨#[]⟩), (.string ⟨#[]⟩)]) := ⟨Try.t100, by kernel_rfl, by kernel_rfl⟩
theorem zt_103 : zeroT Try.prog 103 (.agg #[(.int .i64 0), (.map none), (.int .i64 0), (.bool false)]) := ⟨Try.t103, by kernel_rfl, by kernel_rfl⟩
theorem zt_108 : zeroT Try.prog 108 (.agg #[(Sl.val ⟨none, 0, 0⟩), (.int .i64 0)]) := ⟨Try.t108, by kernel_rfl, by kernel_rfl⟩
theorem zt_123 : zeroT Try.prog 123 (.pointer none) := ⟨Try.t123, by kernel_rfl, by kernel_rfl⟩
theorem zt_127 : zeroT Try.prog 127 (.agg #[(Sl.val ⟨none, 0, 0⟩), (Sl.val ⟨none, 0, 0⟩)]) := ⟨Try.t127, by kernel_rfl, by kernel_rfl⟩
theorem zt_129 : zeroT Try.prog 129 (.agg #[(.pointer none), (.int .i64 0)]) := ⟨Try.t129, by kernel_rfl, by kernel_rfl⟩
theorem zt_133 : zeroT Try.prog 133 (.agg #[(.string ⟨#[]⟩), (.bool false), (Sl.val ⟨none, 0, 0⟩), (.int .i64 0), (.int .u64 0)]) := ⟨Try.t133, by kernel_rfl, by kernel_rfl⟩
theorem zt_142 : zeroT Try.prog 142 (.agg #[(Sl.val ⟨none, 0, 0⟩)]) := ⟨Try.t142, by kernel_rfl, by kernel_rfl⟩
theorem zt_155 : zeroT Try.prog 155 (.agg #[(Sl.val ⟨none, 0, 0⟩), (.int .i64 0)]) := ⟨Try.t155, by kernel_rfl, by kernel_rfl⟩
theorem zt_186 : zeroT Try.prog 186 (.agg #[(.int .i64 0), (.int .i64 0), (.int .i64 0), (.int .i64 0), (.int .i64 0), (.int .i64 0), (.int .i64 0), (.int .i64 0), (.int .i64 0), (.int .i64 0), (.int .i64 0), (.int .i64 0), (.int .i64 0), (.int .i64 0), (.int .i64 0), (.int .i64 0), (.int .i64 0), (.int .i64 0)]) := ⟨Try.t186, by kernel_rfl, by kernel_rfl⟩
theorem zt_192 : zeroT Try.prog 192 (.int .u64 0) := ⟨Try.t192, by kernel_rfl, by kernel_rfl⟩
theorem zt_3 : zeroT Try.prog 3 (.int .i64 0) := ⟨Try.t3, by kernel_rfl, by kernel_rfl⟩
theorem zt_32 : zeroT Try.prog 32 (.agg #[(.string ⟨#[]⟩), (.int .i64 0)]) := ⟨Try.t32, by kernel_rfl, by kernel_rfl⟩
theorem zt_33 : zeroT Try.prog 33 (Sl.val ⟨none, 0, 0⟩) := ⟨Try.t33, by kernel_rfl, by kernel_rfl⟩
theorem zt_36 : zeroT Try.prog 36 (.agg #[(.bool false), (Sl.val ⟨none, 0, 0⟩), (.int .i64 0), (.int .u64 0)]) := ⟨Try.t36, by kernel_rfl, by kernel_rfl⟩
theorem zt_39 : zeroT Try.prog 39 (.agg #[(.string ⟨#[]⟩), (.int .i64 0), (.int .u64 0)]) := ⟨Try.t39, by kernel_rfl, by kernel_rfl⟩
theorem zt_5 : zeroT Try.prog 5 (.int .u8 0) := ⟨Try.t5, by kernel_rfl, by kernel_rfl⟩
theorem zt_57 : zeroT Try.prog 57 (.agg #[(.int .i64 0), (.int .i64 0), (.string ⟨#[]⟩), (.string ⟨#[]⟩), (Sl.val ⟨none, 0, 0⟩), (Sl.val ⟨none, 0, 0⟩)]) := ⟨Try.t57, by kernel_rfl, by kernel_rfl⟩
theorem zt_81 : zeroT Try.prog 81 (.agg #[(.int .i64 0), (.int .i64 0), (.string ⟨#[]⟩), (Sl.val ⟨none, 0, 0⟩), (Sl.val ⟨none, 0, 0⟩)]) := ⟨Try.t81, by kernel_rfl, by kernel_rfl⟩
theorem zt_87 : zeroT Try.prog 87 (.agg #[(.int .i64 0), (Sl.val ⟨none, 0, 0⟩), (.int .i64 0), (.bool false)]) := ⟨Try.t87, by kernel_rfl, by kernel_rfl⟩
theorem zt_89 : zeroT Try.prog 89 (.agg #[(.string ⟨#[]⟩), (Sl.val ⟨none, 0, 0⟩), (.int .i64 0)]) := ⟨Try.t89, by kernel_rfl, by kernel_rfl⟩
theorem zt_9 : zeroT Try.prog 9 (.string ⟨#[]⟩) := ⟨Try.t9, by kernel_rfl, by kernel_rfl⟩
theorem zt_94 : zeroT Try.prog 94 (.agg #[(.int .i64 0), (.pointer none)]) := ⟨Try.t94, by kernel_rfl, by kernel_rfl⟩
end Go.Proofs.Ytgnkminakongkaa
