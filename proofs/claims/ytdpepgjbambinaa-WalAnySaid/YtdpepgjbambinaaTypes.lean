/- Facts of the program's own tables. -/
import Derived.Test.YtdpepgjbambinaaProg
import Derived.Test.YtdpepgjbambinaaEffs
namespace Go.Proofs.Ytdpepgjbambinaa
open Go Go.Sep
set_option linter.unusedVariables false
set_option linter.unusedSimpArgs false
abbrev ty_int64 : Nat := 2
abbrev ty_int : Nat := 3
abbrev ty_bool : Nat := 4
abbrev ty_uint8 : Nat := 5
abbrev ty_abi_BoundsErrorCode : Nat := 6
abbrev ty_runtime_boundsError : Nat := 8
abbrev ty_string : Nat := 9
abbrev ty_runtime_errorString : Nat := 10
abbrev ty_runtime_plainError : Nat := 11
abbrev ty_uintptr : Nat := 12
abbrev ty_struct_msg_string_addr_uintptr : Nat := 13
abbrev ty_runtime_errorAddressString : Nat := 14
abbrev ty_p_runtime_TypeAssertionError : Nat := 15
abbrev ty_p_runtime_PanicNilError : Nat := 16
abbrev ty_p_abi_Type : Nat := 17
abbrev ty_struct_typ_p_abi_Type : Nat := 18
abbrev ty_maps_unhashableTypeError : Nat := 19
abbrev ty_interface : Nat := 20
abbrev ty_int32 : Nat := 21
abbrev ty_s_uint8 : Nat := 22
abbrev ty_s_s_string : Nat := 28
abbrev ty_s_int : Nat := 29
abbrev ty_p_store_Store : Nat := 30
abbrev ty_api_Errno : Nat := 31
abbrev ty_p_locks_Locks : Nat := 34
abbrev ty_s_uint64 : Nat := 36
abbrev ty_s_string : Nat := 37
abbrev ty_s_api_Mark : Nat := 38
abbrev ty_uint64 : Nat := 39
abbrev ty_api_Mark : Nat := 41
abbrev ty_api_Id : Nat := 44
abbrev ty_struct_Id_api_Id_Try_int : Nat := 45
abbrev ty_api_Tag : Nat := 46
abbrev ty_s_api_Tag : Nat := 49
abbrev ty_s_s_uint8 : Nat := 54
abbrev ty_argosylaw04_Kept : Nat := 56
abbrev ty_p_disk_Disk : Nat := 57
abbrev ty_p_wal_Log : Nat := 60
abbrev ty_s_api_Txn : Nat := 78
abbrev ty_s_api_Decision : Nat := 79
abbrev ty_p_front_Front : Nat := 80
abbrev ty_p_sched_Sched : Nat := 82
abbrev ty_map_api_Id_bool : Nat := 85
abbrev ty_s_api_Op : Nat := 86
abbrev ty_api_Txn : Nat := 88
abbrev ty_s_api_Out : Nat := 92
abbrev ty_struct_Code_api_Errno_Outs_s_api_Out : Nat := 93
abbrev ty_api_Result : Nat := 94
abbrev ty_struct_Tag_api_Tag_Result_api_Result : Nat := 95
abbrev ty_api_Decision : Nat := 96
abbrev ty_s_api_Order : Nat := 97
abbrev ty_struct_Id_api_Id_Result_api_Result : Nat := 99
abbrev ty_api_Reply : Nat := 100
abbrev ty_s_api_Id : Nat := 103
abbrev ty_map_api_Tag_bool : Nat := 106
abbrev ty_map_api_Id_int : Nat := 107
abbrev ty_api_Order : Nat := 109
abbrev ty_s_api_Row : Nat := 113
abbrev ty_api_Op : Nat := 117
abbrev ty_struct_Has_bool_Value_s_uint8 : Nat := 118
abbrev ty_api_Out : Nat := 119
abbrev ty_uint : Nat := 120
abbrev ty_p_btree_Tree_string_api_Record : Nat := 122
abbrev ty_api_Record : Nat := 125
abbrev ty_store_Store : Nat := 127
abbrev ty_map_string_p_locks_gate : Nat := 128
abbrev ty_map_api_Tag_int : Nat := 129
abbrev ty_locks_Locks : Nat := 131
abbrev ty_p_locks_gate : Nat := 132
abbrev ty_s_locks_claim : Nat := 135
abbrev ty_struct_tag_api_Tag_mark_api_Mark : Nat := 136
abbrev ty_locks_claim : Nat := 137
abbrev ty_locks_gate : Nat := 139
abbrev ty_map_string_p_disk_file : Nat := 155
abbrev ty_disk_Disk : Nat := 157
abbrev ty_wal_Log : Nat := 159
abbrev ty_p_disk_file : Nat := 163
abbrev ty_struct_data_s_uint8_last_int : Nat := 164
abbrev ty_disk_file : Nat := 165
abbrev ty_s_p_front_entry : Nat := 172
abbrev ty_front_Front : Nat := 174
abbrev ty_s_p_filter_Filter : Nat := 175
abbrev ty_s_p_sched_job : Nat := 176
abbrev ty_sched_Sched : Nat := 178
abbrev ty_p_filter_Filter : Nat := 179
abbrev ty_p_front_entry : Nat := 182
abbrev ty_p_api_Order : Nat := 184
abbrev ty_front_entry : Nat := 186
abbrev ty_p_eval_run : Nat := 192
abbrev ty_map_string_api_Record : Nat := 193
abbrev ty_eval_run : Nat := 195
abbrev ty_struct_Key_string_Record_api_Record : Nat := 199
abbrev ty_api_Row : Nat := 200
abbrev ty_p_btree_node_string_api_Record : Nat := 201
abbrev ty_s_btree_item_string_api_Record : Nat := 202
abbrev ty_s_p_btree_node_string_api_Record : Nat := 203
abbrev ty_btree_node_string_api_Record : Nat := 205
abbrev ty_btree_Tree_string_api_Record : Nat := 207
abbrev ty_uint32 : Nat := 216
abbrev ty_filter_Filter : Nat := 221
abbrev ty_struct_key_string_value_api_Record : Nat := 236
abbrev ty_btree_item_string_api_Record : Nat := 237
abbrev ty_18_int : Nat := 243
abbrev ty_slices_sortedHint : Nat := 252
abbrev ty_slices_xorshift : Nat := 262
abbrev ty_p_int : Nat := 266
abbrev ty_p_slices_xorshift : Nat := 269
abbrev ty_runtime_TypeAssertionError : Nat := 275
abbrev ty_0_p_runtime_PanicNilError : Nat := 276
abbrev ty_struct_0_p_runtime_PanicNilError : Nat := 277
abbrev ty_runtime_PanicNilError : Nat := 278
abbrev ty_abi_TFlag : Nat := 279
abbrev ty_abi_Kind : Nat := 280
abbrev ty_p_uint8 : Nat := 282
abbrev ty_abi_NameOff : Nat := 283
abbrev ty_abi_TypeOff : Nat := 284
abbrev ty_abi_Type : Nat := 286
abbrev ty_p_sched_job : Nat := 290
abbrev ty_unsafe_Pointer : Nat := 291
abbrev ty_struct_order_api_Order_need_s_int : Nat := 292
abbrev ty_sched_job : Nat := 293
theorem zero_ty_int64 : zeroT Try.prog ty_int64 (.int .i64 0) := ⟨Try.t2, by kernel_rfl, by kernel_rfl⟩
theorem zero_ty_int : zeroT Try.prog ty_int (.int .i64 0) := ⟨Try.t3, by kernel_rfl, by kernel_rfl⟩
theorem zero_ty_bool : zeroT Try.prog ty_bool (.bool false) := ⟨Try.t4, by kernel_rfl, by kernel_rfl⟩
theorem zero_ty_uint8 : zeroT Try.prog ty_uint8 (.int .u8 0) := ⟨Try.t5, by kernel_rfl, by kernel_rfl⟩
theorem zero_ty_abi_BoundsErrorCode : zeroT Try.prog ty_abi_BoundsErrorCode (.int .u8 0) := ⟨Try.t6, by kernel_rfl, by kernel_rfl⟩
theorem zero_ty_runtime_boundsError : zeroT Try.prog ty_runtime_boundsError (.agg #[(.int .i64 0), (.int .i64 0), (.bool false), (.int .u8 0)]) := ⟨Try.t8, by kernel_rfl, by kernel_rfl⟩
theorem zero_ty_string : zeroT Try.prog ty_string (.string ⟨#[]⟩) := ⟨Try.t9, by kernel_rfl, by kernel_rfl⟩
theorem zero_ty_runtime_errorString : zeroT Try.prog ty_runtime_errorString (.string ⟨#[]⟩) := ⟨Try.t10, by kernel_rfl, by kernel_rfl⟩
theorem zero_ty_runtime_plainError : zeroT Try.prog ty_runtime_plainError (.string ⟨#[]⟩) := ⟨Try.t11, by kernel_rfl, by kernel_rfl⟩
theorem zero_ty_uintptr : zeroT Try.prog ty_uintptr (.int .u64 0) := ⟨Try.t12, by kernel_rfl, by kernel_rfl⟩
theorem zero_ty_struct_msg_string_addr_uintptr : zeroT Try.prog ty_struct_msg_string_addr_uintptr (.agg #[(.string ⟨#[]⟩), (.int .u64 0)]) := ⟨Try.t13, by kernel_rfl, by kernel_rfl⟩
theorem zero_ty_runtime_errorAddressString : zeroT Try.prog ty_runtime_errorAddressString (.agg #[(.string ⟨#[]⟩), (.int .u64 0)]) := ⟨Try.t14, by kernel_rfl, by kernel_rfl⟩
theorem zero_ty_p_runtime_TypeAssertionError : zeroT Try.prog ty_p_runtime_TypeAssertionError (.pointer none) := ⟨Try.t15, by kernel_rfl, by kernel_rfl⟩
theorem zero_ty_p_runtime_PanicNilError : zeroT Try.prog ty_p_runtime_PanicNilError (.pointer none) := ⟨Try.t16, by kernel_rfl, by kernel_rfl⟩
theorem zero_ty_p_abi_Type : zeroT Try.prog ty_p_abi_Type (.pointer none) := ⟨Try.t17, by kernel_rfl, by kernel_rfl⟩
theorem zero_ty_struct_typ_p_abi_Type : zeroT Try.prog ty_struct_typ_p_abi_Type (.agg #[(.pointer none)]) := ⟨Try.t18, by kernel_rfl, by kernel_rfl⟩
theorem zero_ty_maps_unhashableTypeError : zeroT Try.prog ty_maps_unhashableTypeError (.agg #[(.pointer none)]) := ⟨Try.t19, by kernel_rfl, by kernel_rfl⟩
theorem zero_ty_interface : zeroT Try.prog ty_interface .nilIface := ⟨Try.t20, by kernel_rfl, by kernel_rfl⟩
theorem zero_ty_int32 : zeroT Try.prog ty_int32 (.int .i32 0) := ⟨Try.t21, by kernel_rfl, by kernel_rfl⟩
theorem zero_ty_s_uint8 : zeroT Try.prog ty_s_uint8 (Sl.val ⟨none, 0, 0⟩) := ⟨Try.t22, by kernel_rfl, by kernel_rfl⟩
theorem zero_ty_s_s_string : zeroT Try.prog ty_s_s_string (Sl.val ⟨none, 0, 0⟩) := ⟨Try.t28, by kernel_rfl, by kernel_rfl⟩
theorem zero_ty_s_int : zeroT Try.prog ty_s_int (Sl.val ⟨none, 0, 0⟩) := ⟨Try.t29, by kernel_rfl, by kernel_rfl⟩
theorem zero_ty_p_store_Store : zeroT Try.prog ty_p_store_Store (.pointer none) := ⟨Try.t30, by kernel_rfl, by kernel_rfl⟩
theorem zero_ty_api_Errno : zeroT Try.prog ty_api_Errno (.int .i64 0) := ⟨Try.t31, by kernel_rfl, by kernel_rfl⟩
theorem zero_ty_p_locks_Locks : zeroT Try.prog ty_p_locks_Locks (.pointer none) := ⟨Try.t34, by kernel_rfl, by kernel_rfl⟩
theorem zero_ty_s_uint64 : zeroT Try.prog ty_s_uint64 (Sl.val ⟨none, 0, 0⟩) := ⟨Try.t36, by kernel_rfl, by kernel_rfl⟩
theorem zero_ty_s_string : zeroT Try.prog ty_s_string (Sl.val ⟨none, 0, 0⟩) := ⟨Try.t37, by kernel_rfl, by kernel_rfl⟩
theorem zero_ty_s_api_Mark : zeroT Try.prog ty_s_api_Mark (Sl.val ⟨none, 0, 0⟩) := ⟨Try.t38, by kernel_rfl, by kernel_rfl⟩
theorem zero_ty_uint64 : zeroT Try.prog ty_uint64 (.int .u64 0) := ⟨Try.t39, by kernel_rfl, by kernel_rfl⟩
theorem zero_ty_api_Mark : zeroT Try.prog ty_api_Mark (.agg #[(.string ⟨#[]⟩), (.int .i64 0), (.int .u64 0)]) := ⟨Try.t41, by kernel_rfl, by kernel_rfl⟩
theorem zero_ty_api_Id : zeroT Try.prog ty_api_Id (.agg #[(.int .i64 0), (.int .u64 0), (.int .u64 0)]) := ⟨Try.t44, by kernel_rfl, by kernel_rfl⟩
theorem zero_ty_struct_Id_api_Id_Try_int : zeroT Try.prog ty_struct_Id_api_Id_Try_int (.agg #[(.int .i64 0), (.int .u64 0), (.int .u64 0), (.int .i64 0)]) := ⟨Try.t45, by kernel_rfl, by kernel_rfl⟩
theorem zero_ty_api_Tag : zeroT Try.prog ty_api_Tag (.agg #[(.int .i64 0), (.int .u64 0), (.int .u64 0), (.int .i64 0)]) := ⟨Try.t46, by kernel_rfl, by kernel_rfl⟩
theorem zero_ty_s_api_Tag : zeroT Try.prog ty_s_api_Tag (Sl.val ⟨none, 0, 0⟩) := ⟨Try.t49, by kernel_rfl, by kernel_rfl⟩
theorem zero_ty_s_s_uint8 : zeroT Try.prog ty_s_s_uint8 (Sl.val ⟨none, 0, 0⟩) := ⟨Try.t54, by kernel_rfl, by kernel_rfl⟩
theorem zero_ty_argosylaw04_Kept : zeroT Try.prog ty_argosylaw04_Kept (.agg #[(Sl.val ⟨none, 0, 0⟩), (Sl.val ⟨none, 0, 0⟩), (Sl.val ⟨none, 0, 0⟩)]) := ⟨Try.t56, by kernel_rfl, by kernel_rfl⟩
theorem zero_ty_p_disk_Disk : zeroT Try.prog ty_p_disk_Disk (.pointer none) := ⟨Try.t57, by kernel_rfl, by kernel_rfl⟩
theorem zero_ty_p_wal_Log : zeroT Try.prog ty_p_wal_Log (.pointer none) := ⟨Try.t60, by kernel_rfl, by kernel_rfl⟩
theorem zero_ty_s_api_Txn : zeroT Try.prog ty_s_api_Txn (Sl.val ⟨none, 0, 0⟩) := ⟨Try.t78, by kernel_rfl, by kernel_rfl⟩
theorem zero_ty_s_api_Decision : zeroT Try.prog ty_s_api_Decision (Sl.val ⟨none, 0, 0⟩) := ⟨Try.t79, by kernel_rfl, by kernel_rfl⟩
theorem zero_ty_p_front_Front : zeroT Try.prog ty_p_front_Front (.pointer none) := ⟨Try.t80, by kernel_rfl, by kernel_rfl⟩
theorem zero_ty_p_sched_Sched : zeroT Try.prog ty_p_sched_Sched (.pointer none) := ⟨Try.t82, by kernel_rfl, by kernel_rfl⟩
theorem zero_ty_map_api_Id_bool : zeroT Try.prog ty_map_api_Id_bool (.map none) := ⟨Try.t85, by kernel_rfl, by kernel_rfl⟩
theorem zero_ty_s_api_Op : zeroT Try.prog ty_s_api_Op (Sl.val ⟨none, 0, 0⟩) := ⟨Try.t86, by kernel_rfl, by kernel_rfl⟩
theorem zero_ty_api_Txn : zeroT Try.prog ty_api_Txn (.agg #[(.int .i64 0), (Sl.val ⟨none, 0, 0⟩), (Sl.val ⟨none, 0, 0⟩), (Sl.val ⟨none, 0, 0⟩), (.int .i64 0)]) := ⟨Try.t88, by kernel_rfl, by kernel_rfl⟩
theorem zero_ty_s_api_Out : zeroT Try.prog ty_s_api_Out (Sl.val ⟨none, 0, 0⟩) := ⟨Try.t92, by kernel_rfl, by kernel_rfl⟩
theorem zero_ty_struct_Code_api_Errno_Outs_s_api_Out : zeroT Try.prog ty_struct_Code_api_Errno_Outs_s_api_Out (.agg #[(.int .i64 0), (Sl.val ⟨none, 0, 0⟩)]) := ⟨Try.t93, by kernel_rfl, by kernel_rfl⟩
theorem zero_ty_api_Result : zeroT Try.prog ty_api_Result (.agg #[(.int .i64 0), (Sl.val ⟨none, 0, 0⟩)]) := ⟨Try.t94, by kernel_rfl, by kernel_rfl⟩
theorem zero_ty_struct_Tag_api_Tag_Result_api_Result : zeroT Try.prog ty_struct_Tag_api_Tag_Result_api_Result (.agg #[(.int .i64 0), (.int .u64 0), (.int .u64 0), (.int .i64 0), (.int .i64 0), (Sl.val ⟨none, 0, 0⟩)]) := ⟨Try.t95, by kernel_rfl, by kernel_rfl⟩
theorem zero_ty_api_Decision : zeroT Try.prog ty_api_Decision (.agg #[(.int .i64 0), (.int .u64 0), (.int .u64 0), (.int .i64 0), (.int .i64 0), (Sl.val ⟨none, 0, 0⟩)]) := ⟨Try.t96, by kernel_rfl, by kernel_rfl⟩
theorem zero_ty_s_api_Order : zeroT Try.prog ty_s_api_Order (Sl.val ⟨none, 0, 0⟩) := ⟨Try.t97, by kernel_rfl, by kernel_rfl⟩
theorem zero_ty_struct_Id_api_Id_Result_api_Result : zeroT Try.prog ty_struct_Id_api_Id_Result_api_Result (.agg #[(.int .i64 0), (.int .u64 0), (.int .u64 0), (.int .i64 0), (Sl.val ⟨none, 0, 0⟩)]) := ⟨Try.t99, by kernel_rfl, by kernel_rfl⟩
theorem zero_ty_api_Reply : zeroT Try.prog ty_api_Reply (.agg #[(.int .i64 0), (.int .u64 0), (.int .u64 0), (.int .i64 0), (Sl.val ⟨none, 0, 0⟩)]) := ⟨Try.t100, by kernel_rfl, by kernel_rfl⟩
theorem zero_ty_s_api_Id : zeroT Try.prog ty_s_api_Id (Sl.val ⟨none, 0, 0⟩) := ⟨Try.t103, by kernel_rfl, by kernel_rfl⟩
theorem zero_ty_map_api_Tag_bool : zeroT Try.prog ty_map_api_Tag_bool (.map none) := ⟨Try.t106, by kernel_rfl, by kernel_rfl⟩
theorem zero_ty_map_api_Id_int : zeroT Try.prog ty_map_api_Id_int (.map none) := ⟨Try.t107, by kernel_rfl, by kernel_rfl⟩
theorem zero_ty_api_Order : zeroT Try.prog ty_api_Order (.agg #[(.int .i64 0), (.int .u64 0), (.int .u64 0), (.int .i64 0), (.int .i64 0), (Sl.val ⟨none, 0, 0⟩), (Sl.val ⟨none, 0, 0⟩), (Sl.val ⟨none, 0, 0⟩), (.int .i64 0), (Sl.val ⟨none, 0, 0⟩)]) := ⟨Try.t109, by kernel_rfl, by kernel_rfl⟩
theorem zero_ty_s_api_Row : zeroT Try.prog ty_s_api_Row (Sl.val ⟨none, 0, 0⟩) := ⟨Try.t113, by kernel_rfl, by kernel_rfl⟩
theorem zero_ty_api_Op : zeroT Try.prog ty_api_Op (.agg #[(.int .i64 0), (.string ⟨#[]⟩), (Sl.val ⟨none, 0, 0⟩), (.int .i64 0)]) := ⟨Try.t117, by kernel_rfl, by kernel_rfl⟩
theorem zero_ty_struct_Has_bool_Value_s_uint8 : zeroT Try.prog ty_struct_Has_bool_Value_s_uint8 (.agg #[(.bool false), (Sl.val ⟨none, 0, 0⟩)]) := ⟨Try.t118, by kernel_rfl, by kernel_rfl⟩
theorem zero_ty_api_Out : zeroT Try.prog ty_api_Out (.agg #[(.bool false), (Sl.val ⟨none, 0, 0⟩)]) := ⟨Try.t119, by kernel_rfl, by kernel_rfl⟩
theorem zero_ty_uint : zeroT Try.prog ty_uint (.int .u64 0) := ⟨Try.t120, by kernel_rfl, by kernel_rfl⟩
theorem zero_ty_p_btree_Tree_string_api_Record : zeroT Try.prog ty_p_btree_Tree_string_api_Record (.pointer none) := ⟨Try.t122, by kernel_rfl, by kernel_rfl⟩
theorem zero_ty_api_Record : zeroT Try.prog ty_api_Record (.agg #[(.bool false), (Sl.val ⟨none, 0, 0⟩), (.int .i64 0), (.int .u64 0)]) := ⟨Try.t125, by kernel_rfl, by kernel_rfl⟩
theorem zero_ty_store_Store : zeroT Try.prog ty_store_Store (.agg #[(.int .i64 0), (.pointer none)]) := ⟨Try.t127, by kernel_rfl, by kernel_rfl⟩
theorem zero_ty_map_string_p_locks_gate : zeroT Try.prog ty_map_string_p_locks_gate (.map none) := ⟨Try.t128, by kernel_rfl, by kernel_rfl⟩
theorem zero_ty_map_api_Tag_int : zeroT Try.prog ty_map_api_Tag_int (.map none) := ⟨Try.t129, by kernel_rfl, by kernel_rfl⟩
theorem zero_ty_locks_Locks : zeroT Try.prog ty_locks_Locks (.agg #[(.map none), (.map none)]) := ⟨Try.t131, by kernel_rfl, by kernel_rfl⟩
theorem zero_ty_p_locks_gate : zeroT Try.prog ty_p_locks_gate (.pointer none) := ⟨Try.t132, by kernel_rfl, by kernel_rfl⟩
theorem zero_ty_s_locks_claim : zeroT Try.prog ty_s_locks_claim (Sl.val ⟨none, 0, 0⟩) := ⟨Try.t135, by kernel_rfl, by kernel_rfl⟩
theorem zero_ty_struct_tag_api_Tag_mark_api_Mark : zeroT Try.prog ty_struct_tag_api_Tag_mark_api_Mark (.agg #[(.int .i64 0), (.int .u64 0), (.int .u64 0), (.int .i64 0), (.string ⟨#[]⟩), (.int .i64 0), (.int .u64 0)]) := ⟨Try.t136, by kernel_rfl, by kernel_rfl⟩
theorem zero_ty_locks_claim : zeroT Try.prog ty_locks_claim (.agg #[(.int .i64 0), (.int .u64 0), (.int .u64 0), (.int .i64 0), (.string ⟨#[]⟩), (.int .i64 0), (.int .u64 0)]) := ⟨Try.t137, by kernel_rfl, by kernel_rfl⟩
theorem zero_ty_locks_gate : zeroT Try.prog ty_locks_gate (.agg #[(Sl.val ⟨none, 0, 0⟩), (Sl.val ⟨none, 0, 0⟩)]) := ⟨Try.t139, by kernel_rfl, by kernel_rfl⟩
theorem zero_ty_map_string_p_disk_file : zeroT Try.prog ty_map_string_p_disk_file (.map none) := ⟨Try.t155, by kernel_rfl, by kernel_rfl⟩
theorem zero_ty_disk_Disk : zeroT Try.prog ty_disk_Disk (.agg #[(.int .i64 0), (.map none), (.int .i64 0), (.bool false)]) := ⟨Try.t157, by kernel_rfl, by kernel_rfl⟩
theorem zero_ty_wal_Log : zeroT Try.prog ty_wal_Log (.agg #[(.pointer none), (.string ⟨#[]⟩), (.int .i64 0), (.int .i64 0), (.int .i64 0), (.bool false), (Sl.val ⟨none, 0, 0⟩)]) := ⟨Try.t159, by kernel_rfl, by kernel_rfl⟩
theorem zero_ty_p_disk_file : zeroT Try.prog ty_p_disk_file (.pointer none) := ⟨Try.t163, by kernel_rfl, by kernel_rfl⟩
theorem zero_ty_struct_data_s_uint8_last_int : zeroT Try.prog ty_struct_data_s_uint8_last_int (.agg #[(Sl.val ⟨none, 0, 0⟩), (.int .i64 0)]) := ⟨Try.t164, by kernel_rfl, by kernel_rfl⟩
theorem zero_ty_disk_file : zeroT Try.prog ty_disk_file (.agg #[(Sl.val ⟨none, 0, 0⟩), (.int .i64 0)]) := ⟨Try.t165, by kernel_rfl, by kernel_rfl⟩
theorem zero_ty_s_p_front_entry : zeroT Try.prog ty_s_p_front_entry (Sl.val ⟨none, 0, 0⟩) := ⟨Try.t172, by kernel_rfl, by kernel_rfl⟩
theorem zero_ty_front_Front : zeroT Try.prog ty_front_Front (.agg #[(.int .i64 0), (.int .u64 0), (.int .i64 0), (.int .u64 0), (Sl.val ⟨none, 0, 0⟩)]) := ⟨Try.t174, by kernel_rfl, by kernel_rfl⟩
theorem zero_ty_s_p_filter_Filter : zeroT Try.prog ty_s_p_filter_Filter (Sl.val ⟨none, 0, 0⟩) := ⟨Try.t175, by kernel_rfl, by kernel_rfl⟩
theorem zero_ty_s_p_sched_job : zeroT Try.prog ty_s_p_sched_job (Sl.val ⟨none, 0, 0⟩) := ⟨Try.t176, by kernel_rfl, by kernel_rfl⟩
theorem zero_ty_sched_Sched : zeroT Try.prog ty_sched_Sched (.agg #[(.pointer none), (.pointer none), (Sl.val ⟨none, 0, 0⟩), (Sl.val ⟨none, 0, 0⟩), (Sl.val ⟨none, 0, 0⟩)]) := ⟨Try.t178, by kernel_rfl, by kernel_rfl⟩
theorem zero_ty_p_filter_Filter : zeroT Try.prog ty_p_filter_Filter (.pointer none) := ⟨Try.t179, by kernel_rfl, by kernel_rfl⟩
theorem zero_ty_p_front_entry : zeroT Try.prog ty_p_front_entry (.pointer none) := ⟨Try.t182, by kernel_rfl, by kernel_rfl⟩
theorem zero_ty_p_api_Order : zeroT Try.prog ty_p_api_Order (.pointer none) := ⟨Try.t184, by kernel_rfl, by kernel_rfl⟩
theorem zero_ty_front_entry : zeroT Try.prog ty_front_entry (.agg #[(.int .i64 0), (.int .u64 0), (.int .u64 0), (.int .i64 0), (.int .i64 0), (Sl.val ⟨none, 0, 0⟩), (Sl.val ⟨none, 0, 0⟩), (Sl.val ⟨none, 0, 0⟩), (.int .i64 0), (.pointer none)]) := ⟨Try.t186, by kernel_rfl, by kernel_rfl⟩
theorem zero_ty_p_eval_run : zeroT Try.prog ty_p_eval_run (.pointer none) := ⟨Try.t192, by kernel_rfl, by kernel_rfl⟩
theorem zero_ty_map_string_api_Record : zeroT Try.prog ty_map_string_api_Record (.map none) := ⟨Try.t193, by kernel_rfl, by kernel_rfl⟩
theorem zero_ty_eval_run : zeroT Try.prog ty_eval_run (.agg #[(.pointer none), (.map none), (Sl.val ⟨none, 0, 0⟩)]) := ⟨Try.t195, by kernel_rfl, by kernel_rfl⟩
theorem zero_ty_struct_Key_string_Record_api_Record : zeroT Try.prog ty_struct_Key_string_Record_api_Record (.agg #[(.string ⟨#[]⟩), (.bool false), (Sl.val ⟨none, 0, 0⟩), (.int .i64 0), (.int .u64 0)]) := ⟨Try.t199, by kernel_rfl, by kernel_rfl⟩
theorem zero_ty_api_Row : zeroT Try.prog ty_api_Row (.agg #[(.string ⟨#[]⟩), (.bool false), (Sl.val ⟨none, 0, 0⟩), (.int .i64 0), (.int .u64 0)]) := ⟨Try.t200, by kernel_rfl, by kernel_rfl⟩
theorem zero_ty_p_btree_node_string_api_Record : zeroT Try.prog ty_p_btree_node_string_api_Record (.pointer none) := ⟨Try.t201, by kernel_rfl, by kernel_rfl⟩
theorem zero_ty_s_btree_item_string_api_Record : zeroT Try.prog ty_s_btree_item_string_api_Record (Sl.val ⟨none, 0, 0⟩) := ⟨Try.t202, by kernel_rfl, by kernel_rfl⟩
theorem zero_ty_s_p_btree_node_string_api_Record : zeroT Try.prog ty_s_p_btree_node_string_api_Record (Sl.val ⟨none, 0, 0⟩) := ⟨Try.t203, by kernel_rfl, by kernel_rfl⟩
theorem zero_ty_btree_node_string_api_Record : zeroT Try.prog ty_btree_node_string_api_Record (.agg #[(Sl.val ⟨none, 0, 0⟩), (Sl.val ⟨none, 0, 0⟩)]) := ⟨Try.t205, by kernel_rfl, by kernel_rfl⟩
theorem zero_ty_btree_Tree_string_api_Record : zeroT Try.prog ty_btree_Tree_string_api_Record (.agg #[(.pointer none), (.int .i64 0)]) := ⟨Try.t207, by kernel_rfl, by kernel_rfl⟩
theorem zero_ty_uint32 : zeroT Try.prog ty_uint32 (.int .u32 0) := ⟨Try.t216, by kernel_rfl, by kernel_rfl⟩
theorem zero_ty_filter_Filter : zeroT Try.prog ty_filter_Filter (.agg #[(.int .i64 0), (.int .i64 0), (.map none)]) := ⟨Try.t221, by kernel_rfl, by kernel_rfl⟩
theorem zero_ty_struct_key_string_value_api_Record : zeroT Try.prog ty_struct_key_string_value_api_Record (.agg #[(.string ⟨#[]⟩), (.bool false), (Sl.val ⟨none, 0, 0⟩), (.int .i64 0), (.int .u64 0)]) := ⟨Try.t236, by kernel_rfl, by kernel_rfl⟩
theorem zero_ty_btree_item_string_api_Record : zeroT Try.prog ty_btree_item_string_api_Record (.agg #[(.string ⟨#[]⟩), (.bool false), (Sl.val ⟨none, 0, 0⟩), (.int .i64 0), (.int .u64 0)]) := ⟨Try.t237, by kernel_rfl, by kernel_rfl⟩
theorem zero_ty_slices_sortedHint : zeroT Try.prog ty_slices_sortedHint (.int .i64 0) := ⟨Try.t252, by kernel_rfl, by kernel_rfl⟩
theorem zero_ty_slices_xorshift : zeroT Try.prog ty_slices_xorshift (.int .u64 0) := ⟨Try.t262, by kernel_rfl, by kernel_rfl⟩
theorem zero_ty_p_int : zeroT Try.prog ty_p_int (.pointer none) := ⟨Try.t266, by kernel_rfl, by kernel_rfl⟩
theorem zero_ty_p_slices_xorshift : zeroT Try.prog ty_p_slices_xorshift (.pointer none) := ⟨Try.t269, by kernel_rfl, by kernel_rfl⟩
theorem zero_ty_runtime_TypeAssertionError : zeroT Try.prog ty_runtime_TypeAssertionError (.agg #[(.pointer none), (.pointer none), (.pointer none), (.string ⟨#[]⟩)]) := ⟨Try.t275, by kernel_rfl, by kernel_rfl⟩
theorem zero_ty_0_p_runtime_PanicNilError : zeroT Try.prog ty_0_p_runtime_PanicNilError (.agg #[]) := ⟨Try.t276, by kernel_rfl, by kernel_rfl⟩
theorem zero_ty_struct_0_p_runtime_PanicNilError : zeroT Try.prog ty_struct_0_p_runtime_PanicNilError (.agg #[]) := ⟨Try.t277, by kernel_rfl, by kernel_rfl⟩
theorem zero_ty_runtime_PanicNilError : zeroT Try.prog ty_runtime_PanicNilError (.agg #[]) := ⟨Try.t278, by kernel_rfl, by kernel_rfl⟩
theorem zero_ty_abi_TFlag : zeroT Try.prog ty_abi_TFlag (.int .u8 0) := ⟨Try.t279, by kernel_rfl, by kernel_rfl⟩
theorem zero_ty_abi_Kind : zeroT Try.prog ty_abi_Kind (.int .u8 0) := ⟨Try.t280, by kernel_rfl, by kernel_rfl⟩
theorem zero_ty_p_uint8 : zeroT Try.prog ty_p_uint8 (.pointer none) := ⟨Try.t282, by kernel_rfl, by kernel_rfl⟩
theorem zero_ty_abi_NameOff : zeroT Try.prog ty_abi_NameOff (.int .i32 0) := ⟨Try.t283, by kernel_rfl, by kernel_rfl⟩
theorem zero_ty_abi_TypeOff : zeroT Try.prog ty_abi_TypeOff (.int .i32 0) := ⟨Try.t284, by kernel_rfl, by kernel_rfl⟩
theorem zero_ty_p_sched_job : zeroT Try.prog ty_p_sched_job (.pointer none) := ⟨Try.t290, by kernel_rfl, by kernel_rfl⟩
theorem zero_ty_unsafe_Pointer : zeroT Try.prog ty_unsafe_Pointer (.pointer none) := ⟨Try.t291, by kernel_rfl, by kernel_rfl⟩
theorem zero_ty_struct_order_api_Order_need_s_int : zeroT Try.prog ty_struct_order_api_Order_need_s_int (.agg #[(.int .i64 0), (.int .u64 0), (.int .u64 0), (.int .i64 0), (.int .i64 0), (Sl.val ⟨none, 0, 0⟩), (Sl.val ⟨none, 0, 0⟩), (Sl.val ⟨none, 0, 0⟩), (.int .i64 0), (Sl.val ⟨none, 0, 0⟩), (Sl.val ⟨none, 0, 0⟩)]) := ⟨Try.t292, by kernel_rfl, by kernel_rfl⟩
theorem zero_ty_sched_job : zeroT Try.prog ty_sched_job (.agg #[(.int .i64 0), (.int .u64 0), (.int .u64 0), (.int .i64 0), (.int .i64 0), (Sl.val ⟨none, 0, 0⟩), (Sl.val ⟨none, 0, 0⟩), (Sl.val ⟨none, 0, 0⟩), (.int .i64 0), (Sl.val ⟨none, 0, 0⟩), (Sl.val ⟨none, 0, 0⟩)]) := ⟨Try.t293, by kernel_rfl, by kernel_rfl⟩
theorem mixed : Try.prog.follows .mixedOrders = true := by kernel_rfl
theorem ar_243 : arrayT Try.prog 243 3 18 1 = true := by kernel_rfl
theorem at_100 : aggT Try.prog 100 5 = true := by kernel_rfl
theorem at_109 : aggT Try.prog 109 10 = true := by kernel_rfl
theorem at_117 : aggT Try.prog 117 4 = true := by kernel_rfl
theorem at_119 : aggT Try.prog 119 2 = true := by kernel_rfl
theorem at_125 : aggT Try.prog 125 4 = true := by kernel_rfl
theorem at_137 : aggT Try.prog 137 7 = true := by kernel_rfl
theorem at_237 : aggT Try.prog 237 5 = true := by kernel_rfl
theorem at_41 : aggT Try.prog 41 3 = true := by kernel_rfl
theorem at_44 : aggT Try.prog 44 3 = true := by kernel_rfl
theorem at_46 : aggT Try.prog 46 4 = true := by kernel_rfl
theorem at_88 : aggT Try.prog 88 5 = true := by kernel_rfl
theorem at_94 : aggT Try.prog 94 2 = true := by kernel_rfl
theorem at_96 : aggT Try.prog 96 6 = true := by kernel_rfl
theorem cb_100 : callable Try.prog 100 = true := by kernel_rfl
theorem cb_101 : callable Try.prog 101 = true := by kernel_rfl
theorem cb_102 : callable Try.prog 102 = true := by kernel_rfl
theorem cb_103 : callable Try.prog 103 = true := by kernel_rfl
theorem cb_105 : callable Try.prog 105 = true := by kernel_rfl
theorem cb_106 : callable Try.prog 106 = true := by kernel_rfl
theorem cb_107 : callable Try.prog 107 = true := by kernel_rfl
theorem cb_108 : callable Try.prog 108 = true := by kernel_rfl
theorem cb_109 : callable Try.prog 109 = true := by kernel_rfl
theorem cb_110 : callable Try.prog 110 = true := by kernel_rfl
theorem cb_111 : callable Try.prog 111 = true := by kernel_rfl
theorem cb_113 : callable Try.prog 113 = true := by kernel_rfl
theorem cb_114 : callable Try.prog 114 = true := by kernel_rfl
theorem cb_115 : callable Try.prog 115 = true := by kernel_rfl
theorem cb_116 : callable Try.prog 116 = true := by kernel_rfl
theorem cb_117 : callable Try.prog 117 = true := by kernel_rfl
theorem cb_119 : callable Try.prog 119 = true := by kernel_rfl
theorem cb_12 : callable Try.prog 12 = true := by kernel_rfl
theorem cb_120 : callable Try.prog 120 = true := by kernel_rfl
theorem cb_121 : callable Try.prog 121 = true := by kernel_rfl
theorem cb_122 : callable Try.prog 122 = true := by kernel_rfl
theorem cb_123 : callable Try.prog 123 = true := by kernel_rfl
theorem cb_124 : callable Try.prog 124 = true := by kernel_rfl
theorem cb_126 : callable Try.prog 126 = true := by kernel_rfl
theorem cb_127 : callable Try.prog 127 = true := by kernel_rfl
theorem cb_129 : callable Try.prog 129 = true := by kernel_rfl
theorem cb_13 : callable Try.prog 13 = true := by kernel_rfl
theorem cb_130 : callable Try.prog 130 = true := by kernel_rfl
theorem cb_131 : callable Try.prog 131 = true := by kernel_rfl
theorem cb_133 : callable Try.prog 133 = true := by kernel_rfl
theorem cb_134 : callable Try.prog 134 = true := by kernel_rfl
theorem cb_135 : callable Try.prog 135 = true := by kernel_rfl
theorem cb_136 : callable Try.prog 136 = true := by kernel_rfl
theorem cb_137 : callable Try.prog 137 = true := by kernel_rfl
theorem cb_138 : callable Try.prog 138 = true := by kernel_rfl
theorem cb_139 : callable Try.prog 139 = true := by kernel_rfl
theorem cb_14 : callable Try.prog 14 = true := by kernel_rfl
theorem cb_140 : callable Try.prog 140 = true := by kernel_rfl
theorem cb_141 : callable Try.prog 141 = true := by kernel_rfl
theorem cb_142 : callable Try.prog 142 = true := by kernel_rfl
theorem cb_144 : callable Try.prog 144 = true := by kernel_rfl
theorem cb_145 : callable Try.prog 145 = true := by kernel_rfl
theorem cb_146 : callable Try.prog 146 = true := by kernel_rfl
theorem cb_147 : callable Try.prog 147 = true := by kernel_rfl
theorem cb_148 : callable Try.prog 148 = true := by kernel_rfl
theorem cb_149 : callable Try.prog 149 = true := by kernel_rfl
theorem cb_15 : callable Try.prog 15 = true := by kernel_rfl
theorem cb_150 : callable Try.prog 150 = true := by kernel_rfl
theorem cb_151 : callable Try.prog 151 = true := by kernel_rfl
theorem cb_152 : callable Try.prog 152 = true := by kernel_rfl
theorem cb_153 : callable Try.prog 153 = true := by kernel_rfl
theorem cb_154 : callable Try.prog 154 = true := by kernel_rfl
theorem cb_155 : callable Try.prog 155 = true := by kernel_rfl
theorem cb_156 : callable Try.prog 156 = true := by kernel_rfl
theorem cb_16 : callable Try.prog 16 = true := by kernel_rfl
theorem cb_17 : callable Try.prog 17 = true := by kernel_rfl
theorem cb_18 : callable Try.prog 18 = true := by kernel_rfl
theorem cb_19 : callable Try.prog 19 = true := by kernel_rfl
theorem cb_20 : callable Try.prog 20 = true := by kernel_rfl
theorem cb_21 : callable Try.prog 21 = true := by kernel_rfl
theorem cb_22 : callable Try.prog 22 = true := by kernel_rfl
theorem cb_23 : callable Try.prog 23 = true := by kernel_rfl
theorem cb_24 : callable Try.prog 24 = true := by kernel_rfl
theorem cb_25 : callable Try.prog 25 = true := by kernel_rfl
theorem cb_26 : callable Try.prog 26 = true := by kernel_rfl
theorem cb_27 : callable Try.prog 27 = true := by kernel_rfl
theorem cb_28 : callable Try.prog 28 = true := by kernel_rfl
theorem cb_29 : callable Try.prog 29 = true := by kernel_rfl
theorem cb_30 : callable Try.prog 30 = true := by kernel_rfl
theorem cb_31 : callable Try.prog 31 = true := by kernel_rfl
theorem cb_32 : callable Try.prog 32 = true := by kernel_rfl
theorem cb_33 : callable Try.prog 33 = true := by kernel_rfl
theorem cb_34 : callable Try.prog 34 = true := by kernel_rfl
theorem cb_35 : callable Try.prog 35 = true := by kernel_rfl
theorem cb_36 : callable Try.prog 36 = true := by kernel_rfl
theorem cb_37 : callable Try.prog 37 = true := by kernel_rfl
theorem cb_38 : callable Try.prog 38 = true := by kernel_rfl
theorem cb_39 : callable Try.prog 39 = true := by kernel_rfl
theorem cb_40 : callable Try.prog 40 = true := by kernel_rfl
theorem cb_41 : callable Try.prog 41 = true := by kernel_rfl
theorem cb_42 : callable Try.prog 42 = true := by kernel_rfl
theorem cb_43 : callable Try.prog 43 = true := by kernel_rfl
theorem cb_44 : callable Try.prog 44 = true := by kernel_rfl
theorem cb_45 : callable Try.prog 45 = true := by kernel_rfl
theorem cb_46 : callable Try.prog 46 = true := by kernel_rfl
theorem cb_47 : callable Try.prog 47 = true := by kernel_rfl
theorem cb_48 : callable Try.prog 48 = true := by kernel_rfl
theorem cb_49 : callable Try.prog 49 = true := by kernel_rfl
theorem cb_50 : callable Try.prog 50 = true := by kernel_rfl
theorem cb_51 : callable Try.prog 51 = true := by kernel_rfl
theorem cb_52 : callable Try.prog 52 = true := by kernel_rfl
theorem cb_53 : callable Try.prog 53 = true := by kernel_rfl
theorem cb_54 : callable Try.prog 54 = true := by kernel_rfl
theorem cb_55 : callable Try.prog 55 = true := by kernel_rfl
theorem cb_56 : callable Try.prog 56 = true := by kernel_rfl
theorem cb_57 : callable Try.prog 57 = true := by kernel_rfl
theorem cb_58 : callable Try.prog 58 = true := by kernel_rfl
theorem cb_59 : callable Try.prog 59 = true := by kernel_rfl
theorem cb_60 : callable Try.prog 60 = true := by kernel_rfl
theorem cb_61 : callable Try.prog 61 = true := by kernel_rfl
theorem cb_62 : callable Try.prog 62 = true := by kernel_rfl
theorem cb_63 : callable Try.prog 63 = true := by kernel_rfl
theorem cb_65 : callable Try.prog 65 = true := by kernel_rfl
theorem cb_66 : callable Try.prog 66 = true := by kernel_rfl
theorem cb_67 : callable Try.prog 67 = true := by kernel_rfl
theorem cb_68 : callable Try.prog 68 = true := by kernel_rfl
theorem cb_69 : callable Try.prog 69 = true := by kernel_rfl
theorem cb_70 : callable Try.prog 70 = true := by kernel_rfl
theorem cb_71 : callable Try.prog 71 = true := by kernel_rfl
theorem cb_72 : callable Try.prog 72 = true := by kernel_rfl
theorem cb_73 : callable Try.prog 73 = true := by kernel_rfl
theorem cb_74 : callable Try.prog 74 = true := by kernel_rfl
theorem cb_75 : callable Try.prog 75 = true := by kernel_rfl
theorem cb_76 : callable Try.prog 76 = true := by kernel_rfl
theorem cb_77 : callable Try.prog 77 = true := by kernel_rfl
theorem cb_78 : callable Try.prog 78 = true := by kernel_rfl
theorem cb_79 : callable Try.prog 79 = true := by kernel_rfl
theorem cb_80 : callable Try.prog 80 = true := by kernel_rfl
theorem cb_81 : callable Try.prog 81 = true := by kernel_rfl
theorem cb_82 : callable Try.prog 82 = true := by kernel_rfl
theorem cb_83 : callable Try.prog 83 = true := by kernel_rfl
theorem cb_84 : callable Try.prog 84 = true := by kernel_rfl
theorem cb_85 : callable Try.prog 85 = true := by kernel_rfl
theorem cb_86 : callable Try.prog 86 = true := by kernel_rfl
theorem cb_87 : callable Try.prog 87 = true := by kernel_rfl
theorem cb_89 : callable Try.prog 89 = true := by kernel_rfl
theorem cb_90 : callable Try.prog 90 = true := by kernel_rfl
theorem cb_91 : callable Try.prog 91 = true := by kernel_rfl
theorem cb_92 : callable Try.prog 92 = true := by kernel_rfl
theorem cb_93 : callable Try.prog 93 = true := by kernel_rfl
theorem cb_94 : callable Try.prog 94 = true := by kernel_rfl
theorem cb_96 : callable Try.prog 96 = true := by kernel_rfl
theorem cb_97 : callable Try.prog 97 = true := by kernel_rfl
theorem cb_98 : callable Try.prog 98 = true := by kernel_rfl
theorem cb_99 : callable Try.prog 99 = true := by kernel_rfl
theorem ct_122 : cellT Try.prog 122 = true := by kernel_rfl
theorem ct_128 : cellT Try.prog 128 = true := by kernel_rfl
theorem ct_129 : cellT Try.prog 129 = true := by kernel_rfl
theorem ct_135 : cellT Try.prog 135 = true := by kernel_rfl
theorem ct_155 : cellT Try.prog 155 = true := by kernel_rfl
theorem ct_172 : cellT Try.prog 172 = true := by kernel_rfl
theorem ct_175 : cellT Try.prog 175 = true := by kernel_rfl
theorem ct_182 : cellT Try.prog 182 = true := by kernel_rfl
theorem ct_184 : cellT Try.prog 184 = true := by kernel_rfl
theorem ct_193 : cellT Try.prog 193 = true := by kernel_rfl
theorem ct_2 : cellT Try.prog 2 = true := by kernel_rfl
theorem ct_201 : cellT Try.prog 201 = true := by kernel_rfl
theorem ct_202 : cellT Try.prog 202 = true := by kernel_rfl
theorem ct_203 : cellT Try.prog 203 = true := by kernel_rfl
theorem ct_22 : cellT Try.prog 22 = true := by kernel_rfl
theorem ct_262 : cellT Try.prog 262 = true := by kernel_rfl
theorem ct_29 : cellT Try.prog 29 = true := by kernel_rfl
theorem ct_3 : cellT Try.prog 3 = true := by kernel_rfl
theorem ct_30 : cellT Try.prog 30 = true := by kernel_rfl
theorem ct_31 : cellT Try.prog 31 = true := by kernel_rfl
theorem ct_34 : cellT Try.prog 34 = true := by kernel_rfl
theorem ct_37 : cellT Try.prog 37 = true := by kernel_rfl
theorem ct_38 : cellT Try.prog 38 = true := by kernel_rfl
theorem ct_39 : cellT Try.prog 39 = true := by kernel_rfl
theorem ct_4 : cellT Try.prog 4 = true := by kernel_rfl
theorem ct_5 : cellT Try.prog 5 = true := by kernel_rfl
theorem ct_54 : cellT Try.prog 54 = true := by kernel_rfl
theorem ct_57 : cellT Try.prog 57 = true := by kernel_rfl
theorem ct_86 : cellT Try.prog 86 = true := by kernel_rfl
theorem ct_9 : cellT Try.prog 9 = true := by kernel_rfl
theorem ct_92 : cellT Try.prog 92 = true := by kernel_rfl
theorem ft_100_0 : fieldT Try.prog 100 0 0 3 = true := by kernel_rfl
theorem ft_100_1 : fieldT Try.prog 100 1 3 2 = true := by kernel_rfl
theorem ft_109_0 : fieldT Try.prog 109 0 0 4 = true := by kernel_rfl
theorem ft_109_1 : fieldT Try.prog 109 1 4 5 = true := by kernel_rfl
theorem ft_109_2 : fieldT Try.prog 109 2 9 1 = true := by kernel_rfl
theorem ft_117_0 : fieldT Try.prog 117 0 0 1 = true := by kernel_rfl
theorem ft_117_1 : fieldT Try.prog 117 1 1 1 = true := by kernel_rfl
theorem ft_117_2 : fieldT Try.prog 117 2 2 1 = true := by kernel_rfl
theorem ft_117_3 : fieldT Try.prog 117 3 3 1 = true := by kernel_rfl
theorem ft_119_1 : fieldT Try.prog 119 1 1 1 = true := by kernel_rfl
theorem ft_125_0 : fieldT Try.prog 125 0 0 1 = true := by kernel_rfl
theorem ft_125_1 : fieldT Try.prog 125 1 1 1 = true := by kernel_rfl
theorem ft_125_2 : fieldT Try.prog 125 2 2 1 = true := by kernel_rfl
theorem ft_125_3 : fieldT Try.prog 125 3 3 1 = true := by kernel_rfl
theorem ft_127_0 : fieldT Try.prog 127 0 0 1 = true := by kernel_rfl
theorem ft_127_1 : fieldT Try.prog 127 1 1 1 = true := by kernel_rfl
theorem ft_131_0 : fieldT Try.prog 131 0 0 1 = true := by kernel_rfl
theorem ft_131_1 : fieldT Try.prog 131 1 1 1 = true := by kernel_rfl
theorem ft_137_0 : fieldT Try.prog 137 0 0 4 = true := by kernel_rfl
theorem ft_139_0 : fieldT Try.prog 139 0 0 1 = true := by kernel_rfl
theorem ft_139_1 : fieldT Try.prog 139 1 1 1 = true := by kernel_rfl
theorem ft_157_0 : fieldT Try.prog 157 0 0 1 = true := by kernel_rfl
theorem ft_157_1 : fieldT Try.prog 157 1 1 1 = true := by kernel_rfl
theorem ft_157_2 : fieldT Try.prog 157 2 2 1 = true := by kernel_rfl
theorem ft_157_3 : fieldT Try.prog 157 3 3 1 = true := by kernel_rfl
theorem ft_159_0 : fieldT Try.prog 159 0 0 1 = true := by kernel_rfl
theorem ft_159_1 : fieldT Try.prog 159 1 1 1 = true := by kernel_rfl
theorem ft_159_2 : fieldT Try.prog 159 2 2 1 = true := by kernel_rfl
theorem ft_159_3 : fieldT Try.prog 159 3 3 1 = true := by kernel_rfl
theorem ft_159_4 : fieldT Try.prog 159 4 4 1 = true := by kernel_rfl
theorem ft_159_5 : fieldT Try.prog 159 5 5 1 = true := by kernel_rfl
theorem ft_159_6 : fieldT Try.prog 159 6 6 1 = true := by kernel_rfl
theorem ft_165_0 : fieldT Try.prog 165 0 0 1 = true := by kernel_rfl
theorem ft_165_1 : fieldT Try.prog 165 1 1 1 = true := by kernel_rfl
theorem ft_174_0 : fieldT Try.prog 174 0 0 1 = true := by kernel_rfl
theorem ft_174_1 : fieldT Try.prog 174 1 1 1 = true := by kernel_rfl
theorem ft_174_2 : fieldT Try.prog 174 2 2 1 = true := by kernel_rfl
theorem ft_174_3 : fieldT Try.prog 174 3 3 1 = true := by kernel_rfl
theorem ft_174_4 : fieldT Try.prog 174 4 4 1 = true := by kernel_rfl
theorem ft_178_0 : fieldT Try.prog 178 0 0 1 = true := by kernel_rfl
theorem ft_178_2 : fieldT Try.prog 178 2 2 1 = true := by kernel_rfl
theorem ft_186_0 : fieldT Try.prog 186 0 0 4 = true := by kernel_rfl
theorem ft_186_1 : fieldT Try.prog 186 1 4 5 = true := by kernel_rfl
theorem ft_186_2 : fieldT Try.prog 186 2 9 1 = true := by kernel_rfl
theorem ft_195_0 : fieldT Try.prog 195 0 0 1 = true := by kernel_rfl
theorem ft_195_1 : fieldT Try.prog 195 1 1 1 = true := by kernel_rfl
theorem ft_195_2 : fieldT Try.prog 195 2 2 1 = true := by kernel_rfl
theorem ft_205_0 : fieldT Try.prog 205 0 0 1 = true := by kernel_rfl
theorem ft_205_1 : fieldT Try.prog 205 1 1 1 = true := by kernel_rfl
theorem ft_207_0 : fieldT Try.prog 207 0 0 1 = true := by kernel_rfl
theorem ft_237_0 : fieldT Try.prog 237 0 0 1 = true := by kernel_rfl
theorem ft_237_1 : fieldT Try.prog 237 1 1 4 = true := by kernel_rfl
theorem ft_41_0 : fieldT Try.prog 41 0 0 1 = true := by kernel_rfl
theorem ft_41_1 : fieldT Try.prog 41 1 1 1 = true := by kernel_rfl
theorem ft_41_2 : fieldT Try.prog 41 2 2 1 = true := by kernel_rfl
theorem ft_44_2 : fieldT Try.prog 44 2 2 1 = true := by kernel_rfl
theorem ft_46_0 : fieldT Try.prog 46 0 0 3 = true := by kernel_rfl
theorem ft_46_1 : fieldT Try.prog 46 1 3 1 = true := by kernel_rfl
theorem ft_56_0 : fieldT Try.prog 56 0 0 1 = true := by kernel_rfl
theorem ft_56_1 : fieldT Try.prog 56 1 1 1 = true := by kernel_rfl
theorem ft_56_2 : fieldT Try.prog 56 2 2 1 = true := by kernel_rfl
theorem ft_88_0 : fieldT Try.prog 88 0 0 1 = true := by kernel_rfl
theorem ft_88_1 : fieldT Try.prog 88 1 1 1 = true := by kernel_rfl
theorem ft_88_2 : fieldT Try.prog 88 2 2 1 = true := by kernel_rfl
theorem ft_88_3 : fieldT Try.prog 88 3 3 1 = true := by kernel_rfl
theorem ft_88_4 : fieldT Try.prog 88 4 4 1 = true := by kernel_rfl
theorem ft_94_0 : fieldT Try.prog 94 0 0 1 = true := by kernel_rfl
theorem ft_94_1 : fieldT Try.prog 94 1 1 1 = true := by kernel_rfl
theorem ft_96_0 : fieldT Try.prog 96 0 0 4 = true := by kernel_rfl
theorem ft_96_1 : fieldT Try.prog 96 1 4 2 = true := by kernel_rfl
theorem in_120 : intT Try.prog 120 .u64 = true := by kernel_rfl
theorem in_2 : intT Try.prog 2 .i64 = true := by kernel_rfl
theorem in_21 : intT Try.prog 21 .i32 = true := by kernel_rfl
theorem in_216 : intT Try.prog 216 .u32 = true := by kernel_rfl
theorem in_262 : intT Try.prog 262 .u64 = true := by kernel_rfl
theorem in_3 : intT Try.prog 3 .i64 = true := by kernel_rfl
theorem in_39 : intT Try.prog 39 .u64 = true := by kernel_rfl
theorem in_5 : intT Try.prog 5 .u8 = true := by kernel_rfl
theorem pl_100 : placesT Try.prog 100 [(0, 3), (3, 2)] := ⟨_, Try.underlying100, by kernel_rfl⟩
theorem pl_109 : placesT Try.prog 109 [(0, 4), (4, 5), (9, 1)] := ⟨_, Try.underlying109, by kernel_rfl⟩
theorem pl_117 : placesT Try.prog 117 [(0, 1), (1, 1), (2, 1), (3, 1)] := ⟨_, Try.underlying117, by kernel_rfl⟩
theorem pl_119 : placesT Try.prog 119 [(0, 1), (1, 1)] := ⟨_, Try.underlying119, by kernel_rfl⟩
theorem pl_127 : placesT Try.prog 127 [(0, 1), (1, 1)] := ⟨_, Try.underlying127, by kernel_rfl⟩
theorem pl_131 : placesT Try.prog 131 [(0, 1), (1, 1)] := ⟨_, Try.underlying131, by kernel_rfl⟩
theorem pl_137 : placesT Try.prog 137 [(0, 4), (4, 3)] := ⟨_, Try.underlying137, by kernel_rfl⟩
theorem pl_139 : placesT Try.prog 139 [(0, 1), (1, 1)] := ⟨_, Try.underlying139, by kernel_rfl⟩
theorem pl_157 : placesT Try.prog 157 [(0, 1), (1, 1), (2, 1), (3, 1)] := ⟨_, Try.underlying157, by kernel_rfl⟩
theorem pl_159 : placesT Try.prog 159 [(0, 1), (1, 1), (2, 1), (3, 1), (4, 1), (5, 1), (6, 1)] := ⟨_, Try.underlying159, by kernel_rfl⟩
theorem pl_165 : placesT Try.prog 165 [(0, 1), (1, 1)] := ⟨_, Try.underlying165, by kernel_rfl⟩
theorem pl_174 : placesT Try.prog 174 [(0, 1), (1, 1), (2, 1), (3, 1), (4, 1)] := ⟨_, Try.underlying174, by kernel_rfl⟩
theorem pl_178 : placesT Try.prog 178 [(0, 1), (1, 1), (2, 1), (3, 1), (4, 1)] := ⟨_, Try.underlying178, by kernel_rfl⟩
theorem pl_186 : placesT Try.prog 186 [(0, 4), (4, 5), (9, 1)] := ⟨_, Try.underlying186, by kernel_rfl⟩
theorem pl_195 : placesT Try.prog 195 [(0, 1), (1, 1), (2, 1)] := ⟨_, Try.underlying195, by kernel_rfl⟩
theorem pl_200 : placesT Try.prog 200 [(0, 1), (1, 4)] := ⟨_, Try.underlying200, by kernel_rfl⟩
theorem pl_205 : placesT Try.prog 205 [(0, 1), (1, 1)] := ⟨_, Try.underlying205, by kernel_rfl⟩
theorem pl_207 : placesT Try.prog 207 [(0, 1), (1, 1)] := ⟨_, Try.underlying207, by kernel_rfl⟩
theorem pl_221 : placesT Try.prog 221 [(0, 1), (1, 1), (2, 1)] := ⟨_, Try.underlying221, by kernel_rfl⟩
theorem pl_41 : placesT Try.prog 41 [(0, 1), (1, 1), (2, 1)] := ⟨_, Try.underlying41, by kernel_rfl⟩
theorem pl_44 : placesT Try.prog 44 [(0, 1), (1, 1), (2, 1)] := ⟨_, Try.underlying44, by kernel_rfl⟩
theorem pl_46 : placesT Try.prog 46 [(0, 3), (3, 1)] := ⟨_, Try.underlying46, by kernel_rfl⟩
theorem pl_88 : placesT Try.prog 88 [(0, 1), (1, 1), (2, 1), (3, 1), (4, 1)] := ⟨_, Try.underlying88, by kernel_rfl⟩
theorem pl_94 : placesT Try.prog 94 [(0, 1), (1, 1)] := ⟨_, Try.underlying94, by kernel_rfl⟩
theorem pl_96 : placesT Try.prog 96 [(0, 4), (4, 2)] := ⟨_, Try.underlying96, by kernel_rfl⟩
theorem rz_109_1 : (Array.range (1 * 10)).map (fun i => (if 1 * 10 = 0 then #[] else Value.cells (.agg #[(.int .i64 0), (.int .u64 0), (.int .u64 0), (.int .i64 0), (.int .i64 0), (Sl.val ⟨none, 0, 0⟩), (Sl.val ⟨none, 0, 0⟩), (Sl.val ⟨none, 0, 0⟩), (.int .i64 0), (Sl.val ⟨none, 0, 0⟩)]))[i % (if 1 * 10 = 0 then #[] else Value.cells (.agg #[(.int .i64 0), (.int .u64 0), (.int .u64 0), (.int .i64 0), (.int .i64 0), (Sl.val ⟨none, 0, 0⟩), (Sl.val ⟨none, 0, 0⟩), (Sl.val ⟨none, 0, 0⟩), (.int .i64 0), (Sl.val ⟨none, 0, 0⟩)])).size]!) = #[(.int .i64 0), (.int .u64 0), (.int .u64 0), (.int .i64 0), (.int .i64 0), (Sl.val ⟨none, 0, 0⟩), (Sl.val ⟨none, 0, 0⟩), (Sl.val ⟨none, 0, 0⟩), (.int .i64 0), (Sl.val ⟨none, 0, 0⟩)] := by kernel_rfl
theorem rz_117_0 : (Array.range (0 * 4)).map (fun i => (if 0 * 4 = 0 then #[] else Value.cells (.agg #[(.int .i64 0), (.string ⟨#[]⟩), (Sl.val ⟨none, 0, 0⟩), (.int .i64 0)]))[i % (if 0 * 4 = 0 then #[] else Value.cells (.agg #[(.int .i64 0), (.string ⟨#[]⟩), (Sl.val ⟨none, 0, 0⟩), (.int .i64 0)])).size]!) = #[] := by kernel_rfl
theorem rz_117_2 : (Array.range (2 * 4)).map (fun i => (if 2 * 4 = 0 then #[] else Value.cells (.agg #[(.int .i64 0), (.string ⟨#[]⟩), (Sl.val ⟨none, 0, 0⟩), (.int .i64 0)]))[i % (if 2 * 4 = 0 then #[] else Value.cells (.agg #[(.int .i64 0), (.string ⟨#[]⟩), (Sl.val ⟨none, 0, 0⟩), (.int .i64 0)])).size]!) = #[(.int .i64 0), (.string ⟨#[]⟩), (Sl.val ⟨none, 0, 0⟩), (.int .i64 0), (.int .i64 0), (.string ⟨#[]⟩), (Sl.val ⟨none, 0, 0⟩), (.int .i64 0)] := by kernel_rfl
theorem rz_119_0 : (Array.range (0 * 2)).map (fun i => (if 0 * 2 = 0 then #[] else Value.cells (.agg #[(.bool false), (Sl.val ⟨none, 0, 0⟩)]))[i % (if 0 * 2 = 0 then #[] else Value.cells (.agg #[(.bool false), (Sl.val ⟨none, 0, 0⟩)])).size]!) = #[] := by kernel_rfl
theorem rz_119_1 : (Array.range (1 * 2)).map (fun i => (if 1 * 2 = 0 then #[] else Value.cells (.agg #[(.bool false), (Sl.val ⟨none, 0, 0⟩)]))[i % (if 1 * 2 = 0 then #[] else Value.cells (.agg #[(.bool false), (Sl.val ⟨none, 0, 0⟩)])).size]!) = #[(.bool false), (Sl.val ⟨none, 0, 0⟩)] := by kernel_rfl
theorem rz_137_1 : (Array.range (1 * 7)).map (fun i => (if 1 * 7 = 0 then #[] else Value.cells (.agg #[(.int .i64 0), (.int .u64 0), (.int .u64 0), (.int .i64 0), (.string ⟨#[]⟩), (.int .i64 0), (.int .u64 0)]))[i % (if 1 * 7 = 0 then #[] else Value.cells (.agg #[(.int .i64 0), (.int .u64 0), (.int .u64 0), (.int .i64 0), (.string ⟨#[]⟩), (.int .i64 0), (.int .u64 0)])).size]!) = #[(.int .i64 0), (.int .u64 0), (.int .u64 0), (.int .i64 0), (.string ⟨#[]⟩), (.int .i64 0), (.int .u64 0)] := by kernel_rfl
theorem rz_179_1 : (Array.range (1 * 1)).map (fun i => (if 1 * 1 = 0 then #[] else Value.cells (.pointer none))[i % (if 1 * 1 = 0 then #[] else Value.cells (.pointer none)).size]!) = #[(.pointer none)] := by kernel_rfl
theorem rz_182_1 : (Array.range (1 * 1)).map (fun i => (if 1 * 1 = 0 then #[] else Value.cells (.pointer none))[i % (if 1 * 1 = 0 then #[] else Value.cells (.pointer none)).size]!) = #[(.pointer none)] := by kernel_rfl
theorem rz_200_1 : (Array.range (1 * 5)).map (fun i => (if 1 * 5 = 0 then #[] else Value.cells (.agg #[(.string ⟨#[]⟩), (.bool false), (Sl.val ⟨none, 0, 0⟩), (.int .i64 0), (.int .u64 0)]))[i % (if 1 * 5 = 0 then #[] else Value.cells (.agg #[(.string ⟨#[]⟩), (.bool false), (Sl.val ⟨none, 0, 0⟩), (.int .i64 0), (.int .u64 0)])).size]!) = #[(.string ⟨#[]⟩), (.bool false), (Sl.val ⟨none, 0, 0⟩), (.int .i64 0), (.int .u64 0)] := by kernel_rfl
theorem rz_22_0 : (Array.range (0 * 1)).map (fun i => (if 0 * 1 = 0 then #[] else Value.cells (Sl.val ⟨none, 0, 0⟩))[i % (if 0 * 1 = 0 then #[] else Value.cells (Sl.val ⟨none, 0, 0⟩)).size]!) = #[] := by kernel_rfl
theorem rz_22_1 : (Array.range (1 * 1)).map (fun i => (if 1 * 1 = 0 then #[] else Value.cells (Sl.val ⟨none, 0, 0⟩))[i % (if 1 * 1 = 0 then #[] else Value.cells (Sl.val ⟨none, 0, 0⟩)).size]!) = #[(Sl.val ⟨none, 0, 0⟩)] := by kernel_rfl
theorem rz_37_2 : (Array.range (2 * 1)).map (fun i => (if 2 * 1 = 0 then #[] else Value.cells (Sl.val ⟨none, 0, 0⟩))[i % (if 2 * 1 = 0 then #[] else Value.cells (Sl.val ⟨none, 0, 0⟩)).size]!) = #[(Sl.val ⟨none, 0, 0⟩), (Sl.val ⟨none, 0, 0⟩)] := by kernel_rfl
theorem rz_39_0 : (Array.range (0 * 1)).map (fun i => (if 0 * 1 = 0 then #[] else Value.cells (.int .u64 0))[i % (if 0 * 1 = 0 then #[] else Value.cells (.int .u64 0)).size]!) = #[] := by kernel_rfl
theorem rz_39_1 : (Array.range (1 * 1)).map (fun i => (if 1 * 1 = 0 then #[] else Value.cells (.int .u64 0))[i % (if 1 * 1 = 0 then #[] else Value.cells (.int .u64 0)).size]!) = #[(.int .u64 0)] := by kernel_rfl
theorem rz_3_0 : (Array.range (0 * 1)).map (fun i => (if 0 * 1 = 0 then #[] else Value.cells (.int .i64 0))[i % (if 0 * 1 = 0 then #[] else Value.cells (.int .i64 0)).size]!) = #[] := by kernel_rfl
theorem rz_3_1 : (Array.range (1 * 1)).map (fun i => (if 1 * 1 = 0 then #[] else Value.cells (.int .i64 0))[i % (if 1 * 1 = 0 then #[] else Value.cells (.int .i64 0)).size]!) = #[(.int .i64 0)] := by kernel_rfl
theorem rz_41_0 : (Array.range (0 * 3)).map (fun i => (if 0 * 3 = 0 then #[] else Value.cells (.agg #[(.string ⟨#[]⟩), (.int .i64 0), (.int .u64 0)]))[i % (if 0 * 3 = 0 then #[] else Value.cells (.agg #[(.string ⟨#[]⟩), (.int .i64 0), (.int .u64 0)])).size]!) = #[] := by kernel_rfl
theorem rz_41_1 : (Array.range (1 * 3)).map (fun i => (if 1 * 3 = 0 then #[] else Value.cells (.agg #[(.string ⟨#[]⟩), (.int .i64 0), (.int .u64 0)]))[i % (if 1 * 3 = 0 then #[] else Value.cells (.agg #[(.string ⟨#[]⟩), (.int .i64 0), (.int .u64 0)])).size]!) = #[(.string ⟨#[]⟩), (.int .i64 0), (.int .u64 0)] := by kernel_rfl
theorem rz_41_2 : (Array.range (2 * 3)).map (fun i => (if 2 * 3 = 0 then #[] else Value.cells (.agg #[(.string ⟨#[]⟩), (.int .i64 0), (.int .u64 0)]))[i % (if 2 * 3 = 0 then #[] else Value.cells (.agg #[(.string ⟨#[]⟩), (.int .i64 0), (.int .u64 0)])).size]!) = #[(.string ⟨#[]⟩), (.int .i64 0), (.int .u64 0), (.string ⟨#[]⟩), (.int .i64 0), (.int .u64 0)] := by kernel_rfl
theorem rz_44_1 : (Array.range (1 * 3)).map (fun i => (if 1 * 3 = 0 then #[] else Value.cells (.agg #[(.int .i64 0), (.int .u64 0), (.int .u64 0)]))[i % (if 1 * 3 = 0 then #[] else Value.cells (.agg #[(.int .i64 0), (.int .u64 0), (.int .u64 0)])).size]!) = #[(.int .i64 0), (.int .u64 0), (.int .u64 0)] := by kernel_rfl
theorem rz_46_1 : (Array.range (1 * 4)).map (fun i => (if 1 * 4 = 0 then #[] else Value.cells (.agg #[(.int .i64 0), (.int .u64 0), (.int .u64 0), (.int .i64 0)]))[i % (if 1 * 4 = 0 then #[] else Value.cells (.agg #[(.int .i64 0), (.int .u64 0), (.int .u64 0), (.int .i64 0)])).size]!) = #[(.int .i64 0), (.int .u64 0), (.int .u64 0), (.int .i64 0)] := by kernel_rfl
theorem rz_5_0 : (Array.range (0 * 1)).map (fun i => (if 0 * 1 = 0 then #[] else Value.cells (.int .u8 0))[i % (if 0 * 1 = 0 then #[] else Value.cells (.int .u8 0)).size]!) = #[] := by kernel_rfl
theorem rz_5_1 : (Array.range (1 * 1)).map (fun i => (if 1 * 1 = 0 then #[] else Value.cells (.int .u8 0))[i % (if 1 * 1 = 0 then #[] else Value.cells (.int .u8 0)).size]!) = #[(.int .u8 0)] := by kernel_rfl
theorem rz_5_2 : (Array.range (2 * 1)).map (fun i => (if 2 * 1 = 0 then #[] else Value.cells (.int .u8 0))[i % (if 2 * 1 = 0 then #[] else Value.cells (.int .u8 0)).size]!) = #[(.int .u8 0), (.int .u8 0)] := by kernel_rfl
theorem rz_5_3 : (Array.range (3 * 1)).map (fun i => (if 3 * 1 = 0 then #[] else Value.cells (.int .u8 0))[i % (if 3 * 1 = 0 then #[] else Value.cells (.int .u8 0)).size]!) = #[(.int .u8 0), (.int .u8 0), (.int .u8 0)] := by kernel_rfl
theorem rz_5_4 : (Array.range (4 * 1)).map (fun i => (if 4 * 1 = 0 then #[] else Value.cells (.int .u8 0))[i % (if 4 * 1 = 0 then #[] else Value.cells (.int .u8 0)).size]!) = #[(.int .u8 0), (.int .u8 0), (.int .u8 0), (.int .u8 0)] := by kernel_rfl
theorem rz_5_6 : (Array.range (6 * 1)).map (fun i => (if 6 * 1 = 0 then #[] else Value.cells (.int .u8 0))[i % (if 6 * 1 = 0 then #[] else Value.cells (.int .u8 0)).size]!) = #[(.int .u8 0), (.int .u8 0), (.int .u8 0), (.int .u8 0), (.int .u8 0), (.int .u8 0)] := by kernel_rfl
theorem rz_9_0 : (Array.range (0 * 1)).map (fun i => (if 0 * 1 = 0 then #[] else Value.cells (.string ⟨#[]⟩))[i % (if 0 * 1 = 0 then #[] else Value.cells (.string ⟨#[]⟩)).size]!) = #[] := by kernel_rfl
theorem rz_9_1 : (Array.range (1 * 1)).map (fun i => (if 1 * 1 = 0 then #[] else Value.cells (.string ⟨#[]⟩))[i % (if 1 * 1 = 0 then #[] else Value.cells (.string ⟨#[]⟩)).size]!) = #[(.string ⟨#[]⟩)] := by kernel_rfl
theorem sl_103 : sliceT Try.prog 103 44 3 = true := by kernel_rfl
theorem sl_113 : sliceT Try.prog 113 200 5 = true := by kernel_rfl
theorem sl_135 : sliceT Try.prog 135 137 7 = true := by kernel_rfl
theorem sl_172 : sliceT Try.prog 172 182 1 = true := by kernel_rfl
theorem sl_175 : sliceT Try.prog 175 179 1 = true := by kernel_rfl
theorem sl_202 : sliceT Try.prog 202 237 5 = true := by kernel_rfl
theorem sl_203 : sliceT Try.prog 203 201 1 = true := by kernel_rfl
theorem sl_22 : sliceT Try.prog 22 5 1 = true := by kernel_rfl
theorem sl_28 : sliceT Try.prog 28 37 1 = true := by kernel_rfl
theorem sl_29 : sliceT Try.prog 29 3 1 = true := by kernel_rfl
theorem sl_36 : sliceT Try.prog 36 39 1 = true := by kernel_rfl
theorem sl_37 : sliceT Try.prog 37 9 1 = true := by kernel_rfl
theorem sl_38 : sliceT Try.prog 38 41 3 = true := by kernel_rfl
theorem sl_49 : sliceT Try.prog 49 46 4 = true := by kernel_rfl
theorem sl_54 : sliceT Try.prog 54 22 1 = true := by kernel_rfl
theorem sl_78 : sliceT Try.prog 78 88 5 = true := by kernel_rfl
theorem sl_79 : sliceT Try.prog 79 96 6 = true := by kernel_rfl
theorem sl_86 : sliceT Try.prog 86 117 4 = true := by kernel_rfl
theorem sl_92 : sliceT Try.prog 92 119 2 = true := by kernel_rfl
theorem sl_97 : sliceT Try.prog 97 109 10 = true := by kernel_rfl
theorem st_9 : stringT Try.prog 9 = true := by kernel_rfl
theorem sz_100 : sizeT Try.prog 100 5 = true := by kernel_rfl
theorem sz_109 : sizeT Try.prog 109 10 = true := by kernel_rfl
theorem sz_117 : sizeT Try.prog 117 4 = true := by kernel_rfl
theorem sz_119 : sizeT Try.prog 119 2 = true := by kernel_rfl
theorem sz_125 : sizeT Try.prog 125 4 = true := by kernel_rfl
theorem sz_135 : sizeT Try.prog 135 1 = true := by kernel_rfl
theorem sz_137 : sizeT Try.prog 137 7 = true := by kernel_rfl
theorem sz_172 : sizeT Try.prog 172 1 = true := by kernel_rfl
theorem sz_175 : sizeT Try.prog 175 1 = true := by kernel_rfl
theorem sz_184 : sizeT Try.prog 184 1 = true := by kernel_rfl
theorem sz_22 : sizeT Try.prog 22 1 = true := by kernel_rfl
theorem sz_243 : sizeT Try.prog 243 18 = true := by kernel_rfl
theorem sz_262 : sizeT Try.prog 262 1 = true := by kernel_rfl
theorem sz_3 : sizeT Try.prog 3 1 = true := by kernel_rfl
theorem sz_37 : sizeT Try.prog 37 1 = true := by kernel_rfl
theorem sz_38 : sizeT Try.prog 38 1 = true := by kernel_rfl
theorem sz_39 : sizeT Try.prog 39 1 = true := by kernel_rfl
theorem sz_4 : sizeT Try.prog 4 1 = true := by kernel_rfl
theorem sz_41 : sizeT Try.prog 41 3 = true := by kernel_rfl
theorem sz_44 : sizeT Try.prog 44 3 = true := by kernel_rfl
theorem sz_46 : sizeT Try.prog 46 4 = true := by kernel_rfl
theorem sz_5 : sizeT Try.prog 5 1 = true := by kernel_rfl
theorem sz_54 : sizeT Try.prog 54 1 = true := by kernel_rfl
theorem sz_86 : sizeT Try.prog 86 1 = true := by kernel_rfl
theorem sz_88 : sizeT Try.prog 88 5 = true := by kernel_rfl
theorem sz_9 : sizeT Try.prog 9 1 = true := by kernel_rfl
theorem sz_92 : sizeT Try.prog 92 1 = true := by kernel_rfl
theorem sz_94 : sizeT Try.prog 94 2 = true := by kernel_rfl
theorem sz_96 : sizeT Try.prog 96 6 = true := by kernel_rfl
theorem zt_100 : zeroT Try.prog 100 (.agg #[(.int .i64 0), (.int .u64 0), (.int .u64 0), (.int .i64 0), (Sl.val ⟨none, 0, 0⟩)]) := ⟨Try.t100, by kernel_rfl, by kernel_rfl⟩
theorem zt_109 : zeroT Try.prog 109 (.agg #[(.int .i64 0), (.int .u64 0), (.int .u64 0), (.int .i64 0), (.int .i64 0), (Sl.val ⟨none, 0, 0⟩), (Sl.val ⟨none, 0, 0⟩), (Sl.val ⟨none, 0, 0⟩), (.int .i64 0), (Sl.val ⟨none, 0, 0⟩)]) := ⟨Try.t109, by kernel_rfl, by kernel_rfl⟩
theorem zt_117 : zeroT Try.prog 117 (.agg #[(.int .i64 0), (.string ⟨#[]⟩), (Sl.val ⟨none, 0, 0⟩), (.int .i64 0)]) := ⟨Try.t117, by kernel_rfl, by kernel_rfl⟩
theorem zt_119 : zeroT Try.prog 119 (.agg #[(.bool false), (Sl.val ⟨none, 0, 0⟩)]) := ⟨Try.t119, by kernel_rfl, by kernel_rfl⟩
theorem zt_125 : zeroT Try.prog 125 (.agg #[(.bool false), (Sl.val ⟨none, 0, 0⟩), (.int .i64 0), (.int .u64 0)]) := ⟨Try.t125, by kernel_rfl, by kernel_rfl⟩
theorem zt_127 : zeroT Try.prog 127 (.agg #[(.int .i64 0), (.pointer none)]) := ⟨Try.t127, by kernel_rfl, by kernel_rfl⟩
theorem zt_131 : zeroT Try.prog 131 (.agg #[(.map none), (.map none)]) := ⟨Try.t131, by kernel_rfl, by kernel_rfl⟩
theorem zt_137 : zeroT Try.prog 137 (.agg #[(.int .i64 0), (.int .u64 0), (.int .u64 0), (.int .i64 0), (.string ⟨#[]⟩), (.int .i64 0), (.int .u64 0)]) := ⟨Try.t137, by kernel_rfl, by kernel_rfl⟩
theorem zt_139 : zeroT Try.prog 139 (.agg #[(Sl.val ⟨none, 0, 0⟩), (Sl.val ⟨none, 0, 0⟩)]) := ⟨Try.t139, by kernel_rfl, by kernel_rfl⟩
theorem zt_157 : zeroT Try.prog 157 (.agg #[(.int .i64 0), (.map none), (.int .i64 0), (.bool false)]) := ⟨Try.t157, by kernel_rfl, by kernel_rfl⟩
theorem zt_159 : zeroT Try.prog 159 (.agg #[(.pointer none), (.string ⟨#[]⟩), (.int .i64 0), (.int .i64 0), (.int .i64 0), (.bool false), (Sl.val ⟨none, 0, 0⟩)]) := ⟨Try.t159, by kernel_rfl, by kernel_rfl⟩
theorem zt_165 : zeroT Try.prog 165 (.agg #[(Sl.val ⟨none, 0, 0⟩), (.int .i64 0)]) := ⟨Try.t165, by kernel_rfl, by kernel_rfl⟩
theorem zt_174 : zeroT Try.prog 174 (.agg #[(.int .i64 0), (.int .u64 0), (.int .i64 0), (.int .u64 0), (Sl.val ⟨none, 0, 0⟩)]) := ⟨Try.t174, by kernel_rfl, by kernel_rfl⟩
theorem zt_178 : zeroT Try.prog 178 (.agg #[(.pointer none), (.pointer none), (Sl.val ⟨none, 0, 0⟩), (Sl.val ⟨none, 0, 0⟩), (Sl.val ⟨none, 0, 0⟩)]) := ⟨Try.t178, by kernel_rfl, by kernel_rfl⟩
theorem zt_179 : zeroT Try.prog 179 (.pointer none) := ⟨Try.t179, by kernel_rfl, by kernel_rfl⟩
theorem zt_182 : zeroT Try.prog 182 (.pointer none) := ⟨Try.t182, by kernel_rfl, by kernel_rfl⟩
theorem zt_186 : zeroT Try.prog 186 (.agg #[(.int .i64 0), (.int .u64 0), (.int .u64 0), (.int .i64 0), (.int .i64 0), (Sl.val ⟨none, 0, 0⟩), (Sl.val ⟨none, 0, 0⟩), (Sl.val ⟨none, 0, 0⟩), (.int .i64 0), (.pointer none)]) := ⟨Try.t186, by kernel_rfl, by kernel_rfl⟩
theorem zt_195 : zeroT Try.prog 195 (.agg #[(.pointer none), (.map none), (Sl.val ⟨none, 0, 0⟩)]) := ⟨Try.t195, by kernel_rfl, by kernel_rfl⟩
theorem zt_200 : zeroT Try.prog 200 (.agg #[(.string ⟨#[]⟩), (.bool false), (Sl.val ⟨none, 0, 0⟩), (.int .i64 0), (.int .u64 0)]) := ⟨Try.t200, by kernel_rfl, by kernel_rfl⟩
theorem zt_205 : zeroT Try.prog 205 (.agg #[(Sl.val ⟨none, 0, 0⟩), (Sl.val ⟨none, 0, 0⟩)]) := ⟨Try.t205, by kernel_rfl, by kernel_rfl⟩
theorem zt_207 : zeroT Try.prog 207 (.agg #[(.pointer none), (.int .i64 0)]) := ⟨Try.t207, by kernel_rfl, by kernel_rfl⟩
theorem zt_22 : zeroT Try.prog 22 (Sl.val ⟨none, 0, 0⟩) := ⟨Try.t22, by kernel_rfl, by kernel_rfl⟩
theorem zt_221 : zeroT Try.prog 221 (.agg #[(.int .i64 0), (.int .i64 0), (.map none)]) := ⟨Try.t221, by kernel_rfl, by kernel_rfl⟩
theorem zt_243 : zeroT Try.prog 243 (.agg #[(.int .i64 0), (.int .i64 0), (.int .i64 0), (.int .i64 0), (.int .i64 0), (.int .i64 0), (.int .i64 0), (.int .i64 0), (.int .i64 0), (.int .i64 0), (.int .i64 0), (.int .i64 0), (.int .i64 0), (.int .i64 0), (.int .i64 0), (.int .i64 0), (.int .i64 0), (.int .i64 0)]) := ⟨Try.t243, by kernel_rfl, by kernel_rfl⟩
theorem zt_262 : zeroT Try.prog 262 (.int .u64 0) := ⟨Try.t262, by kernel_rfl, by kernel_rfl⟩
theorem zt_3 : zeroT Try.prog 3 (.int .i64 0) := ⟨Try.t3, by kernel_rfl, by kernel_rfl⟩
theorem zt_37 : zeroT Try.prog 37 (Sl.val ⟨none, 0, 0⟩) := ⟨Try.t37, by kernel_rfl, by kernel_rfl⟩
theorem zt_39 : zeroT Try.prog 39 (.int .u64 0) := ⟨Try.t39, by kernel_rfl, by kernel_rfl⟩
theorem zt_41 : zeroT Try.prog 41 (.agg #[(.string ⟨#[]⟩), (.int .i64 0), (.int .u64 0)]) := ⟨Try.t41, by kernel_rfl, by kernel_rfl⟩
theorem zt_44 : zeroT Try.prog 44 (.agg #[(.int .i64 0), (.int .u64 0), (.int .u64 0)]) := ⟨Try.t44, by kernel_rfl, by kernel_rfl⟩
theorem zt_46 : zeroT Try.prog 46 (.agg #[(.int .i64 0), (.int .u64 0), (.int .u64 0), (.int .i64 0)]) := ⟨Try.t46, by kernel_rfl, by kernel_rfl⟩
theorem zt_5 : zeroT Try.prog 5 (.int .u8 0) := ⟨Try.t5, by kernel_rfl, by kernel_rfl⟩
theorem zt_88 : zeroT Try.prog 88 (.agg #[(.int .i64 0), (Sl.val ⟨none, 0, 0⟩), (Sl.val ⟨none, 0, 0⟩), (Sl.val ⟨none, 0, 0⟩), (.int .i64 0)]) := ⟨Try.t88, by kernel_rfl, by kernel_rfl⟩
theorem zt_9 : zeroT Try.prog 9 (.string ⟨#[]⟩) := ⟨Try.t9, by kernel_rfl, by kernel_rfl⟩
theorem zt_94 : zeroT Try.prog 94 (.agg #[(.int .i64 0), (Sl.val ⟨none, 0, 0⟩)]) := ⟨Try.t94, by kernel_rfl, by kernel_rfl⟩
theorem zt_96 : zeroT Try.prog 96 (.agg #[(.int .i64 0), (.int .u64 0), (.int .u64 0), (.int .i64 0), (.int .i64 0), (Sl.val ⟨none, 0, 0⟩)]) := ⟨Try.t96, by kernel_rfl, by kernel_rfl⟩
end Go.Proofs.Ytdpepgjbambinaa
