/- The calls of the program's functions, by name. -/
import Derived.Test.YtdpepgjbambinaaTypes
namespace Go.Proofs.Ytdpepgjbambinaa
open Go Go.Sep
set_option linter.unusedVariables false
set_option linter.unusedSimpArgs false
def law07_EvalNumbers.call (n0 : Int) (value1 : Sl) (k : Bool → K) : K := CallF Try.prog 3 [(.int .i64 n0), (Sl.val value1)].toArray fun v w => ∃ r0, v = Value.bool r0 ∧ k r0 w
def law16_LocksOrdered.call (keys0 : Sl) (leaves1 : Sl) (k : Bool → K) : K := CallF Try.prog 4 [(Sl.val keys0), (Sl.val leaves1)].toArray fun v w => ∃ r0, v = Value.bool r0 ∧ k r0 w
def law04_WalKeeps.call (k0 : (Array Value)) (size1 : Int) (k : Bool → K) : K := CallF Try.prog 5 [(.agg k0), (.int .i64 size1)].toArray fun v w => ∃ r0, v = Value.bool r0 ∧ k r0 w
def law04_WalBeside.call (a0 : Sl) (b1 : Sl) (k : Bool → K) : K := CallF Try.prog 6 [(Sl.val a0), (Sl.val b1)].toArray fun v w => ∃ r0, v = Value.bool r0 ∧ k r0 w
def law04_WalAny.call (parts0 : Sl) (k : Bool → K) : K := CallF Try.prog 7 [(Sl.val parts0)].toArray fun v w => ∃ r0, v = Value.bool r0 ∧ k r0 w
def law04_WalGoesOn.call (list0 : Sl) (stops1 : Sl) (size2 : Int) (k : Bool → K) : K := CallF Try.prog 8 [(Sl.val list0), (Sl.val stops1), (.int .i64 size2)].toArray fun v w => ∃ r0, v = Value.bool r0 ∧ k r0 w
def law21_FrontOnce.call (txns0 : Sl) (list1 : Sl) (k : Bool → K) : K := CallF Try.prog 9 [(Sl.val txns0), (Sl.val list1)].toArray fun v w => ∃ r0, v = Value.bool r0 ∧ k r0 w
def law21_FrontTries.call (list0 : Sl) (codes1 : Sl) (k : Bool → K) : K := CallF Try.prog 10 [(Sl.val list0), (Sl.val codes1)].toArray fun v w => ∃ r0, v = Value.bool r0 ∧ k r0 w
def law21_FrontFull.call (n0 : Int) (k : Bool → K) : K := CallF Try.prog 11 [(.int .i64 n0)].toArray fun v w => ∃ r0, v = Value.bool r0 ∧ k r0 w
def law07_speaks.call  (k : Bool → K) : K := CallF Try.prog 12 [].toArray fun v w => ∃ r0, v = Value.bool r0 ∧ k r0 w
def eval_Number.call (value0 : Sl) (k : Int → Bool → K) : K := CallF Try.prog 13 [(Sl.val value0)].toArray fun v w => ∃ r0 r1, v = .tuple #[(Value.int .i64) r0, Value.bool r1] ∧ k r0 r1 w
def ref07_Number.call (v0 : Sl) (k : Int → Bool → K) : K := CallF Try.prog 14 [(Sl.val v0)].toArray fun v w => ∃ r0 r1, v = .tuple #[(Value.int .i64) r0, Value.bool r1] ∧ k r0 r1 w
def eval_Value.call (n0 : Int) (k : Sl → K) : K := CallF Try.prog 15 [(.int .i64 n0)].toArray fun v w => ∃ r0, v = Sl.val r0 ∧ k r0 w
def ref07_Value.call (n0 : Int) (k : Sl → K) : K := CallF Try.prog 16 [(.int .i64 n0)].toArray fun v w => ∃ r0, v = Sl.val r0 ∧ k r0 w
def law16_speaks.call  (k : Bool → K) : K := CallF Try.prog 17 [].toArray fun v w => ∃ r0, v = Value.bool r0 ∧ k r0 w
def store_New.call (regions0 : Int) (k : (Option Addr) → Int → K) : K := CallF Try.prog 18 [(.int .i64 regions0)].toArray fun v w => ∃ r0 r1, v = .tuple #[Value.pointer r0, (Value.int .i64) r1] ∧ k r0 r1 w
def locks_New.call  (k : (Option Addr) → K) : K := CallF Try.prog 19 [].toArray fun v w => ∃ r0, v = Value.pointer r0 ∧ k r0 w
def locks_Locks_Enter.call (l0 : (Option Addr)) (s1 : (Option Addr)) (tag2 : (Array Value)) (marks3 : Sl) (k : K) : K := CallF Try.prog 20 [(.pointer l0), (.pointer s1), (.agg tag2), (Sl.val marks3)].toArray fun v w => v = .tuple #[] ∧ k w
def law16_tag.call (n0 : Int) (k : (Array Value) → K) : K := CallF Try.prog 21 [(.int .u64 n0)].toArray fun v w => ∃ r0, v = Value.agg r0 ∧ k r0 w
def locks_Locks_Ready.call (l0 : (Option Addr)) (tag1 : (Array Value)) (k : Bool → K) : K := CallF Try.prog 22 [(.pointer l0), (.agg tag1)].toArray fun v w => ∃ r0, v = Value.bool r0 ∧ k r0 w
def locks_Locks_Ahead.call (l0 : (Option Addr)) (tag1 : (Array Value)) (k : Sl → K) : K := CallF Try.prog 23 [(.pointer l0), (.agg tag1)].toArray fun v w => ∃ r0, v = Sl.val r0 ∧ k r0 w
def locks_Locks_Leave.call (l0 : (Option Addr)) (tag1 : (Array Value)) (k : K) : K := CallF Try.prog 24 [(.pointer l0), (.agg tag1)].toArray fun v w => v = .tuple #[] ∧ k w
def locks_Locks_Keys.call (l0 : (Option Addr)) (k : Sl → K) : K := CallF Try.prog 25 [(.pointer l0)].toArray fun v w => ∃ r0, v = Sl.val r0 ∧ k r0 w
def law04_speaks.call  (k : Bool → K) : K := CallF Try.prog 26 [].toArray fun v w => ∃ r0, v = Value.bool r0 ∧ k r0 w
def disk_New.call (room0 : Int) (k : (Option Addr) → Int → K) : K := CallF Try.prog 27 [(.int .i64 room0)].toArray fun v w => ∃ r0 r1, v = .tuple #[Value.pointer r0, (Value.int .i64) r1] ∧ k r0 r1 w
def wal_Open.call (d0 : (Option Addr)) (name1 : ByteArray) (size2 : Int) (k : (Option Addr) → Int → K) : K := CallF Try.prog 28 [(.pointer d0), (.string name1), (.int .i64 size2)].toArray fun v w => ∃ r0 r1, v = .tuple #[Value.pointer r0, (Value.int .i64) r1] ∧ k r0 r1 w
def wal_Log_Sync.call (l0 : (Option Addr)) (k : Int → K) : K := CallF Try.prog 29 [(.pointer l0)].toArray fun v w => ∃ r0, v = (Value.int .i64) r0 ∧ k r0 w
def wal_Log_Records.call (l0 : (Option Addr)) (k : Sl → K) : K := CallF Try.prog 30 [(.pointer l0)].toArray fun v w => ∃ r0, v = Sl.val r0 ∧ k r0 w
def wal_Log_Append.call (l0 : (Option Addr)) (record1 : Sl) (k : Int → K) : K := CallF Try.prog 31 [(.pointer l0), (Sl.val record1)].toArray fun v w => ∃ r0, v = (Value.int .i64) r0 ∧ k r0 w
def disk_Disk_Crash.call (d0 : (Option Addr)) (keeps1 : Sl) (k : (Option Addr) → K) : K := CallF Try.prog 32 [(.pointer d0), (Sl.val keeps1)].toArray fun v w => ∃ r0, v = Value.pointer r0 ∧ k r0 w
def ref04_Same.call (a0 : Sl) (b1 : Sl) (k : Bool → K) : K := CallF Try.prog 33 [(Sl.val a0), (Sl.val b1)].toArray fun v w => ∃ r0, v = Value.bool r0 ∧ k r0 w
def disk_Disk_Append.call (d0 : (Option Addr)) (name1 : ByteArray) (data2 : Sl) (k : Int → K) : K := CallF Try.prog 34 [(.pointer d0), (.string name1), (Sl.val data2)].toArray fun v w => ∃ r0, v = (Value.int .i64) r0 ∧ k r0 w
def disk_Disk_Sync.call (d0 : (Option Addr)) (name1 : ByteArray) (k : Int → K) : K := CallF Try.prog 35 [(.pointer d0), (.string name1)].toArray fun v w => ∃ r0, v = (Value.int .i64) r0 ∧ k r0 w
def disk_Disk_Read.call (d0 : (Option Addr)) (name1 : ByteArray) (k : Sl → Int → K) : K := CallF Try.prog 36 [(.pointer d0), (.string name1)].toArray fun v w => ∃ r0 r1, v = .tuple #[Sl.val r0, (Value.int .i64) r1] ∧ k r0 r1 w
def ref01_Unframe.call (data0 : Sl) (k : Sl → Int → Int → K) : K := CallF Try.prog 37 [(Sl.val data0)].toArray fun v w => ∃ r0 r1 r2, v = .tuple #[Sl.val r0, (Value.int .i64) r1, (Value.int .i64) r2] ∧ k r0 r1 r2 w
def wal_Log_Parts.call (l0 : (Option Addr)) (k : Int → K) : K := CallF Try.prog 38 [(.pointer l0)].toArray fun v w => ∃ r0, v = (Value.int .i64) r0 ∧ k r0 w
def law21_speaks.call  (k : Bool → K) : K := CallF Try.prog 39 [].toArray fun v w => ∃ r0, v = Value.bool r0 ∧ k r0 w
def front_New.call (node0 : Int) (epoch1 : Int) (regions2 : Int) (k : (Option Addr) → K) : K := CallF Try.prog 40 [(.int .i64 node0), (.int .u64 epoch1), (.int .i64 regions2)].toArray fun v w => ∃ r0, v = Value.pointer r0 ∧ k r0 w
def sched_New.call (regions0 : Int) (k : (Option Addr) → Int → K) : K := CallF Try.prog 41 [(.int .i64 regions0)].toArray fun v w => ∃ r0 r1, v = .tuple #[Value.pointer r0, (Value.int .i64) r1] ∧ k r0 r1 w
def ref05_Great.call (t0 : (Array Value)) (k : Bool → K) : K := CallF Try.prog 42 [(.agg t0)].toArray fun v w => ∃ r0, v = Value.bool r0 ∧ k r0 w
def front_Front_Submit.call (f0 : (Option Addr)) (t1 : (Array Value)) (k : (Array Value) → Int → K) : K := CallF Try.prog 43 [(.pointer f0), (.agg t1)].toArray fun v w => ∃ r0 r1, v = .tuple #[Value.agg r0, (Value.int .i64) r1] ∧ k r0 r1 w
def front_Front_Orders.call (f0 : (Option Addr)) (s1 : (Option Addr)) (k : Sl → K) : K := CallF Try.prog 44 [(.pointer f0), (.pointer s1)].toArray fun v w => ∃ r0, v = Sl.val r0 ∧ k r0 w
def front_Front_Decide.call (f0 : (Option Addr)) (d1 : (Array Value)) (k : (Array Value) → Bool → K) : K := CallF Try.prog 45 [(.pointer f0), (.agg d1)].toArray fun v w => ∃ r0 r1, v = .tuple #[Value.agg r0, Value.bool r1] ∧ k r0 r1 w
def front_Front_Open.call (f0 : (Option Addr)) (k : Sl → K) : K := CallF Try.prog 46 [(.pointer f0)].toArray fun v w => ∃ r0, v = Sl.val r0 ∧ k r0 w
def front_Front_Full.call (f0 : (Option Addr)) (tag1 : (Array Value)) (k : (Array Value) → Bool → K) : K := CallF Try.prog 47 [(.pointer f0), (.agg tag1)].toArray fun v w => ∃ r0 r1, v = .tuple #[Value.agg r0, Value.bool r1] ∧ k r0 r1 w
def eval_Run.call (s0 : (Option Addr)) (t1 : (Array Value)) (k : (Array Value) → Sl → K) : K := CallF Try.prog 48 [(.pointer s0), (.agg t1)].toArray fun v w => ∃ r0 r1, v = .tuple #[Value.agg r0, Sl.val r1] ∧ k r0 r1 w
def ref16_Same.call (a0 : Sl) (b1 : Sl) (k : Bool → K) : K := CallF Try.prog 49 [(Sl.val a0), (Sl.val b1)].toArray fun v w => ∃ r0, v = Value.bool r0 ∧ k r0 w
def btree_New_string_api_Record.call  (k : (Option Addr) → K) : K := CallF Try.prog 50 [].toArray fun v w => ∃ r0, v = Value.pointer r0 ∧ k r0 w
def locks_Locks_gate.call (l0 : (Option Addr)) (key1 : ByteArray) (k : (Option Addr) → K) : K := CallF Try.prog 51 [(.pointer l0), (.string key1)].toArray fun v w => ∃ r0, v = Value.pointer r0 ∧ k r0 w
def slices_ContainsFunc_s_locks_claim_locks_claim.call (s0 : Sl) (f1 : Value) (k : Bool → K) : K := CallF Try.prog 52 [(Sl.val s0), f1].toArray fun v w => ∃ r0, v = Value.bool r0 ∧ k r0 w
def locks_of.call (tag0 : (Array Value)) (k : Value → K) : K := CallF Try.prog 53 [(.agg tag0)].toArray fun v w => ∃ r0, v = id r0 ∧ k r0 w
def route_Look.call (r0 : (Array Value)) (m1 : (Array Value)) (k : Int → K) : K := CallF Try.prog 54 [(.agg r0), (.agg m1)].toArray fun v w => ∃ r0, v = (Value.int .i64) r0 ∧ k r0 w
def store_Store_Get.call (s0 : (Option Addr)) (key1 : ByteArray) (k : (Array Value) → K) : K := CallF Try.prog 55 [(.pointer s0), (.string key1)].toArray fun v w => ∃ r0, v = Value.agg r0 ∧ k r0 w
def slices_IndexFunc_s_locks_claim_locks_claim.call (s0 : Sl) (f1 : Value) (k : Int → K) : K := CallF Try.prog 56 [(Sl.val s0), f1].toArray fun v w => ∃ r0, v = (Value.int .i64) r0 ∧ k r0 w
def locks_Locks_Queue.call (l0 : (Option Addr)) (key1 : ByteArray) (k : Sl → K) : K := CallF Try.prog 57 [(.pointer l0), (.string key1)].toArray fun v w => ∃ r0, v = Sl.val r0 ∧ k r0 w
def slices_Index_s_api_Tag_api_Tag.call (s0 : Sl) (v1 : (Array Value)) (k : Int → K) : K := CallF Try.prog 58 [(Sl.val s0), (.agg v1)].toArray fun v w => ∃ r0, v = (Value.int .i64) r0 ∧ k r0 w
def slices_Contains_s_api_Tag_api_Tag.call (s0 : Sl) (v1 : (Array Value)) (k : Bool → K) : K := CallF Try.prog 59 [(Sl.val s0), (.agg v1)].toArray fun v w => ∃ r0, v = Value.bool r0 ∧ k r0 w
def slices_DeleteFunc_s_locks_claim_locks_claim.call (s0 : Sl) (del1 : Value) (k : Sl → K) : K := CallF Try.prog 60 [(Sl.val s0), del1].toArray fun v w => ∃ r0, v = Sl.val r0 ∧ k r0 w
def slices_DeleteFunc_s_string_string.call (s0 : Sl) (del1 : Value) (k : Sl → K) : K := CallF Try.prog 61 [(Sl.val s0), del1].toArray fun v w => ∃ r0, v = Sl.val r0 ∧ k r0 w
def slices_Sorted_string.call (seq0 : Value) (k : Sl → K) : K := CallF Try.prog 62 [seq0].toArray fun v w => ∃ r0, v = Sl.val r0 ∧ k r0 w
def maps_Keys_map_string_locks_gate_string_locks_gate.call (m0 : (Option Nat)) (k : Value → K) : K := CallF Try.prog 63 [(.map m0)].toArray fun v w => ∃ r0, v = id r0 ∧ k r0 w
def locks_Locks_Keys_1.call (key0 : ByteArray) (t1 : Addr) (k : Bool → K) : K := CallF Try.prog 64 [(.string key0), (.pointer (some t1))].toArray fun v w => ∃ r0, v = Value.bool r0 ∧ k r0 w
def wal_Log_load.call (l0 : (Option Addr)) (k : Int → K) : K := CallF Try.prog 65 [(.pointer l0)].toArray fun v w => ∃ r0, v = (Value.int .i64) r0 ∧ k r0 w
def wal_Log_file.call (l0 : (Option Addr)) (part1 : Int) (k : ByteArray → K) : K := CallF Try.prog 66 [(.pointer l0), (.int .i64 part1)].toArray fun v w => ∃ r0, v = Value.string r0 ∧ k r0 w
def slices_Clone_s_byte_byte.call (s0 : Sl) (k : Sl → K) : K := CallF Try.prog 67 [(Sl.val s0)].toArray fun v w => ∃ r0, v = Sl.val r0 ∧ k r0 w
def code_Frame.call (body0 : Sl) (k : Sl → Int → K) : K := CallF Try.prog 68 [(Sl.val body0)].toArray fun v w => ∃ r0 r1, v = .tuple #[Sl.val r0, (Value.int .i64) r1] ∧ k r0 r1 w
def disk_Disk_Names.call (d0 : (Option Addr)) (k : Sl → K) : K := CallF Try.prog 69 [(.pointer d0)].toArray fun v w => ∃ r0, v = Sl.val r0 ∧ k r0 w
def disk_named.call (name0 : ByteArray) (k : Bool → K) : K := CallF Try.prog 70 [(.string name0)].toArray fun v w => ∃ r0, v = Value.bool r0 ∧ k r0 w
def disk_Disk_Used.call (d0 : (Option Addr)) (k : Int → K) : K := CallF Try.prog 71 [(.pointer d0)].toArray fun v w => ∃ r0, v = (Value.int .i64) r0 ∧ k r0 w
def disk_Disk_change.call (d0 : (Option Addr)) (k : Int → K) : K := CallF Try.prog 72 [(.pointer d0)].toArray fun v w => ∃ r0, v = (Value.int .i64) r0 ∧ k r0 w
def disk_Disk_find.call (d0 : (Option Addr)) (name1 : ByteArray) (k : (Option Addr) → Int → K) : K := CallF Try.prog 73 [(.pointer d0), (.string name1)].toArray fun v w => ∃ r0 r1, v = .tuple #[Value.pointer r0, (Value.int .i64) r1] ∧ k r0 r1 w
def ref01_Frame.call (body0 : Sl) (k : Sl → Int → K) : K := CallF Try.prog 74 [(Sl.val body0)].toArray fun v w => ∃ r0 r1, v = .tuple #[Sl.val r0, (Value.int .i64) r1] ∧ k r0 r1 w
def slices_Contains_s_string_string.call (s0 : Sl) (v1 : ByteArray) (k : Bool → K) : K := CallF Try.prog 75 [(Sl.val s0), (.string v1)].toArray fun v w => ∃ r0, v = Value.bool r0 ∧ k r0 w
def filter_Region.call (region0 : Int) (k : (Option Addr) → K) : K := CallF Try.prog 76 [(.int .i64 region0)].toArray fun v w => ∃ r0, v = Value.pointer r0 ∧ k r0 w
def prog_Check.call (t0 : (Array Value)) (regions1 : Int) (k : Int → K) : K := CallF Try.prog 77 [(.agg t0), (.int .i64 regions1)].toArray fun v w => ∃ r0, v = (Value.int .i64) r0 ∧ k r0 w
def prog_Copy.call (t0 : (Array Value)) (k : (Array Value) → K) : K := CallF Try.prog 78 [(.agg t0)].toArray fun v w => ∃ r0, v = Value.agg r0 ∧ k r0 w
def sched_Sched_Make.call (s0 : (Option Addr)) (tag1 : (Array Value)) (t2 : (Array Value)) (k : (Array Value) → K) : K := CallF Try.prog 79 [(.pointer s0), (.agg tag1), (.agg t2)].toArray fun v w => ∃ r0, v = Value.agg r0 ∧ k r0 w
def order_Copy.call (o0 : (Array Value)) (k : (Array Value) → K) : K := CallF Try.prog 80 [(.agg o0)].toArray fun v w => ∃ r0, v = Value.agg r0 ∧ k r0 w
def front_Front_find.call (f0 : (Option Addr)) (tag1 : (Array Value)) (k : Int → K) : K := CallF Try.prog 81 [(.pointer f0), (.agg tag1)].toArray fun v w => ∃ r0, v = (Value.int .i64) r0 ∧ k r0 w
def slices_Clone_s_api_Out_api_Out.call (s0 : Sl) (k : Sl → K) : K := CallF Try.prog 82 [(Sl.val s0)].toArray fun v w => ∃ r0, v = Sl.val r0 ∧ k r0 w
def bytes_Clone.call (b0 : Sl) (k : Sl → K) : K := CallF Try.prog 83 [(Sl.val b0)].toArray fun v w => ∃ r0, v = Sl.val r0 ∧ k r0 w
def front_Front_answer.call (f0 : (Option Addr)) (at1 : Int) (r2 : (Array Value)) (k : (Array Value) → Bool → K) : K := CallF Try.prog 84 [(.pointer f0), (.int .i64 at1), (.agg r2)].toArray fun v w => ∃ r0 r1, v = .tuple #[Value.agg r0, Value.bool r1] ∧ k r0 r1 w
def eval_run_move.call (r0 : (Option Addr)) (t1 : (Array Value)) (k : Int → K) : K := CallF Try.prog 85 [(.pointer r0), (.agg t1)].toArray fun v w => ∃ r0, v = (Value.int .i64) r0 ∧ k r0 w
def eval_run_step.call (r0 : (Option Addr)) (o1 : (Array Value)) (k : Int → K) : K := CallF Try.prog 86 [(.pointer r0), (.agg o1)].toArray fun v w => ∃ r0, v = (Value.int .i64) r0 ∧ k r0 w
def maps_Keys_map_string_api_Record_string_api_Record.call (m0 : (Option Nat)) (k : Value → K) : K := CallF Try.prog 87 [(.map m0)].toArray fun v w => ∃ r0, v = id r0 ∧ k r0 w
def locks_of_1.call (c0 : (Array Value)) (t1 : Addr) (k : Bool → K) : K := CallF Try.prog 88 [(.agg c0), (.pointer (some t1))].toArray fun v w => ∃ r0, v = Value.bool r0 ∧ k r0 w
def btree_Tree_string_api_Record_Get.call (t0 : (Option Addr)) (key1 : ByteArray) (k : (Array Value) → Bool → K) : K := CallF Try.prog 89 [(.pointer t0), (.string key1)].toArray fun v w => ∃ r0 r1, v = .tuple #[Value.agg r0, Value.bool r1] ∧ k r0 r1 w
def store_Default.call (key0 : ByteArray) (regions1 : Int) (k : Int → K) : K := CallF Try.prog 90 [(.string key0), (.int .i64 regions1)].toArray fun v w => ∃ r0, v = (Value.int .i64) r0 ∧ k r0 w
def locks_tags.call (list0 : Sl) (k : Sl → K) : K := CallF Try.prog 91 [(Sl.val list0)].toArray fun v w => ∃ r0, v = Sl.val r0 ∧ k r0 w
def slices_IndexFunc_s_string_string.call (s0 : Sl) (f1 : Value) (k : Int → K) : K := CallF Try.prog 92 [(Sl.val s0), f1].toArray fun v w => ∃ r0, v = (Value.int .i64) r0 ∧ k r0 w
def slices_Collect_string.call (seq0 : Value) (k : Sl → K) : K := CallF Try.prog 93 [seq0].toArray fun v w => ∃ r0, v = Sl.val r0 ∧ k r0 w
def slices_Sort_s_string_string.call (x0 : Sl) (k : K) : K := CallF Try.prog 94 [(Sl.val x0)].toArray fun v w => v = .tuple #[] ∧ k w
def maps_Keys_map_string_locks_gate_string_locks_gate_1.call (yield0 : Value) (t1 : Addr) (k : K) : K := CallF Try.prog 95 [yield0, (.pointer (some t1))].toArray fun v w => v = .tuple #[] ∧ k w
def wal_Log_parse.call (l0 : (Option Addr)) (data1 : Sl) (k : Int → K) : K := CallF Try.prog 96 [(.pointer l0), (Sl.val data1)].toArray fun v w => ∃ r0, v = (Value.int .i64) r0 ∧ k r0 w
def disk_Disk_Cut.call (d0 : (Option Addr)) (name1 : ByteArray) (n2 : Int) (k : Int → K) : K := CallF Try.prog 97 [(.pointer d0), (.string name1), (.int .i64 n2)].toArray fun v w => ∃ r0, v = (Value.int .i64) r0 ∧ k r0 w
def disk_Disk_Remove.call (d0 : (Option Addr)) (name1 : ByteArray) (k : Int → K) : K := CallF Try.prog 98 [(.pointer d0), (.string name1)].toArray fun v w => ∃ r0, v = (Value.int .i64) r0 ∧ k r0 w
def code_sealed.call (body0 : Sl) (k : Int → K) : K := CallF Try.prog 99 [(Sl.val body0)].toArray fun v w => ∃ r0, v = (Value.int .u32) r0 ∧ k r0 w
def maps_Keys_map_string_disk_file_string_disk_file.call (m0 : (Option Nat)) (k : Value → K) : K := CallF Try.prog 100 [(.map m0)].toArray fun v w => ∃ r0, v = id r0 ∧ k r0 w
def ref01_Sum.call (b0 : Sl) (k : Int → K) : K := CallF Try.prog 101 [(Sl.val b0)].toArray fun v w => ∃ r0, v = (Value.int .u32) r0 ∧ k r0 w
def slices_Index_s_string_string.call (s0 : Sl) (v1 : ByteArray) (k : Int → K) : K := CallF Try.prog 102 [(Sl.val s0), (.string v1)].toArray fun v w => ∃ r0, v = (Value.int .i64) r0 ∧ k r0 w
def prog_declared.call (t0 : (Array Value)) (k : Bool → K) : K := CallF Try.prog 103 [(.agg t0)].toArray fun v w => ∃ r0, v = Value.bool r0 ∧ k r0 w
def prog_Check_1.call (o0 : (Array Value)) (t1 : Addr) (k : Bool → K) : K := CallF Try.prog 104 [(.agg o0), (.pointer (some t1))].toArray fun v w => ∃ r0, v = Value.bool r0 ∧ k r0 w
def prog_step.call (t0 : (Array Value)) (o1 : (Array Value)) (k : Bool → K) : K := CallF Try.prog 105 [(.agg t0), (.agg o1)].toArray fun v w => ∃ r0, v = Value.bool r0 ∧ k r0 w
def slices_ContainsFunc_s_api_Op_api_Op.call (s0 : Sl) (f1 : Value) (k : Bool → K) : K := CallF Try.prog 106 [(Sl.val s0), f1].toArray fun v w => ∃ r0, v = Value.bool r0 ∧ k r0 w
def slices_Clone_s_string_string.call (s0 : Sl) (k : Sl → K) : K := CallF Try.prog 107 [(Sl.val s0)].toArray fun v w => ∃ r0, v = Sl.val r0 ∧ k r0 w
def slices_Clone_s_api_Op_api_Op.call (s0 : Sl) (k : Sl → K) : K := CallF Try.prog 108 [(Sl.val s0)].toArray fun v w => ∃ r0, v = Sl.val r0 ∧ k r0 w
def route_Make.call (s0 : (Option Addr)) (tag1 : (Array Value)) (t2 : (Array Value)) (k : (Array Value) → K) : K := CallF Try.prog 109 [(.pointer s0), (.agg tag1), (.agg t2)].toArray fun v w => ∃ r0, v = Value.agg r0 ∧ k r0 w
def slices_Clone_s_api_Mark_api_Mark.call (s0 : Sl) (k : Sl → K) : K := CallF Try.prog 110 [(Sl.val s0)].toArray fun v w => ∃ r0, v = Sl.val r0 ∧ k r0 w
def slices_IndexFunc_s_front_entry_front_entry.call (s0 : Sl) (f1 : Value) (k : Int → K) : K := CallF Try.prog 111 [(Sl.val s0), f1].toArray fun v w => ∃ r0, v = (Value.int .i64) r0 ∧ k r0 w
def front_Front_find_1.call (e0 : (Option Addr)) (t1 : Addr) (k : Bool → K) : K := CallF Try.prog 112 [(.pointer e0), (.pointer (some t1))].toArray fun v w => ∃ r0, v = Value.bool r0 ∧ k r0 w
def slices_Delete_s_front_entry_front_entry.call (s0 : Sl) (i1 : Int) (j2 : Int) (k : Sl → K) : K := CallF Try.prog 113 [(Sl.val s0), (.int .i64 i1), (.int .i64 j2)].toArray fun v w => ∃ r0, v = Sl.val r0 ∧ k r0 w
def eval_run_get.call (r0 : (Option Addr)) (key1 : ByteArray) (k : (Array Value) → K) : K := CallF Try.prog 114 [(.pointer r0), (.string key1)].toArray fun v w => ∃ r0, v = Value.agg r0 ∧ k r0 w
def eval_run_set.call (r0 : (Option Addr)) (key1 : ByteArray) (has2 : Bool) (value3 : Sl) (k : K) : K := CallF Try.prog 115 [(.pointer r0), (.string key1), (.bool has2), (Sl.val value3)].toArray fun v w => v = .tuple #[] ∧ k w
def bytes_Equal.call (a0 : Sl) (b1 : Sl) (k : Bool → K) : K := CallF Try.prog 116 [(Sl.val a0), (Sl.val b1)].toArray fun v w => ∃ r0, v = Value.bool r0 ∧ k r0 w
def eval_run_add.call (r0 : (Option Addr)) (o1 : (Array Value)) (k : Int → K) : K := CallF Try.prog 117 [(.pointer r0), (.agg o1)].toArray fun v w => ∃ r0, v = (Value.int .i64) r0 ∧ k r0 w
def maps_Keys_map_string_api_Record_string_api_Record_1.call (yield0 : Value) (t1 : Addr) (k : K) : K := CallF Try.prog 118 [yield0, (.pointer (some t1))].toArray fun v w => v = .tuple #[] ∧ k w
def btree_node_string_api_Record_search.call (n0 : (Option Addr)) (key1 : ByteArray) (k : Int → Bool → K) : K := CallF Try.prog 119 [(.pointer n0), (.string key1)].toArray fun v w => ∃ r0 r1, v = .tuple #[(Value.int .i64) r0, Value.bool r1] ∧ k r0 r1 w
def slices_AppendSeq_s_string_string.call (s0 : Sl) (seq1 : Value) (k : Sl → K) : K := CallF Try.prog 120 [(Sl.val s0), seq1].toArray fun v w => ∃ r0, v = Sl.val r0 ∧ k r0 w
def slices_pdqsortOrdered_string.call (data0 : Sl) (a1 : Int) (b2 : Int) (limit3 : Int) (k : K) : K := CallF Try.prog 121 [(Sl.val data0), (.int .i64 a1), (.int .i64 b2), (.int .i64 limit3)].toArray fun v w => v = .tuple #[] ∧ k w
def math_bits_Len.call (x0 : Int) (k : Int → K) : K := CallF Try.prog 122 [(.int .u64 x0)].toArray fun v w => ∃ r0, v = (Value.int .i64) r0 ∧ k r0 w
def code_Unframe.call (data0 : Sl) (k : Sl → Int → Int → K) : K := CallF Try.prog 123 [(Sl.val data0)].toArray fun v w => ∃ r0 r1 r2, v = .tuple #[Sl.val r0, (Value.int .i64) r1, (Value.int .i64) r2] ∧ k r0 r1 r2 w
def code_Sum.call (b0 : Sl) (k : Int → K) : K := CallF Try.prog 124 [(Sl.val b0)].toArray fun v w => ∃ r0, v = (Value.int .u32) r0 ∧ k r0 w
def maps_Keys_map_string_disk_file_string_disk_file_1.call (yield0 : Value) (t1 : Addr) (k : K) : K := CallF Try.prog 125 [yield0, (.pointer (some t1))].toArray fun v w => v = .tuple #[] ∧ k w
def prog_rises.call (keys0 : Sl) (k : Bool → K) : K := CallF Try.prog 126 [(Sl.val keys0)].toArray fun v w => ∃ r0, v = Value.bool r0 ∧ k r0 w
def slices_ContainsFunc_s_string_string.call (s0 : Sl) (f1 : Value) (k : Bool → K) : K := CallF Try.prog 127 [(Sl.val s0), f1].toArray fun v w => ∃ r0, v = Value.bool r0 ∧ k r0 w
def prog_declared_1.call (k0 : ByteArray) (t1 : Addr) (k : Bool → K) : K := CallF Try.prog 128 [(.string k0), (.pointer (some t1))].toArray fun v w => ∃ r0, v = Value.bool r0 ∧ k r0 w
def slices_IndexFunc_s_api_Op_api_Op.call (s0 : Sl) (f1 : Value) (k : Int → K) : K := CallF Try.prog 129 [(Sl.val s0), f1].toArray fun v w => ∃ r0, v = (Value.int .i64) r0 ∧ k r0 w
def route_Marks.call (s0 : (Option Addr)) (t1 : (Array Value)) (k : Sl → K) : K := CallF Try.prog 130 [(.pointer s0), (.agg t1)].toArray fun v w => ∃ r0, v = Sl.val r0 ∧ k r0 w
def slices_BinarySearchFunc_s_btree_item_string_api_Record_btree_item_string_api_Record_string.call (x0 : Sl) (target1 : ByteArray) (cmp2 : Value) (k : Int → Bool → K) : K := CallF Try.prog 131 [(Sl.val x0), (.string target1), cmp2].toArray fun v w => ∃ r0 r1, v = .tuple #[(Value.int .i64) r0, Value.bool r1] ∧ k r0 r1 w
def btree_node_string_api_Record_search_1.call (x0 : (Array Value)) (k1 : ByteArray) (k : Int → K) : K := CallF Try.prog 132 [(.agg x0), (.string k1)].toArray fun v w => ∃ r0, v = (Value.int .i64) r0 ∧ k r0 w
def cmp_Compare_string.call (x0 : ByteArray) (y1 : ByteArray) (k : Int → K) : K := CallF Try.prog 133 [(.string x0), (.string y1)].toArray fun v w => ∃ r0, v = (Value.int .i64) r0 ∧ k r0 w
def slices_insertionSortOrdered_string.call (data0 : Sl) (a1 : Int) (b2 : Int) (k : K) : K := CallF Try.prog 134 [(Sl.val data0), (.int .i64 a1), (.int .i64 b2)].toArray fun v w => v = .tuple #[] ∧ k w
def slices_heapSortOrdered_string.call (data0 : Sl) (a1 : Int) (b2 : Int) (k : K) : K := CallF Try.prog 135 [(Sl.val data0), (.int .i64 a1), (.int .i64 b2)].toArray fun v w => v = .tuple #[] ∧ k w
def slices_breakPatternsOrdered_string.call (data0 : Sl) (a1 : Int) (b2 : Int) (k : K) : K := CallF Try.prog 136 [(Sl.val data0), (.int .i64 a1), (.int .i64 b2)].toArray fun v w => v = .tuple #[] ∧ k w
def slices_choosePivotOrdered_string.call (data0 : Sl) (a1 : Int) (b2 : Int) (k : Int → Int → K) : K := CallF Try.prog 137 [(Sl.val data0), (.int .i64 a1), (.int .i64 b2)].toArray fun v w => ∃ r0 r1, v = .tuple #[(Value.int .i64) r0, (Value.int .i64) r1] ∧ k r0 r1 w
def slices_reverseRangeOrdered_string.call (data0 : Sl) (a1 : Int) (b2 : Int) (k : K) : K := CallF Try.prog 138 [(Sl.val data0), (.int .i64 a1), (.int .i64 b2)].toArray fun v w => v = .tuple #[] ∧ k w
def slices_partialInsertionSortOrdered_string.call (data0 : Sl) (a1 : Int) (b2 : Int) (k : Bool → K) : K := CallF Try.prog 139 [(Sl.val data0), (.int .i64 a1), (.int .i64 b2)].toArray fun v w => ∃ r0, v = Value.bool r0 ∧ k r0 w
def cmp_Less_string.call (x0 : ByteArray) (y1 : ByteArray) (k : Bool → K) : K := CallF Try.prog 140 [(.string x0), (.string y1)].toArray fun v w => ∃ r0, v = Value.bool r0 ∧ k r0 w
def slices_partitionEqualOrdered_string.call (data0 : Sl) (a1 : Int) (b2 : Int) (pivot3 : Int) (k : Int → K) : K := CallF Try.prog 141 [(Sl.val data0), (.int .i64 a1), (.int .i64 b2), (.int .i64 pivot3)].toArray fun v w => ∃ r0, v = (Value.int .i64) r0 ∧ k r0 w
def slices_partitionOrdered_string.call (data0 : Sl) (a1 : Int) (b2 : Int) (pivot3 : Int) (k : Int → Bool → K) : K := CallF Try.prog 142 [(Sl.val data0), (.int .i64 a1), (.int .i64 b2), (.int .i64 pivot3)].toArray fun v w => ∃ r0 r1, v = .tuple #[(Value.int .i64) r0, Value.bool r1] ∧ k r0 r1 w
def math_bits_Len32.call (x0 : Int) (k : Int → K) : K := CallF Try.prog 143 [(.int .u32 x0)].toArray fun v w => ∃ r0, v = (Value.int .i64) r0 ∧ k r0 w
def math_bits_Len64.call (x0 : Int) (k : Int → K) : K := CallF Try.prog 144 [(.int .u64 x0)].toArray fun v w => ∃ r0, v = (Value.int .i64) r0 ∧ k r0 w
def slices_Equal_s_byte_byte.call (s0 : Sl) (s1 : Sl) (k : Bool → K) : K := CallF Try.prog 145 [(Sl.val s0), (Sl.val s1)].toArray fun v w => ∃ r0, v = Value.bool r0 ∧ k r0 w
def prog_Keys.call (t0 : (Array Value)) (k : Sl → K) : K := CallF Try.prog 146 [(.agg t0)].toArray fun v w => ∃ r0, v = Sl.val r0 ∧ k r0 w
def cmp_isNaN_string.call (x0 : ByteArray) (k : Bool → K) : K := CallF Try.prog 147 [(.string x0)].toArray fun v w => ∃ r0, v = Value.bool r0 ∧ k r0 w
def slices_siftDownOrdered_string.call (data0 : Sl) (lo1 : Int) (hi2 : Int) (first3 : Int) (k : K) : K := CallF Try.prog 148 [(Sl.val data0), (.int .i64 lo1), (.int .i64 hi2), (.int .i64 first3)].toArray fun v w => v = .tuple #[] ∧ k w
def slices_nextPowerOfTwo.call (length0 : Int) (k : Int → K) : K := CallF Try.prog 149 [(.int .i64 length0)].toArray fun v w => ∃ r0, v = (Value.int .u64) r0 ∧ k r0 w
def slices_xorshift_Next.call (r0 : (Option Addr)) (k : Int → K) : K := CallF Try.prog 150 [(.pointer r0)].toArray fun v w => ∃ r0, v = (Value.int .u64) r0 ∧ k r0 w
def slices_medianAdjacentOrdered_string.call (data0 : Sl) (a1 : Int) (swaps2 : (Option Addr)) (k : Int → K) : K := CallF Try.prog 151 [(Sl.val data0), (.int .i64 a1), (.pointer swaps2)].toArray fun v w => ∃ r0, v = (Value.int .i64) r0 ∧ k r0 w
def slices_medianOrdered_string.call (data0 : Sl) (a1 : Int) (b2 : Int) (c3 : Int) (swaps4 : (Option Addr)) (k : Int → K) : K := CallF Try.prog 152 [(Sl.val data0), (.int .i64 a1), (.int .i64 b2), (.int .i64 c3), (.pointer swaps4)].toArray fun v w => ∃ r0, v = (Value.int .i64) r0 ∧ k r0 w
def slices_Concat_s_string_string.call (slices0 : Sl) (k : Sl → K) : K := CallF Try.prog 153 [(Sl.val slices0)].toArray fun v w => ∃ r0, v = Sl.val r0 ∧ k r0 w
def slices_Compact_s_string_string.call (s0 : Sl) (k : Sl → K) : K := CallF Try.prog 154 [(Sl.val s0)].toArray fun v w => ∃ r0, v = Sl.val r0 ∧ k r0 w
def slices_order2Ordered_string.call (data0 : Sl) (a1 : Int) (b2 : Int) (swaps3 : (Option Addr)) (k : Int → Int → K) : K := CallF Try.prog 155 [(Sl.val data0), (.int .i64 a1), (.int .i64 b2), (.pointer swaps3)].toArray fun v w => ∃ r0 r1, v = .tuple #[(Value.int .i64) r0, (Value.int .i64) r1] ∧ k r0 r1 w
def slices_Grow_s_string_string.call (s0 : Sl) (n1 : Int) (k : Sl → K) : K := CallF Try.prog 156 [(Sl.val s0), (.int .i64 n1)].toArray fun v w => ∃ r0, v = Sl.val r0 ∧ k r0 w
end Go.Proofs.Ytdpepgjbambinaa
