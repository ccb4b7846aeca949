/- The calls of the program's functions, by name. -/
import Derived.Test.YtgnkminakongkaaTypes
namespace Go.Proofs.Ytgnkminakongkaa
open Go Go.Sep
set_option linter.unusedVariables false
set_option linter.unusedSimpArgs false
def law10_RouteOnce.call (moves0 : Sl) (key1 : ByteArray) (k : Bool → K) : K := CallF Try.prog 3 [(Sl.val moves0), (.string key1)].toArray fun v w => ∃ r0, v = Value.bool r0 ∧ k r0 w
def law03_DiskLasts.call (before0 : Sl) (behind1 : Sl) (keeps2 : Sl) (k : Bool → K) : K := CallF Try.prog 4 [(Sl.val before0), (Sl.val behind1), (Sl.val keeps2)].toArray fun v w => ∃ r0, v = Value.bool r0 ∧ k r0 w
def law03_DiskRoom.call (room0 : Int) (script1 : Sl) (k : Bool → K) : K := CallF Try.prog 5 [(.int .i64 room0), (Sl.val script1)].toArray fun v w => ∃ r0, v = Value.bool r0 ∧ k r0 w
def law03_DiskApart.call (script0 : Sl) (keeps1 : Sl) (k : Bool → K) : K := CallF Try.prog 6 [(Sl.val script0), (Sl.val keeps1)].toArray fun v w => ∃ r0, v = Value.bool r0 ∧ k r0 w
def law03_DiskTwice.call (script0 : Sl) (first1 : Sl) (second2 : Sl) (k : Bool → K) : K := CallF Try.prog 7 [(Sl.val script0), (Sl.val first1), (Sl.val second2)].toArray fun v w => ∃ r0, v = Value.bool r0 ∧ k r0 w
def law03_DiskRenames.call (files0 : (Array Value)) (calls1 : Int) (keeps2 : Sl) (k : Bool → K) : K := CallF Try.prog 8 [(.agg files0), (.int .i64 calls1), (Sl.val keeps2)].toArray fun v w => ∃ r0, v = Value.bool r0 ∧ k r0 w
def law03_DiskStops.call (script0 : Sl) (n1 : Int) (k : Bool → K) : K := CallF Try.prog 9 [(Sl.val script0), (.int .i64 n1)].toArray fun v w => ∃ r0, v = Value.bool r0 ∧ k r0 w
def law03_DiskPlays.call (room0 : Int) (script1 : Sl) (k : Bool → K) : K := CallF Try.prog 10 [(.int .i64 room0), (Sl.val script1)].toArray fun v w => ∃ r0, v = Value.bool r0 ∧ k r0 w
def law08_SnapBeside.call (a0 : Sl) (b1 : Sl) (k : Bool → K) : K := CallF Try.prog 11 [(Sl.val a0), (Sl.val b1)].toArray fun v w => ∃ r0, v = Value.bool r0 ∧ k r0 w
def law08_SnapPlays.call (room0 : Int) (script1 : Sl) (k : Bool → K) : K := CallF Try.prog 12 [(.int .i64 room0), (Sl.val script1)].toArray fun v w => ∃ r0, v = Value.bool r0 ∧ k r0 w
def law08_SnapAtomic.call (bodies0 : (Array Value)) (calls1 : Int) (keeps2 : Sl) (k : Bool → K) : K := CallF Try.prog 13 [(.agg bodies0), (.int .i64 calls1), (Sl.val keeps2)].toArray fun v w => ∃ r0, v = Value.bool r0 ∧ k r0 w
def law10_speaks.call  (k : Bool → K) : K := CallF Try.prog 14 [].toArray fun v w => ∃ r0, v = Value.bool r0 ∧ k r0 w
def law10_great.call (moves0 : Sl) (k : Bool → K) : K := CallF Try.prog 15 [(Sl.val moves0)].toArray fun v w => ∃ r0, v = Value.bool r0 ∧ k r0 w
def store_New.call (regions0 : Int) (k : (Option Addr) → Int → K) : K := CallF Try.prog 16 [(.int .i64 regions0)].toArray fun v w => ∃ r0 r1, v = .tuple #[Value.pointer r0, (Value.int .i64) r1] ∧ k r0 r1 w
def store_Store_Get.call (s0 : (Option Addr)) (key1 : ByteArray) (k : (Array Value) → K) : K := CallF Try.prog 17 [(.pointer s0), (.string key1)].toArray fun v w => ∃ r0, v = Value.agg r0 ∧ k r0 w
def store_Store_Move.call (s0 : (Option Addr)) (key1 : ByteArray) (home2 : Int) (k : Int → K) : K := CallF Try.prog 18 [(.pointer s0), (.string key1), (.int .i64 home2)].toArray fun v w => ∃ r0, v = (Value.int .i64) r0 ∧ k r0 w
def route_Look.call (r0 : (Array Value)) (m1 : (Array Value)) (k : Int → K) : K := CallF Try.prog 19 [(.agg r0), (.agg m1)].toArray fun v w => ∃ r0, v = (Value.int .i64) r0 ∧ k r0 w
def law03_speaks.call  (k : Bool → K) : K := CallF Try.prog 20 [].toArray fun v w => ∃ r0, v = Value.bool r0 ∧ k r0 w
def disk_New.call (room0 : Int) (k : (Option Addr) → Int → K) : K := CallF Try.prog 21 [(.int .i64 room0)].toArray fun v w => ∃ r0 r1, v = .tuple #[Value.pointer r0, (Value.int .i64) r1] ∧ k r0 r1 w
def disk_Disk_Append.call (d0 : (Option Addr)) (name1 : ByteArray) (data2 : Sl) (k : Int → K) : K := CallF Try.prog 22 [(.pointer d0), (.string name1), (Sl.val data2)].toArray fun v w => ∃ r0, v = (Value.int .i64) r0 ∧ k r0 w
def disk_Disk_Sync.call (d0 : (Option Addr)) (name1 : ByteArray) (k : Int → K) : K := CallF Try.prog 23 [(.pointer d0), (.string name1)].toArray fun v w => ∃ r0, v = (Value.int .i64) r0 ∧ k r0 w
def disk_Disk_Crash.call (d0 : (Option Addr)) (keeps1 : Sl) (k : (Option Addr) → K) : K := CallF Try.prog 24 [(.pointer d0), (Sl.val keeps1)].toArray fun v w => ∃ r0, v = Value.pointer r0 ∧ k r0 w
def disk_Disk_Read.call (d0 : (Option Addr)) (name1 : ByteArray) (k : Sl → Int → K) : K := CallF Try.prog 25 [(.pointer d0), (.string name1)].toArray fun v w => ∃ r0 r1, v = .tuple #[Sl.val r0, (Value.int .i64) r1] ∧ k r0 r1 w
def law03_great.call (script0 : Sl) (k : Bool → K) : K := CallF Try.prog 26 [(Sl.val script0)].toArray fun v w => ∃ r0, v = Value.bool r0 ∧ k r0 w
def disk_Disk_Used.call (d0 : (Option Addr)) (k : Int → K) : K := CallF Try.prog 27 [(.pointer d0)].toArray fun v w => ∃ r0, v = (Value.int .i64) r0 ∧ k r0 w
def disk_Disk_Names.call (d0 : (Option Addr)) (k : Sl → K) : K := CallF Try.prog 28 [(.pointer d0)].toArray fun v w => ∃ r0, v = Sl.val r0 ∧ k r0 w
def law03_renames.call (old0 : Sl) (next1 : Sl) (calls2 : Int) (keeps3 : Sl) (k : Bool → K) : K := CallF Try.prog 29 [(Sl.val old0), (Sl.val next1), (.int .i64 calls2), (Sl.val keeps3)].toArray fun v w => ∃ r0, v = Value.bool r0 ∧ k r0 w
def disk_Disk_Limit.call (d0 : (Option Addr)) (calls1 : Int) (k : K) : K := CallF Try.prog 30 [(.pointer d0), (.int .i64 calls1)].toArray fun v w => v = .tuple #[] ∧ k w
def disk_Disk_Rename.call (d0 : (Option Addr)) (from1 : ByteArray) (to2 : ByteArray) (k : Int → K) : K := CallF Try.prog 31 [(.pointer d0), (.string from1), (.string to2)].toArray fun v w => ∃ r0, v = (Value.int .i64) r0 ∧ k r0 w
def disk_Disk_Remove.call (d0 : (Option Addr)) (name1 : ByteArray) (k : Int → K) : K := CallF Try.prog 32 [(.pointer d0), (.string name1)].toArray fun v w => ∃ r0, v = (Value.int .i64) r0 ∧ k r0 w
def ref03_New.call (room0 : Int) (k : (Option Addr) → K) : K := CallF Try.prog 33 [(.int .i64 room0)].toArray fun v w => ∃ r0, v = Value.pointer r0 ∧ k r0 w
def law03_same.call (d0 : (Option Addr)) (m1 : (Option Addr)) (k : Bool → K) : K := CallF Try.prog 34 [(.pointer d0), (.pointer m1)].toArray fun v w => ∃ r0, v = Value.bool r0 ∧ k r0 w
def ref03_Disk_Crash.call (d0 : (Option Addr)) (keeps1 : Sl) (k : (Option Addr) → K) : K := CallF Try.prog 35 [(.pointer d0), (Sl.val keeps1)].toArray fun v w => ∃ r0, v = Value.pointer r0 ∧ k r0 w
def law03_step.call (d0 : (Option Addr)) (m1 : (Option Addr)) (o2 : (Array Value)) (k : Bool → K) : K := CallF Try.prog 36 [(.pointer d0), (.pointer m1), (.agg o2)].toArray fun v w => ∃ r0, v = Value.bool r0 ∧ k r0 w
def law08_speaks.call  (k : Bool → K) : K := CallF Try.prog 37 [].toArray fun v w => ∃ r0, v = Value.bool r0 ∧ k r0 w
def snap_Save.call (d0 : (Option Addr)) (name1 : ByteArray) (body2 : Sl) (k : Int → K) : K := CallF Try.prog 38 [(.pointer d0), (.string name1), (Sl.val body2)].toArray fun v w => ∃ r0, v = (Value.int .i64) r0 ∧ k r0 w
def snap_Load.call (d0 : (Option Addr)) (name1 : ByteArray) (k : Sl → Int → K) : K := CallF Try.prog 39 [(.pointer d0), (.string name1)].toArray fun v w => ∃ r0 r1, v = .tuple #[Sl.val r0, (Value.int .i64) r1] ∧ k r0 r1 w
def law08_great.call (script0 : Sl) (k : Bool → K) : K := CallF Try.prog 40 [(Sl.val script0)].toArray fun v w => ∃ r0, v = Value.bool r0 ∧ k r0 w
def ref03_Disk_Limit.call (d0 : (Option Addr)) (calls1 : Int) (k : K) : K := CallF Try.prog 41 [(.pointer d0), (.int .i64 calls1)].toArray fun v w => v = .tuple #[] ∧ k w
def ref08_Save.call (d0 : (Option Addr)) (name1 : ByteArray) (body2 : Sl) (k : Int → K) : K := CallF Try.prog 42 [(.pointer d0), (.string name1), (Sl.val body2)].toArray fun v w => ∃ r0, v = (Value.int .i64) r0 ∧ k r0 w
def ref08_Load.call (d0 : (Option Addr)) (name1 : ByteArray) (k : Sl → Int → K) : K := CallF Try.prog 43 [(.pointer d0), (.string name1)].toArray fun v w => ∃ r0 r1, v = .tuple #[Sl.val r0, (Value.int .i64) r1] ∧ k r0 r1 w
def btree_New_string_api_Record.call  (k : (Option Addr) → K) : K := CallF Try.prog 44 [].toArray fun v w => ∃ r0, v = Value.pointer r0 ∧ k r0 w
def btree_Tree_string_api_Record_Get.call (t0 : (Option Addr)) (key1 : ByteArray) (k : (Array Value) → Bool → K) : K := CallF Try.prog 45 [(.pointer t0), (.string key1)].toArray fun v w => ∃ r0 r1, v = .tuple #[Value.agg r0, Value.bool r1] ∧ k r0 r1 w
def store_Default.call (key0 : ByteArray) (regions1 : Int) (k : Int → K) : K := CallF Try.prog 46 [(.string key0), (.int .i64 regions1)].toArray fun v w => ∃ r0, v = (Value.int .i64) r0 ∧ k r0 w
def bytes_Clone.call (b0 : Sl) (k : Sl → K) : K := CallF Try.prog 47 [(Sl.val b0)].toArray fun v w => ∃ r0, v = Sl.val r0 ∧ k r0 w
def store_Store_set.call (s0 : (Option Addr)) (key1 : ByteArray) (r2 : (Array Value)) (k : K) : K := CallF Try.prog 48 [(.pointer s0), (.string key1), (.agg r2)].toArray fun v w => v = .tuple #[] ∧ k w
def disk_named.call (name0 : ByteArray) (k : Bool → K) : K := CallF Try.prog 49 [(.string name0)].toArray fun v w => ∃ r0, v = Value.bool r0 ∧ k r0 w
def disk_Disk_change.call (d0 : (Option Addr)) (k : Int → K) : K := CallF Try.prog 50 [(.pointer d0)].toArray fun v w => ∃ r0, v = (Value.int .i64) r0 ∧ k r0 w
def disk_Disk_find.call (d0 : (Option Addr)) (name1 : ByteArray) (k : (Option Addr) → Int → K) : K := CallF Try.prog 51 [(.pointer d0), (.string name1)].toArray fun v w => ∃ r0 r1, v = .tuple #[Value.pointer r0, (Value.int .i64) r1] ∧ k r0 r1 w
def slices_Clone_s_byte_byte.call (s0 : Sl) (k : Sl → K) : K := CallF Try.prog 52 [(Sl.val s0)].toArray fun v w => ∃ r0, v = Sl.val r0 ∧ k r0 w
def slices_Sorted_string.call (seq0 : Value) (k : Sl → K) : K := CallF Try.prog 53 [seq0].toArray fun v w => ∃ r0, v = Sl.val r0 ∧ k r0 w
def maps_Keys_map_string_disk_file_string_disk_file.call (m0 : (Option Nat)) (k : Value → K) : K := CallF Try.prog 54 [(.map m0)].toArray fun v w => ∃ r0, v = id r0 ∧ k r0 w
def ref03_Disk_Used.call (d0 : (Option Addr)) (k : Int → K) : K := CallF Try.prog 55 [(.pointer d0)].toArray fun v w => ∃ r0, v = (Value.int .i64) r0 ∧ k r0 w
def ref03_Disk_Read.call (d0 : (Option Addr)) (name1 : ByteArray) (k : Sl → Int → K) : K := CallF Try.prog 56 [(.pointer d0), (.string name1)].toArray fun v w => ∃ r0 r1, v = .tuple #[Sl.val r0, (Value.int .i64) r1] ∧ k r0 r1 w
def law03_spoil.call (b0 : Sl) (k : K) : K := CallF Try.prog 57 [(Sl.val b0)].toArray fun v w => v = .tuple #[] ∧ k w
def ref03_Disk_Sync.call (d0 : (Option Addr)) (name1 : ByteArray) (k : Int → K) : K := CallF Try.prog 58 [(.pointer d0), (.string name1)].toArray fun v w => ∃ r0, v = (Value.int .i64) r0 ∧ k r0 w
def ref03_Disk_Rename.call (d0 : (Option Addr)) (from1 : ByteArray) (to2 : ByteArray) (k : Int → K) : K := CallF Try.prog 59 [(.pointer d0), (.string from1), (.string to2)].toArray fun v w => ∃ r0, v = (Value.int .i64) r0 ∧ k r0 w
def ref03_Disk_Remove.call (d0 : (Option Addr)) (name1 : ByteArray) (k : Int → K) : K := CallF Try.prog 60 [(.pointer d0), (.string name1)].toArray fun v w => ∃ r0, v = (Value.int .i64) r0 ∧ k r0 w
def disk_Disk_Cut.call (d0 : (Option Addr)) (name1 : ByteArray) (n2 : Int) (k : Int → K) : K := CallF Try.prog 61 [(.pointer d0), (.string name1), (.int .i64 n2)].toArray fun v w => ∃ r0, v = (Value.int .i64) r0 ∧ k r0 w
def ref03_Disk_Cut.call (d0 : (Option Addr)) (name1 : ByteArray) (n2 : Int) (k : Int → K) : K := CallF Try.prog 62 [(.pointer d0), (.string name1), (.int .i64 n2)].toArray fun v w => ∃ r0, v = (Value.int .i64) r0 ∧ k r0 w
def ref03_Disk_Append.call (d0 : (Option Addr)) (name1 : ByteArray) (data2 : Sl) (k : Int → K) : K := CallF Try.prog 63 [(.pointer d0), (.string name1), (Sl.val data2)].toArray fun v w => ∃ r0, v = (Value.int .i64) r0 ∧ k r0 w
def snap_Pack.call (body0 : Sl) (k : Sl → K) : K := CallF Try.prog 64 [(Sl.val body0)].toArray fun v w => ∃ r0, v = Sl.val r0 ∧ k r0 w
def snap_Unpack.call (data0 : Sl) (k : Sl → Int → K) : K := CallF Try.prog 65 [(Sl.val data0)].toArray fun v w => ∃ r0 r1, v = .tuple #[Sl.val r0, (Value.int .i64) r1] ∧ k r0 r1 w
def ref08_Pack.call (body0 : Sl) (k : Sl → K) : K := CallF Try.prog 66 [(Sl.val body0)].toArray fun v w => ∃ r0, v = Sl.val r0 ∧ k r0 w
def ref08_Unpack.call (data0 : Sl) (k : Sl → Int → K) : K := CallF Try.prog 67 [(Sl.val data0)].toArray fun v w => ∃ r0 r1, v = .tuple #[Sl.val r0, (Value.int .i64) r1] ∧ k r0 r1 w
def btree_node_string_api_Record_search.call (n0 : (Option Addr)) (key1 : ByteArray) (k : Int → Bool → K) : K := CallF Try.prog 68 [(.pointer n0), (.string key1)].toArray fun v w => ∃ r0 r1, v = .tuple #[(Value.int .i64) r0, Value.bool r1] ∧ k r0 r1 w
def btree_Tree_string_api_Record_Delete.call (t0 : (Option Addr)) (key1 : ByteArray) (k : (Array Value) → Bool → K) : K := CallF Try.prog 69 [(.pointer t0), (.string key1)].toArray fun v w => ∃ r0 r1, v = .tuple #[Value.agg r0, Value.bool r1] ∧ k r0 r1 w
def btree_Tree_string_api_Record_Put.call (t0 : (Option Addr)) (key1 : ByteArray) (value2 : (Array Value)) (k : (Array Value) → Bool → K) : K := CallF Try.prog 70 [(.pointer t0), (.string key1), (.agg value2)].toArray fun v w => ∃ r0 r1, v = .tuple #[Value.agg r0, Value.bool r1] ∧ k r0 r1 w
def slices_Collect_string.call (seq0 : Value) (k : Sl → K) : K := CallF Try.prog 71 [seq0].toArray fun v w => ∃ r0, v = Sl.val r0 ∧ k r0 w
def slices_Sort_s_string_string.call (x0 : Sl) (k : K) : K := CallF Try.prog 72 [(Sl.val x0)].toArray fun v w => v = .tuple #[] ∧ k w
def maps_Keys_map_string_disk_file_string_disk_file_1.call (yield0 : Value) (t1 : Addr) (k : K) : K := CallF Try.prog 73 [yield0, (.pointer (some t1))].toArray fun v w => v = .tuple #[] ∧ k w
def ref03_Disk_find.call (d0 : (Option Addr)) (name1 : ByteArray) (k : Int → Int → K) : K := CallF Try.prog 74 [(.pointer d0), (.string name1)].toArray fun v w => ∃ r0 r1, v = .tuple #[(Value.int .i64) r0, (Value.int .i64) r1] ∧ k r0 r1 w
def ref03_Disk_use.call (d0 : (Option Addr)) (k : Bool → K) : K := CallF Try.prog 75 [(.pointer d0)].toArray fun v w => ∃ r0, v = Value.bool r0 ∧ k r0 w
def ref03_Disk_drop.call (d0 : (Option Addr)) (name1 : ByteArray) (k : K) : K := CallF Try.prog 76 [(.pointer d0), (.string name1)].toArray fun v w => v = .tuple #[] ∧ k w
def ref03_Disk_put.call (d0 : (Option Addr)) (f1 : (Array Value)) (k : K) : K := CallF Try.prog 77 [(.pointer d0), (.agg f1)].toArray fun v w => v = .tuple #[] ∧ k w
def ref03_Disk_At.call (d0 : (Option Addr)) (name1 : ByteArray) (k : Int → K) : K := CallF Try.prog 78 [(.pointer d0), (.string name1)].toArray fun v w => ∃ r0, v = (Value.int .i64) r0 ∧ k r0 w
def code_Pen_Num.call (p0 : (Option Addr)) (n1 : Int) (k : K) : K := CallF Try.prog 79 [(.pointer p0), (.int .u64 n1)].toArray fun v w => v = .tuple #[] ∧ k w
def code_Frame.call (body0 : Sl) (k : Sl → Int → K) : K := CallF Try.prog 80 [(Sl.val body0)].toArray fun v w => ∃ r0 r1, v = .tuple #[Sl.val r0, (Value.int .i64) r1] ∧ k r0 r1 w
def code_Pen_Data.call (p0 : (Option Addr)) (k : Sl → K) : K := CallF Try.prog 81 [(.pointer p0)].toArray fun v w => ∃ r0, v = Sl.val r0 ∧ k r0 w
def slices_Chunk_s_byte_byte.call (s0 : Sl) (n1 : Int) (k : Value → K) : K := CallF Try.prog 82 [(Sl.val s0), (.int .i64 n1)].toArray fun v w => ∃ r0, v = id r0 ∧ k r0 w
def code_Unframe.call (data0 : Sl) (k : Sl → Int → Int → K) : K := CallF Try.prog 83 [(Sl.val data0)].toArray fun v w => ∃ r0 r1 r2, v = .tuple #[Sl.val r0, (Value.int .i64) r1, (Value.int .i64) r2] ∧ k r0 r1 r2 w
def slices_Equal_s_byte_byte.call (s0 : Sl) (s1 : Sl) (k : Bool → K) : K := CallF Try.prog 84 [(Sl.val s0), (Sl.val s1)].toArray fun v w => ∃ r0, v = Value.bool r0 ∧ k r0 w
def ref01_Frame.call (body0 : Sl) (k : Sl → Int → K) : K := CallF Try.prog 85 [(Sl.val body0)].toArray fun v w => ∃ r0 r1, v = .tuple #[Sl.val r0, (Value.int .i64) r1] ∧ k r0 r1 w
def ref01_Num.call (n0 : Int) (k : Sl → K) : K := CallF Try.prog 86 [(.int .u64 n0)].toArray fun v w => ∃ r0, v = Sl.val r0 ∧ k r0 w
def ref01_Unframe.call (data0 : Sl) (k : Sl → Int → Int → K) : K := CallF Try.prog 87 [(Sl.val data0)].toArray fun v w => ∃ r0 r1 r2, v = .tuple #[Sl.val r0, (Value.int .i64) r1, (Value.int .i64) r2] ∧ k r0 r1 r2 w
def ref01_Eye_Num.call (e0 : (Option Addr)) (k : Int → Int → K) : K := CallF Try.prog 88 [(.pointer e0)].toArray fun v w => ∃ r0 r1, v = .tuple #[(Value.int .u64) r0, (Value.int .i64) r1] ∧ k r0 r1 w
def ref01_Eye_End.call (e0 : (Option Addr)) (k : Int → K) : K := CallF Try.prog 89 [(.pointer e0)].toArray fun v w => ∃ r0, v = (Value.int .i64) r0 ∧ k r0 w
def slices_BinarySearchFunc_s_btree_item_string_api_Record_btree_item_string_api_Record_string.call (x0 : Sl) (target1 : ByteArray) (cmp2 : Value) (k : Int → Bool → K) : K := CallF Try.prog 90 [(Sl.val x0), (.string target1), cmp2].toArray fun v w => ∃ r0 r1, v = .tuple #[(Value.int .i64) r0, Value.bool r1] ∧ k r0 r1 w
def btree_node_string_api_Record_search_1.call (x0 : (Array Value)) (k1 : ByteArray) (k : Int → K) : K := CallF Try.prog 91 [(.agg x0), (.string k1)].toArray fun v w => ∃ r0, v = (Value.int .i64) r0 ∧ k r0 w
def cmp_Compare_string.call (x0 : ByteArray) (y1 : ByteArray) (k : Int → K) : K := CallF Try.prog 92 [(.string x0), (.string y1)].toArray fun v w => ∃ r0, v = (Value.int .i64) r0 ∧ k r0 w
def btree_node_string_api_Record_take.call (n0 : (Option Addr)) (key1 : ByteArray) (k : (Array Value) → Bool → K) : K := CallF Try.prog 93 [(.pointer n0), (.string key1)].toArray fun v w => ∃ r0 r1, v = .tuple #[Value.agg r0, Value.bool r1] ∧ k r0 r1 w
def btree_node_string_api_Record_put.call (n0 : (Option Addr)) (x1 : (Array Value)) (k : (Array Value) → Bool → (Option Addr) → (Option Addr) → K) : K := CallF Try.prog 94 [(.pointer n0), (.agg x1)].toArray fun v w => ∃ r0 r1 r2 r3, v = .tuple #[Value.agg r0, Value.bool r1, Value.pointer r2, Value.pointer r3] ∧ k r0 r1 r2 r3 w
def slices_AppendSeq_s_string_string.call (s0 : Sl) (seq1 : Value) (k : Sl → K) : K := CallF Try.prog 95 [(Sl.val s0), seq1].toArray fun v w => ∃ r0, v = Sl.val r0 ∧ k r0 w
def slices_pdqsortOrdered_string.call (data0 : Sl) (a1 : Int) (b2 : Int) (limit3 : Int) (k : K) : K := CallF Try.prog 96 [(Sl.val data0), (.int .i64 a1), (.int .i64 b2), (.int .i64 limit3)].toArray fun v w => v = .tuple #[] ∧ k w
def math_bits_Len.call (x0 : Int) (k : Int → K) : K := CallF Try.prog 97 [(.int .u64 x0)].toArray fun v w => ∃ r0, v = (Value.int .i64) r0 ∧ k r0 w
def code_sealed.call (body0 : Sl) (k : Int → K) : K := CallF Try.prog 98 [(Sl.val body0)].toArray fun v w => ∃ r0, v = (Value.int .u32) r0 ∧ k r0 w
def slices_Chunk_s_byte_byte_1.call (yield0 : Value) (t1 : Addr) (t2 : Addr) (k : K) : K := CallF Try.prog 99 [yield0, (.pointer (some t1)), (.pointer (some t2))].toArray fun v w => v = .tuple #[] ∧ k w
def ref01_Sum.call (b0 : Sl) (k : Int → K) : K := CallF Try.prog 100 [(Sl.val b0)].toArray fun v w => ∃ r0, v = (Value.int .u32) r0 ∧ k r0 w
def cmp_isNaN_string.call (x0 : ByteArray) (k : Bool → K) : K := CallF Try.prog 101 [(.string x0)].toArray fun v w => ∃ r0, v = Value.bool r0 ∧ k r0 w
def slices_Delete_s_btree_item_string_api_Record_btree_item_string_api_Record.call (s0 : Sl) (i1 : Int) (j2 : Int) (k : Sl → K) : K := CallF Try.prog 102 [(Sl.val s0), (.int .i64 i1), (.int .i64 j2)].toArray fun v w => ∃ r0, v = Sl.val r0 ∧ k r0 w
def btree_node_string_api_Record_last.call (n0 : (Option Addr)) (k : (Array Value) → K) : K := CallF Try.prog 103 [(.pointer n0)].toArray fun v w => ∃ r0, v = Value.agg r0 ∧ k r0 w
def btree_node_string_api_Record_mend.call (n0 : (Option Addr)) (i1 : Int) (k : K) : K := CallF Try.prog 104 [(.pointer n0), (.int .i64 i1)].toArray fun v w => v = .tuple #[] ∧ k w
def slices_Insert_s_btree_item_string_api_Record_btree_item_string_api_Record.call (s0 : Sl) (i1 : Int) (v2 : Sl) (k : Sl → K) : K := CallF Try.prog 105 [(Sl.val s0), (.int .i64 i1), (Sl.val v2)].toArray fun v w => ∃ r0, v = Sl.val r0 ∧ k r0 w
def slices_Insert_s_btree_node_string_api_Record_btree_node_string_api_Record.call (s0 : Sl) (i1 : Int) (v2 : Sl) (k : Sl → K) : K := CallF Try.prog 106 [(Sl.val s0), (.int .i64 i1), (Sl.val v2)].toArray fun v w => ∃ r0, v = Sl.val r0 ∧ k r0 w
def slices_Clone_s_btree_item_string_api_Record_btree_item_string_api_Record.call (s0 : Sl) (k : Sl → K) : K := CallF Try.prog 107 [(Sl.val s0)].toArray fun v w => ∃ r0, v = Sl.val r0 ∧ k r0 w
def slices_Clone_s_btree_node_string_api_Record_btree_node_string_api_Record.call (s0 : Sl) (k : Sl → K) : K := CallF Try.prog 108 [(Sl.val s0)].toArray fun v w => ∃ r0, v = Sl.val r0 ∧ k r0 w
def slices_insertionSortOrdered_string.call (data0 : Sl) (a1 : Int) (b2 : Int) (k : K) : K := CallF Try.prog 109 [(Sl.val data0), (.int .i64 a1), (.int .i64 b2)].toArray fun v w => v = .tuple #[] ∧ k w
def slices_heapSortOrdered_string.call (data0 : Sl) (a1 : Int) (b2 : Int) (k : K) : K := CallF Try.prog 110 [(Sl.val data0), (.int .i64 a1), (.int .i64 b2)].toArray fun v w => v = .tuple #[] ∧ k w
def slices_breakPatternsOrdered_string.call (data0 : Sl) (a1 : Int) (b2 : Int) (k : K) : K := CallF Try.prog 111 [(Sl.val data0), (.int .i64 a1), (.int .i64 b2)].toArray fun v w => v = .tuple #[] ∧ k w
def slices_choosePivotOrdered_string.call (data0 : Sl) (a1 : Int) (b2 : Int) (k : Int → Int → K) : K := CallF Try.prog 112 [(Sl.val data0), (.int .i64 a1), (.int .i64 b2)].toArray fun v w => ∃ r0 r1, v = .tuple #[(Value.int .i64) r0, (Value.int .i64) r1] ∧ k r0 r1 w
def slices_reverseRangeOrdered_string.call (data0 : Sl) (a1 : Int) (b2 : Int) (k : K) : K := CallF Try.prog 113 [(Sl.val data0), (.int .i64 a1), (.int .i64 b2)].toArray fun v w => v = .tuple #[] ∧ k w
def slices_partialInsertionSortOrdered_string.call (data0 : Sl) (a1 : Int) (b2 : Int) (k : Bool → K) : K := CallF Try.prog 114 [(Sl.val data0), (.int .i64 a1), (.int .i64 b2)].toArray fun v w => ∃ r0, v = Value.bool r0 ∧ k r0 w
def cmp_Less_string.call (x0 : ByteArray) (y1 : ByteArray) (k : Bool → K) : K := CallF Try.prog 115 [(.string x0), (.string y1)].toArray fun v w => ∃ r0, v = Value.bool r0 ∧ k r0 w
def slices_partitionEqualOrdered_string.call (data0 : Sl) (a1 : Int) (b2 : Int) (pivot3 : Int) (k : Int → K) : K := CallF Try.prog 116 [(Sl.val data0), (.int .i64 a1), (.int .i64 b2), (.int .i64 pivot3)].toArray fun v w => ∃ r0, v = (Value.int .i64) r0 ∧ k r0 w
def slices_partitionOrdered_string.call (data0 : Sl) (a1 : Int) (b2 : Int) (pivot3 : Int) (k : Int → Bool → K) : K := CallF Try.prog 117 [(Sl.val data0), (.int .i64 a1), (.int .i64 b2), (.int .i64 pivot3)].toArray fun v w => ∃ r0 r1, v = .tuple #[(Value.int .i64) r0, Value.bool r1] ∧ k r0 r1 w
def math_bits_Len32.call (x0 : Int) (k : Int → K) : K := CallF Try.prog 118 [(.int .u32 x0)].toArray fun v w => ∃ r0, v = (Value.int .i64) r0 ∧ k r0 w
def math_bits_Len64.call (x0 : Int) (k : Int → K) : K := CallF Try.prog 119 [(.int .u64 x0)].toArray fun v w => ∃ r0, v = (Value.int .i64) r0 ∧ k r0 w
def code_Sum.call (b0 : Sl) (k : Int → K) : K := CallF Try.prog 120 [(Sl.val b0)].toArray fun v w => ∃ r0, v = (Value.int .u32) r0 ∧ k r0 w
def slices_Delete_s_btree_node_string_api_Record_btree_node_string_api_Record.call (s0 : Sl) (i1 : Int) (j2 : Int) (k : Sl → K) : K := CallF Try.prog 121 [(Sl.val s0), (.int .i64 i1), (.int .i64 j2)].toArray fun v w => ∃ r0, v = Sl.val r0 ∧ k r0 w
def slices_rotateRight_btree_item_string_api_Record.call (s0 : Sl) (r1 : Int) (k : K) : K := CallF Try.prog 123 [(Sl.val s0), (.int .i64 r1)].toArray fun v w => v = .tuple #[] ∧ k w
def slices_rotateRight_btree_node_string_api_Record.call (s0 : Sl) (r1 : Int) (k : K) : K := CallF Try.prog 125 [(Sl.val s0), (.int .i64 r1)].toArray fun v w => v = .tuple #[] ∧ k w
def slices_siftDownOrdered_string.call (data0 : Sl) (lo1 : Int) (hi2 : Int) (first3 : Int) (k : K) : K := CallF Try.prog 126 [(Sl.val data0), (.int .i64 lo1), (.int .i64 hi2), (.int .i64 first3)].toArray fun v w => v = .tuple #[] ∧ k w
def slices_nextPowerOfTwo.call (length0 : Int) (k : Int → K) : K := CallF Try.prog 127 [(.int .i64 length0)].toArray fun v w => ∃ r0, v = (Value.int .u64) r0 ∧ k r0 w
def slices_xorshift_Next.call (r0 : (Option Addr)) (k : Int → K) : K := CallF Try.prog 128 [(.pointer r0)].toArray fun v w => ∃ r0, v = (Value.int .u64) r0 ∧ k r0 w
def slices_medianAdjacentOrdered_string.call (data0 : Sl) (a1 : Int) (swaps2 : (Option Addr)) (k : Int → K) : K := CallF Try.prog 129 [(Sl.val data0), (.int .i64 a1), (.pointer swaps2)].toArray fun v w => ∃ r0, v = (Value.int .i64) r0 ∧ k r0 w
def slices_medianOrdered_string.call (data0 : Sl) (a1 : Int) (b2 : Int) (c3 : Int) (swaps4 : (Option Addr)) (k : Int → K) : K := CallF Try.prog 130 [(Sl.val data0), (.int .i64 a1), (.int .i64 b2), (.int .i64 c3), (.pointer swaps4)].toArray fun v w => ∃ r0, v = (Value.int .i64) r0 ∧ k r0 w
def slices_rotateLeft_btree_item_string_api_Record.call (s0 : Sl) (r1 : Int) (k : K) : K := CallF Try.prog 131 [(Sl.val s0), (.int .i64 r1)].toArray fun v w => v = .tuple #[] ∧ k w
def slices_rotateLeft_btree_node_string_api_Record.call (s0 : Sl) (r1 : Int) (k : K) : K := CallF Try.prog 132 [(Sl.val s0), (.int .i64 r1)].toArray fun v w => v = .tuple #[] ∧ k w
def slices_order2Ordered_string.call (data0 : Sl) (a1 : Int) (b2 : Int) (swaps3 : (Option Addr)) (k : Int → Int → K) : K := CallF Try.prog 133 [(Sl.val data0), (.int .i64 a1), (.int .i64 b2), (.pointer swaps3)].toArray fun v w => ∃ r0 r1, v = .tuple #[(Value.int .i64) r0, (Value.int .i64) r1] ∧ k r0 r1 w
def slices_Reverse_s_btree_item_string_api_Record_btree_item_string_api_Record.call (s0 : Sl) (k : K) : K := CallF Try.prog 134 [(Sl.val s0)].toArray fun v w => v = .tuple #[] ∧ k w
def slices_Reverse_s_btree_node_string_api_Record_btree_node_string_api_Record.call (s0 : Sl) (k : K) : K := CallF Try.prog 135 [(Sl.val s0)].toArray fun v w => v = .tuple #[] ∧ k w
end Go.Proofs.Ytgnkminakongkaa
