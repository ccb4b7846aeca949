/- The calls of the program's functions, by name. -/
import Derived.Test.YtilejcnbacmdnaaTypes
namespace Go.Proofs.Ytilejcnbacmdnaa
open Go Go.Sep
set_option linter.unusedVariables false
set_option linter.unusedSimpArgs false
def law10_RouteLooks.call (r0 : (Array Value)) (m1 : (Array Value)) (k : Bool → K) : K := CallF Try.prog 3 [(.agg r0), (.agg m1)].toArray fun v w => ∃ r0, v = Value.bool r0 ∧ k r0 w
def law20_NetWhole.call (list0 : Sl) (copies1 : Sl) (k : Bool → K) : K := CallF Try.prog 4 [(Sl.val list0), (Sl.val copies1)].toArray fun v w => ∃ r0, v = Value.bool r0 ∧ k r0 w
def law20_NetPlays.call (script0 : Sl) (k : Bool → K) : K := CallF Try.prog 5 [(Sl.val script0)].toArray fun v w => ∃ r0, v = Value.bool r0 ∧ k r0 w
def law20_NetFirst.call (list0 : Sl) (drops1 : Sl) (k : Bool → K) : K := CallF Try.prog 6 [(Sl.val list0), (Sl.val drops1)].toArray fun v w => ∃ r0, v = Value.bool r0 ∧ k r0 w
def law19_LinkAgain.call (list0 : Sl) (picks1 : Sl) (k : Bool → K) : K := CallF Try.prog 7 [(Sl.val list0), (Sl.val picks1)].toArray fun v w => ∃ r0, v = Value.bool r0 ∧ k r0 w
def law19_LinkOrders.call (script0 : Sl) (k : Bool → K) : K := CallF Try.prog 8 [(Sl.val script0)].toArray fun v w => ∃ r0, v = Value.bool r0 ∧ k r0 w
def law19_LinkLives.call (epoch0 : Int) (list1 : Sl) (k : Bool → K) : K := CallF Try.prog 9 [(.int .u64 epoch0), (Sl.val list1)].toArray fun v w => ∃ r0, v = Value.bool r0 ∧ k r0 w
def law19_LinkRoom.call (n0 : Int) (acks1 : Sl) (k : Bool → K) : K := CallF Try.prog 10 [(.int .i64 n0), (Sl.val acks1)].toArray fun v w => ∃ r0, v = Value.bool r0 ∧ k r0 w
def law19_LinkPlays.call (epoch0 : Int) (script1 : Sl) (k : Bool → K) : K := CallF Try.prog 11 [(.int .u64 epoch0), (Sl.val script1)].toArray fun v w => ∃ r0, v = Value.bool r0 ∧ k r0 w
def law08_SnapPacks.call (body0 : Sl) (raw1 : Sl) (k : Bool → K) : K := CallF Try.prog 12 [(Sl.val body0), (Sl.val raw1)].toArray fun v w => ∃ r0, v = Value.bool r0 ∧ k r0 w
def law08_SnapUnlike.call (a0 : Sl) (b1 : Sl) (k2 : Int) (k : Bool → K) : K := CallF Try.prog 13 [(Sl.val a0), (Sl.val b1), (.int .i64 k2)].toArray fun v w => ∃ r0, v = Value.bool r0 ∧ k r0 w
def law10_speaks.call  (k : Bool → K) : K := CallF Try.prog 14 [].toArray fun v w => ∃ r0, v = Value.bool r0 ∧ k r0 w
def route_Look.call (r0 : (Array Value)) (m1 : (Array Value)) (k : Int → K) : K := CallF Try.prog 15 [(.agg r0), (.agg m1)].toArray fun v w => ∃ r0, v = (Value.int .i64) r0 ∧ k r0 w
def ref10_Look.call (r0 : (Array Value)) (m1 : (Array Value)) (k : Int → K) : K := CallF Try.prog 16 [(.agg r0), (.agg m1)].toArray fun v w => ∃ r0, v = (Value.int .i64) r0 ∧ k r0 w
def law20_speaks.call  (k : Bool → K) : K := CallF Try.prog 17 [].toArray fun v w => ∃ r0, v = Value.bool r0 ∧ k r0 w
def net_New.call  (k : (Option Addr) → K) : K := CallF Try.prog 18 [].toArray fun v w => ∃ r0, v = Value.pointer r0 ∧ k r0 w
def net_Net_Send.call (n0 : (Option Addr)) (p1 : (Array Value)) (k : Int → K) : K := CallF Try.prog 19 [(.pointer n0), (.agg p1)].toArray fun v w => ∃ r0, v = (Value.int .i64) r0 ∧ k r0 w
def net_Net_Copy.call (n0 : (Option Addr)) (k1 : Int) (k : Bool → K) : K := CallF Try.prog 20 [(.pointer n0), (.int .i64 k1)].toArray fun v w => ∃ r0, v = Value.bool r0 ∧ k r0 w
def net_Net_Len.call (n0 : (Option Addr)) (k : Int → K) : K := CallF Try.prog 21 [(.pointer n0)].toArray fun v w => ∃ r0, v = (Value.int .i64) r0 ∧ k r0 w
def net_Net_Take.call (n0 : (Option Addr)) (k1 : Int) (k : (Array Value) → Bool → K) : K := CallF Try.prog 22 [(.pointer n0), (.int .i64 k1)].toArray fun v w => ∃ r0 r1, v = .tuple #[Value.agg r0, Value.bool r1] ∧ k r0 r1 w
def ref20_Same.call (a0 : (Array Value)) (b1 : (Array Value)) (k : Bool → K) : K := CallF Try.prog 23 [(.agg a0), (.agg b1)].toArray fun v w => ∃ r0, v = Value.bool r0 ∧ k r0 w
def ref20_Net_Take.call (n0 : (Option Addr)) (k1 : Int) (k : (Array Value) → Bool → K) : K := CallF Try.prog 24 [(.pointer n0), (.int .i64 k1)].toArray fun v w => ∃ r0 r1, v = .tuple #[Value.agg r0, Value.bool r1] ∧ k r0 r1 w
def net_Net_Drop.call (n0 : (Option Addr)) (k1 : Int) (k : Bool → K) : K := CallF Try.prog 25 [(.pointer n0), (.int .i64 k1)].toArray fun v w => ∃ r0, v = Value.bool r0 ∧ k r0 w
def ref20_Net_Has.call (n0 : (Option Addr)) (k1 : Int) (k : Bool → K) : K := CallF Try.prog 26 [(.pointer n0), (.int .i64 k1)].toArray fun v w => ∃ r0, v = Value.bool r0 ∧ k r0 w
def ref20_Net_Send.call (n0 : (Option Addr)) (p1 : (Array Value)) (k : Bool → K) : K := CallF Try.prog 27 [(.pointer n0), (.agg p1)].toArray fun v w => ∃ r0, v = Value.bool r0 ∧ k r0 w
def law19_speaks.call  (k : Bool → K) : K := CallF Try.prog 28 [].toArray fun v w => ∃ r0, v = Value.bool r0 ∧ k r0 w
def link_New.call (epoch0 : Int) (k : (Option Addr) → K) : K := CallF Try.prog 29 [(.int .u64 epoch0)].toArray fun v w => ∃ r0, v = Value.pointer r0 ∧ k r0 w
def link_Link_Send.call (l0 : (Option Addr)) (data1 : Sl) (k : Int → K) : K := CallF Try.prog 30 [(.pointer l0), (Sl.val data1)].toArray fun v w => ∃ r0, v = (Value.int .i64) r0 ∧ k r0 w
def link_Link_Receive.call (l0 : (Option Addr)) (p1 : (Array Value)) (k : Sl → Sl → K) : K := CallF Try.prog 31 [(.pointer l0), (.agg p1)].toArray fun v w => ∃ r0 r1, v = .tuple #[Sl.val r0, Sl.val r1] ∧ k r0 r1 w
def link_Link_Packets.call (l0 : (Option Addr)) (k : Sl → K) : K := CallF Try.prog 32 [(.pointer l0)].toArray fun v w => ∃ r0, v = Sl.val r0 ∧ k r0 w
def ref19_SameData.call (a0 : Sl) (b1 : Sl) (k : Bool → K) : K := CallF Try.prog 33 [(Sl.val a0), (Sl.val b1)].toArray fun v w => ∃ r0, v = Value.bool r0 ∧ k r0 w
def law19_pair_step.call (p0 : (Option Addr)) (s1 : (Array Value)) (k : K) : K := CallF Try.prog 34 [(.pointer p0), (.agg s1)].toArray fun v w => v = .tuple #[] ∧ k w
def law19_pair_sound.call (p0 : (Option Addr)) (k : Bool → K) : K := CallF Try.prog 35 [(.pointer p0)].toArray fun v w => ∃ r0, v = Value.bool r0 ∧ k r0 w
def law19_pair_come.call (p0 : (Option Addr)) (side1 : Int) (x2 : (Array Value)) (k : K) : K := CallF Try.prog 36 [(.pointer p0), (.int .i64 side1), (.agg x2)].toArray fun v w => v = .tuple #[] ∧ k w
def link_Link_Open.call (l0 : (Option Addr)) (k : Int → K) : K := CallF Try.prog 37 [(.pointer l0)].toArray fun v w => ∃ r0, v = (Value.int .i64) r0 ∧ k r0 w
def link_Link_Peer.call (l0 : (Option Addr)) (k : Int → K) : K := CallF Try.prog 38 [(.pointer l0)].toArray fun v w => ∃ r0, v = (Value.int .u64) r0 ∧ k r0 w
def law19_great.call (script0 : Sl) (k : Bool → K) : K := CallF Try.prog 39 [(Sl.val script0)].toArray fun v w => ∃ r0, v = Value.bool r0 ∧ k r0 w
def ref19_New.call (epoch0 : Int) (k : (Option Addr) → K) : K := CallF Try.prog 40 [(.int .u64 epoch0)].toArray fun v w => ∃ r0, v = Value.pointer r0 ∧ k r0 w
def ref19_Link_Send.call (l0 : (Option Addr)) (data1 : Sl) (k : Int → K) : K := CallF Try.prog 41 [(.pointer l0), (Sl.val data1)].toArray fun v w => ∃ r0, v = (Value.int .i64) r0 ∧ k r0 w
def ref19_Link_Receive.call (l0 : (Option Addr)) (p1 : (Array Value)) (k : Sl → Sl → K) : K := CallF Try.prog 42 [(.pointer l0), (.agg p1)].toArray fun v w => ∃ r0 r1, v = .tuple #[Sl.val r0, Sl.val r1] ∧ k r0 r1 w
def ref19_SamePackets.call (a0 : Sl) (b1 : Sl) (k : Bool → K) : K := CallF Try.prog 43 [(Sl.val a0), (Sl.val b1)].toArray fun v w => ∃ r0, v = Value.bool r0 ∧ k r0 w
def ref19_Link_Packets.call (l0 : (Option Addr)) (k : Sl → K) : K := CallF Try.prog 44 [(.pointer l0)].toArray fun v w => ∃ r0, v = Sl.val r0 ∧ k r0 w
def law08_speaks.call  (k : Bool → K) : K := CallF Try.prog 45 [].toArray fun v w => ∃ r0, v = Value.bool r0 ∧ k r0 w
def snap_Pack.call (body0 : Sl) (k : Sl → K) : K := CallF Try.prog 46 [(Sl.val body0)].toArray fun v w => ∃ r0, v = Sl.val r0 ∧ k r0 w
def snap_Unpack.call (data0 : Sl) (k : Sl → Int → K) : K := CallF Try.prog 47 [(Sl.val data0)].toArray fun v w => ∃ r0 r1, v = .tuple #[Sl.val r0, (Value.int .i64) r1] ∧ k r0 r1 w
def ref08_Unpack.call (data0 : Sl) (k : Sl → Int → K) : K := CallF Try.prog 48 [(Sl.val data0)].toArray fun v w => ∃ r0 r1, v = .tuple #[Sl.val r0, (Value.int .i64) r1] ∧ k r0 r1 w
def ref08_Pack.call (body0 : Sl) (k : Sl → K) : K := CallF Try.prog 49 [(Sl.val body0)].toArray fun v w => ∃ r0, v = Sl.val r0 ∧ k r0 w
def net_copied.call (p0 : (Array Value)) (k : (Array Value) → K) : K := CallF Try.prog 50 [(.agg p0)].toArray fun v w => ∃ r0, v = Value.agg r0 ∧ k r0 w
def net_Net_has.call (n0 : (Option Addr)) (k1 : Int) (k : Bool → K) : K := CallF Try.prog 51 [(.pointer n0), (.int .i64 k1)].toArray fun v w => ∃ r0, v = Value.bool r0 ∧ k r0 w
def slices_Delete_s_api_Parcel_api_Parcel.call (s0 : Sl) (i1 : Int) (j2 : Int) (k : Sl → K) : K := CallF Try.prog 52 [(Sl.val s0), (.int .i64 i1), (.int .i64 j2)].toArray fun v w => ∃ r0, v = Sl.val r0 ∧ k r0 w
def bytes_Clone.call (b0 : Sl) (k : Sl → K) : K := CallF Try.prog 53 [(Sl.val b0)].toArray fun v w => ∃ r0, v = Sl.val r0 ∧ k r0 w
def link_Link_meet.call (l0 : (Option Addr)) (epoch1 : Int) (k : K) : K := CallF Try.prog 54 [(.pointer l0), (.int .u64 epoch1)].toArray fun v w => v = .tuple #[] ∧ k w
def link_Link_packet.call (l0 : (Option Addr)) (k : (Array Value) → K) : K := CallF Try.prog 55 [(.pointer l0)].toArray fun v w => ∃ r0, v = Value.agg r0 ∧ k r0 w
def link_Link_acknowledged.call (l0 : (Option Addr)) (ack1 : Int) (k : K) : K := CallF Try.prog 56 [(.pointer l0), (.int .u64 ack1)].toArray fun v w => v = .tuple #[] ∧ k w
def ref19_Link_at.call (l0 : (Option Addr)) (seq1 : Int) (k : Int → K) : K := CallF Try.prog 57 [(.pointer l0), (.int .u64 seq1)].toArray fun v w => ∃ r0, v = (Value.int .i64) r0 ∧ k r0 w
def code_Pen_Num.call (p0 : (Option Addr)) (n1 : Int) (k : K) : K := CallF Try.prog 58 [(.pointer p0), (.int .u64 n1)].toArray fun v w => v = .tuple #[] ∧ k w
def code_Frame.call (body0 : Sl) (k : Sl → Int → K) : K := CallF Try.prog 59 [(Sl.val body0)].toArray fun v w => ∃ r0 r1, v = .tuple #[Sl.val r0, (Value.int .i64) r1] ∧ k r0 r1 w
def code_Pen_Data.call (p0 : (Option Addr)) (k : Sl → K) : K := CallF Try.prog 60 [(.pointer p0)].toArray fun v w => ∃ r0, v = Sl.val r0 ∧ k r0 w
def slices_Chunk_s_byte_byte.call (s0 : Sl) (n1 : Int) (k : Value → K) : K := CallF Try.prog 61 [(Sl.val s0), (.int .i64 n1)].toArray fun v w => ∃ r0, v = id r0 ∧ k r0 w
def code_Unframe.call (data0 : Sl) (k : Sl → Int → Int → K) : K := CallF Try.prog 62 [(Sl.val data0)].toArray fun v w => ∃ r0 r1 r2, v = .tuple #[Sl.val r0, (Value.int .i64) r1, (Value.int .i64) r2] ∧ k r0 r1 r2 w
def slices_Equal_s_byte_byte.call (s0 : Sl) (s1 : Sl) (k : Bool → K) : K := CallF Try.prog 63 [(Sl.val s0), (Sl.val s1)].toArray fun v w => ∃ r0, v = Value.bool r0 ∧ k r0 w
def ref01_Unframe.call (data0 : Sl) (k : Sl → Int → Int → K) : K := CallF Try.prog 64 [(Sl.val data0)].toArray fun v w => ∃ r0 r1 r2, v = .tuple #[Sl.val r0, (Value.int .i64) r1, (Value.int .i64) r2] ∧ k r0 r1 r2 w
def ref01_Eye_Num.call (e0 : (Option Addr)) (k : Int → Int → K) : K := CallF Try.prog 65 [(.pointer e0)].toArray fun v w => ∃ r0 r1, v = .tuple #[(Value.int .u64) r0, (Value.int .i64) r1] ∧ k r0 r1 w
def ref01_Eye_End.call (e0 : (Option Addr)) (k : Int → K) : K := CallF Try.prog 66 [(.pointer e0)].toArray fun v w => ∃ r0, v = (Value.int .i64) r0 ∧ k r0 w
def ref01_Frame.call (body0 : Sl) (k : Sl → Int → K) : K := CallF Try.prog 67 [(Sl.val body0)].toArray fun v w => ∃ r0 r1, v = .tuple #[Sl.val r0, (Value.int .i64) r1] ∧ k r0 r1 w
def ref01_Num.call (n0 : Int) (k : Sl → K) : K := CallF Try.prog 68 [(.int .u64 n0)].toArray fun v w => ∃ r0, v = Sl.val r0 ∧ k r0 w
def code_sealed.call (body0 : Sl) (k : Int → K) : K := CallF Try.prog 69 [(Sl.val body0)].toArray fun v w => ∃ r0, v = (Value.int .u32) r0 ∧ k r0 w
def slices_Clone_s_byte_byte.call (s0 : Sl) (k : Sl → K) : K := CallF Try.prog 70 [(Sl.val s0)].toArray fun v w => ∃ r0, v = Sl.val r0 ∧ k r0 w
def slices_Chunk_s_byte_byte_1.call (yield0 : Value) (t1 : Addr) (t2 : Addr) (k : K) : K := CallF Try.prog 71 [yield0, (.pointer (some t1)), (.pointer (some t2))].toArray fun v w => v = .tuple #[] ∧ k w
def ref01_Sum.call (b0 : Sl) (k : Int → K) : K := CallF Try.prog 72 [(Sl.val b0)].toArray fun v w => ∃ r0, v = (Value.int .u32) r0 ∧ k r0 w
def code_Sum.call (b0 : Sl) (k : Int → K) : K := CallF Try.prog 73 [(Sl.val b0)].toArray fun v w => ∃ r0, v = (Value.int .u32) r0 ∧ k r0 w
end Go.Proofs.Ytilejcnbacmdnaa
