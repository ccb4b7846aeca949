/- Texts of the claim FrontTells, one behind the other. -/
import Derived.Test.YtdemfamgieonbaaGreatFrontTellsM3
import Derived.Deep.OwnRows
set_option linter.all false
namespace Go.Proofs.YtdemfamgieonbaaGreat
open Go Go.Sep
set_option maxRecDepth 100000
set_option maxHeartbeats 4000000
attribute [local irreducible] CallD
attribute [local irreducible] G Gp Cx Tx Ex Sx Dx Ox Ax Lx Rx Fx Bx Bj Al Do Ld LdN St StN New CallF Ar DoU Rd Rd2 Pu Cd Ite Fv CallV CallY Ans0 Ans1 Ans2 Ans3 Ans4 Ans5 Ext Dead Dr WithS Sv LdS LdNS RdS Rd2S Nn Idx IdxA IdxS Fld Bld Slc SlcS Cat All LoopK RangeF RangeJ TakeD
namespace F_IRLocks
instance at_224:AT Tryz.prog 224 7:=⟨by kernel_rfl⟩
instance at_37:AT Tryz.prog 37 4:=⟨by kernel_rfl⟩
instance at_84:AT Tryz.prog 84 3:=⟨by kernel_rfl⟩
instance at_87:AT Tryz.prog 87 4:=⟨by kernel_rfl⟩
instance cb_104:CB Tryz.prog 104:=⟨by kernel_rfl⟩
instance cb_105:CB Tryz.prog 105:=⟨by kernel_rfl⟩
instance cb_106:CB Tryz.prog 106:=⟨by kernel_rfl⟩
instance cb_107:CB Tryz.prog 107:=⟨by kernel_rfl⟩
instance cb_108:CB Tryz.prog 108:=⟨by kernel_rfl⟩
instance cb_155:CB Tryz.prog 155:=⟨by kernel_rfl⟩
instance cb_192:CB Tryz.prog 192:=⟨by kernel_rfl⟩
instance ct_130:CT Tryz.prog 130:=⟨by kernel_rfl⟩
instance ct_195:CT Tryz.prog 195:=⟨by kernel_rfl⟩
instance ct_196:CT Tryz.prog 196:=⟨by kernel_rfl⟩
instance ct_219:CT Tryz.prog 219:=⟨by kernel_rfl⟩
instance ct_222:CT Tryz.prog 222:=⟨by kernel_rfl⟩
instance ct_9:CT Tryz.prog 9:=⟨by kernel_rfl⟩
instance zUq:FT Tryz.prog 198 0 0 1:=⟨by kernel_rfl⟩
instance zUr:FT Tryz.prog 198 1 1 1:=⟨by kernel_rfl⟩
instance zUs:FT Tryz.prog 224 0 0 4:=⟨by kernel_rfl⟩
instance zUt:FT Tryz.prog 224 1 4 3:=⟨by kernel_rfl⟩
instance zUu:FT Tryz.prog 226 0 0 1:=⟨by kernel_rfl⟩
instance zUv:FT Tryz.prog 226 1 1 1:=⟨by kernel_rfl⟩
instance zPT:FT Tryz.prog 84 0 0 1:=⟨by kernel_rfl⟩
instance mx:MX Tryz.prog:=⟨mixed⟩
instance pl_198:PLT Tryz.prog 198 [(0,1),(1,1)]:=⟨_,Tryz.underlying198,by kernel_rfl⟩
instance pl_224:PLT Tryz.prog 224 [(0,4),(4,3)]:=⟨_,Tryz.underlying224,by kernel_rfl⟩
instance pl_226:PLT Tryz.prog 226 [(0,1),(1,1)]:=⟨_,Tryz.underlying226,by kernel_rfl⟩
instance sl_222:SLT Tryz.prog 222 224 7:=⟨by kernel_rfl⟩
instance sl_38:SLT Tryz.prog 38 84 3:=⟨by kernel_rfl⟩
instance sz_219:SZ Tryz.prog 219 1:=⟨by kernel_rfl⟩
instance sz_222:SZ Tryz.prog 222 1:=⟨by kernel_rfl⟩
instance sz_224:SZ Tryz.prog 224 7:=⟨by kernel_rfl⟩
instance sz_84:SZ Tryz.prog 84 3:=⟨by kernel_rfl⟩
instance sz_87:SZ Tryz.prog 87 4:=⟨by kernel_rfl⟩
instance un_219:UN Tryz.prog 219 (.pointer 226):=⟨Tryz.underlying219⟩
instance zt_198:ZT Tryz.prog 198 (.agg #[(.map none),(.map none)]):=⟨Tryz.t198,by kernel_rfl,by kernel_rfl⟩
instance zt_219:ZT Tryz.prog 219 (.pointer none):=⟨Tryz.t219,by kernel_rfl,by kernel_rfl⟩
instance zt_224:ZT Tryz.prog 224 (.agg #[(.int .i64 0),(.int .u64 0),(.int .u64 0),(.int .i64 0),(.string ⟨#[]⟩),(.int .i64 0),(.int .u64 0)]):=⟨Tryz.t224,by kernel_rfl,by kernel_rfl⟩
instance zt_226:ZT Tryz.prog 226 (.agg #[(Sl.val ⟨none,0,0⟩),(Sl.val ⟨none,0,0⟩)]):=⟨Tryz.t226,by kernel_rfl,by kernel_rfl⟩
instance zt_84:ZT Tryz.prog 84 (.agg #[(.string ⟨#[]⟩),(.int .i64 0),(.int .u64 0)]):=⟨Tryz.t84,by kernel_rfl,by kernel_rfl⟩
instance zt_87:ZT Tryz.prog 87 (.agg #[(.bool false),(Sl.val ⟨none,0,0⟩),(.int .i64 0),(.int .u64 0)]):=⟨Tryz.t87,by kernel_rfl,by kernel_rfl⟩
end F_IRLocks
def zD1  (Q:(Option Addr)→K):K :=
 Do Tryz.prog (Instr.makeMap 195 none) Value.map fun t1 =>
 Do Tryz.prog (Instr.makeMap 196 none) Value.map fun t2 =>
 New 198 #[(.map t1),(.map t2)] fun t4 =>
 Q (some t4)
theorem zJA  (Q:(Option Addr)→K) (w:World) (h:zD1  Q w):zD1.call  Q w:=by
 exact g_walk 5 h Tryz.func47
def zAh.s2 (Q:K) (X1:Int→K) (l0_2:(Option Addr)) (s1_2:(Option Addr)) (tag6_2:Addr) (t11_2:Sl) (t12_2:Int) (t13_2:Int):K :=
 Ar (IntKind.wrap .i64 (t13_2 + 1)) fun t76 =>
 X1 t76
def zAh.s3 (Q:K) (X1:Int→K) (l0_3:(Option Addr)) (s1_3:(Option Addr)) (tag6_3:Addr) (m9_3:Addr) (g10_3:(Option Addr)) (t11_3:Sl) (t12_3:Int) (t13_3:Int) (t36_3:Bool):K :=
 Ite t36_3
  (zAh.s2 Q X1 l0_3 s1_3 tag6_3 t11_3 t12_3 t13_3)
  (Dr <| WithS fun S =>
  LdS S m9_3 Value.string fun t39 =>
  LdNS S m9_3 3 fun t41 =>
  zA7.call s1_3 t39 fun t40 =>
  Sv S <|
  zCO.call t40 t41 fun t42 =>
  Ite (decide (t42 = 0))
   (Dr <| WithS fun S =>
   Nn g10_3 fun t52 =>
   LdS S t52 Sl.val fun t54 =>
   LdNS S tag6_3 4 fun t55 =>
   LdNS S m9_3 3 fun t56 =>
   Bld #[(.int .i64 0),(.int .u64 0),(.int .u64 0),(.int .i64 0),(.string ⟨#[]⟩),(.int .i64 0),(.int .u64 0)] ([(0,4),(4,3)][·]?) [(0,(.agg t55)),(1,(.agg t56))] fun t57 =>
   Bld #[(.int .i64 0),(.int .u64 0),(.int .u64 0),(.int .i64 0),(.string ⟨#[]⟩),(.int .i64 0),(.int .u64 0)] (fun i=>some (i * 7,7)) [(0,(.agg t57))] fun ct58 =>
   New 224 ct58 fun t58 =>
   Sv S <|
   Do Tryz.prog (Builtin.append_ #[222,222] 222 #[(Sl.val t54),(Sl.val (Sl.mk (some t58) 1 1))]) Sl.val fun t59 =>
   St t52 (Sl.val t59) <|
   zAh.s2 Q X1 l0_3 s1_3 tag6_3 t11_3 t12_3 t13_3)
   (Ite (decide (t42 = 1))
    (Dr <| WithS fun S =>
    Nn g10_3 fun t66 =>
    LdS S (t66.add 1) Sl.val fun t68 =>
    LdNS S tag6_3 4 fun t69 =>
    LdNS S m9_3 3 fun t70 =>
    Bld #[(.int .i64 0),(.int .u64 0),(.int .u64 0),(.int .i64 0),(.string ⟨#[]⟩),(.int .i64 0),(.int .u64 0)] ([(0,4),(4,3)][·]?) [(0,(.agg t69)),(1,(.agg t70))] fun t71 =>
    Bld #[(.int .i64 0),(.int .u64 0),(.int .u64 0),(.int .i64 0),(.string ⟨#[]⟩),(.int .i64 0),(.int .u64 0)] (fun i=>some (i * 7,7)) [(0,(.agg t71))] fun ct72 =>
    New 224 ct72 fun t72 =>
    Sv S <|
    Do Tryz.prog (Builtin.append_ #[222,222] 222 #[(Sl.val t68),(Sl.val (Sl.mk (some t72) 1 1))]) Sl.val fun t73 =>
    St (t66.add 1) (Sl.val t73) <|
    zAh.s2 Q X1 l0_3 s1_3 tag6_3 t11_3 t12_3 t13_3)
    (Dr <|
    Nn l0_3 fun t44 =>
    Ld (t44.add 1) Value.map fun t46 =>
    LdN tag6_3 4 fun t47 =>
    DoU Tryz.prog (Instr.mapUpdate 196 (.map t46) (.agg t47) (.int .i64 1)) <|
    zAh.s2 Q X1 (some t44) s1_3 tag6_3 t11_3 t12_3 t13_3)))
def zAh.b1 (Q:K)  (X1:Int→K) (l0_1:(Option Addr)) (s1_1:(Option Addr)) (tag6_1:Addr) (t11_1:Sl) (t12_1:Int) (t13_1:Int):K :=
 Ite (decide (t13_1 < t12_1))
  (Idx t11_1 t13_1 3 fun t15 =>
  LdN t15 3 fun t16 =>
  New 84 #[(.string ⟨#[]⟩),(.int .i64 0),(.int .u64 0)] fun m9 =>
  StN m9 3 t16 <|
  Ld m9 Value.string fun t19 =>
  zBc.call l0_1 t19 fun t20 =>
  Dr <| WithS fun S =>
  Nn t20 fun t22 =>
  LdS S t22 Sl.val fun t24 =>
  LdNS S tag6_1 4 fun t25 =>
  zDn.call t25 fun t26 =>
  Sv S <|
  zAl.call t24 t26 fun t27 =>
  Sv S <|
  Ite t27
   (zAh.s3 Q X1 l0_1 s1_1 tag6_1 m9 (some t22) t11_1 t12_1 t13_1 true)
   (LdS S (t22.add 1) Sl.val fun t32 =>
   LdNS S tag6_1 4 fun t33 =>
   zDn.call t33 fun t34 =>
   Sv S <|
   zAl.call t32 t34 fun t35 =>
   zAh.s3 Q X1 l0_1 s1_1 tag6_1 m9 (some t22) t11_1 t12_1 t13_1 t35))
  (Q)
def zAh (l0:(Option Addr)) (s1:(Option Addr)) (tag2:(Array Value)) (marks3:Sl) (Q:K):K :=
 New 37 tag2 fun tag6 =>
 LoopK (α:=Int) (fun X x=>zAh.b1 Q X l0 s1 tag6 marks3 (marks3.n:Int) x) 0
theorem zII (l0:(Option Addr)) (s1:(Option Addr)) (tag2:(Array Value)) (marks3:Sl) (Q:K) (w:World) (h:zAh l0 s1 tag2 marks3 Q w):zAh.call l0 s1 tag2 marks3 Q w:=by
 have hJ12:∀ (X1:Int→K),XH 2 X1→JH 12 fun D=>∃ (l0_2:(Option Addr)) (s1_2:(Option Addr)) (tag6_2:Addr) (t11_2:Sl) (t12_2:Int) (t13_2:Int),D [(0,(.pointer l0_2)),(1,(.pointer s1_2)),(6,(.pointer (some tag6_2))),(11,(Sl.val t11_2)),(12,(.int .i64 t12_2)),(13,(.int .i64 t13_2))] (fun C=>C [(0,(.pointer l0_2)),(1,(.pointer s1_2)),(6,(.pointer (some tag6_2))),(11,(Sl.val t11_2)),(12,(.int .i64 t12_2)),(13,(.int .i64 t13_2))] (zAh.s2 Q X1 l0_2 s1_2 tag6_2 t11_2 t12_2 t13_2)):=by intros; exact ⟨fun _ ⟨_,_,_,_,_,_,h⟩=>⟨_,_,h⟩⟩
 have hD9:DH 9 2 [9,12] (.s [0,1,2,3,4,5,6,7] (.a [(8,1,.a [(9,0,.s [10,11] (.a [(12,0,.e)]))])])):=by intros; exact ⟨⟩
 have hD11:DH 11 2 [9,12] (.s [0,1,2,3,4,5,6,7] (.a [(8,1,.a [(9,0,.s [10,11] (.a [(12,0,.e)]))])])):=by intros; exact ⟨⟩
 have hD7:DH 7 1 [5] (.s [0,1,2,3,4] (.a [(5,0,.e)])):=by intros; exact ⟨⟩
 have hD6:DH 6 2 [5] (.s [0,1,2,4] (.a [(3,1,.a [(5,0,.e)])])):=by intros; exact ⟨⟩
 have hJ1000005:∀ (X1:Int→K),XH 2 X1→JH 1000005 fun D=>∃ (l0_3:(Option Addr)) (s1_3:(Option Addr)) (tag6_3:Addr) (m9_3:Addr) (g10_3:(Option Addr)) (t11_3:Sl) (t12_3:Int) (t13_3:Int),D [(0,(.pointer l0_3)),(1,(.pointer s1_3)),(6,(.pointer (some tag6_3))),(9,(.pointer (some m9_3))),(10,(.pointer g10_3)),(11,(Sl.val t11_3)),(12,(.int .i64 t12_3)),(13,(.int .i64 t13_3))] (fun C=>∀ (t36_3:Bool),C [(0,(.pointer l0_3)),(1,(.pointer s1_3)),(6,(.pointer (some tag6_3))),(9,(.pointer (some m9_3))),(10,(.pointer g10_3)),(11,(Sl.val t11_3)),(12,(.int .i64 t12_3)),(13,(.int .i64 t13_3)),(36,(.bool t36_3))] (zAh.s3 Q X1 l0_3 s1_3 tag6_3 m9_3 g10_3 t11_3 t12_3 t13_3 t36_3)):=by intros; exact ⟨fun _ ⟨_,_,_,_,_,_,_,_,h⟩=>⟨_,_,h⟩⟩
 have hD5:DH 5 2 [14] (.s [0,1,2,3,4] (.a [(5,1,.a [(6,1,.s [7] (.i (.s [8,9,10,11,12,13,14,15] .e) (.s [8,9,10,11,12] (.a [(13,1,.a [(14,0,.s [15] .e)])]))))])])):=by intros; exact ⟨⟩
 have hL2:∀ (l0_1:(Option Addr)) (s1_1:(Option Addr)) (tag6_1:Addr) (t11_1:Sl) (t12_1:Int),LH 2 (fun x:Int=>[(0,(.pointer l0_1)),(1,(.pointer s1_1)),(6,(.pointer (some tag6_1))),(11,(Sl.val t11_1)),(12,(.int .i64 t12_1)),(13,(.int .i64 x))]) (fun X x=>zAh.b1 Q X l0_1 s1_1 tag6_1 t11_1 t12_1 x):=by intros; exact ⟨⟩
 exact g_walk 77 h Tryz.func62
def zCf (l0:(Option Addr)) (tag1:(Array Value)) (Q:Bool→K):K :=
 New 37 tag1 fun tag3 =>
 Dr <|
 Nn l0 fun t6 =>
 Ld (t6.add 1) Value.map fun t8 =>
 LdN tag3 4 fun t9 =>
 Rd Tryz.prog (Instr.lookup 196 (.map t8) (.agg t9) false) (Value.int .i64) fun t10 =>
 Q (decide ((0:Int) < t10))
theorem zHY (l0:(Option Addr)) (tag1:(Array Value)) (Q:Bool→K) (w:World) (h:zCf l0 tag1 Q w):zCf.call l0 tag1 Q w:=by
 exact g_walk 12 h Tryz.func98
def zBB.s2 (Q:Bool→K) (X1:K) (tag3_2:Addr) (t11_2:(Option Addr)) (t32_2:Bool):K :=
 Ite t32_2
  (Q false)
  (X1)
def zBB.b1 (Q:Bool→K)  (X1:K) (tag3_1:Addr) (t11_1:(Option Addr)) :K :=
 Do Tryz.prog (Instr.next (.pointer t11_1) false 0) id fun t12 =>
 Ext t12 0 Value.bool fun t13 =>
 Ite t13
  (Do Tryz.prog (Instr.entry (.pointer t11_1)) id fun t14 =>
  Ext t14 1 Value.pointer fun t15 =>
  Dr <| WithS fun S =>
  Nn t15 fun t17 =>
  LdS S (t17.add 1) Sl.val fun t19 =>
  LdNS S tag3_1 4 fun t20 =>
  zDn.call t20 fun t21 =>
  Sv S <|
  zAl.call t19 t21 fun t22 =>
  Sv S <|
  Ite t22
   (zBB.s2 Q X1 tag3_1 t11_1 true)
   (LdS S t17 Sl.val fun t27 =>
   LdNS S tag3_1 4 fun t28 =>
   zDn.call t28 fun t29 =>
   Sv S <|
   zAM.call t27 t29 fun t30 =>
   zBB.s2 Q X1 tag3_1 t11_1 (decide ((0:Int) < t30))))
  (Q true)
def zBB (l0:(Option Addr)) (tag1:(Array Value)) (Q:Bool→K):K :=
 New 37 tag1 fun tag3 =>
 Nn l0 fun t8 =>
 Ld t8 Value.map fun t10 =>
 Do Tryz.prog (Instr.range 195 (.map t10)) Value.pointer fun t11 =>
 LoopK (α:=Unit) (fun X x=>zBB.b1 Q (X ()) tag3 t11) ()
theorem zIJ (l0:(Option Addr)) (tag1:(Array Value)) (Q:Bool→K) (w:World) (h:zBB l0 tag1 Q w):zBB.call l0 tag1 Q w:=by
 have hJ5:∀ (X1:Unit→K),XH 2 X1→JH 5 fun D=>∃ (tag3_2:Addr) (t11_2:(Option Addr)),D [(3,(.pointer (some tag3_2))),(11,(.pointer t11_2))] (fun C=>∀ (t32_2:Bool),C [(3,(.pointer (some tag3_2))),(11,(.pointer t11_2)),(32,(.bool t32_2))] (zBB.s2 Q (X1 ()) tag3_2 t11_2 t32_2)):=by intros; exact ⟨fun _ ⟨_,_,h⟩=>⟨_,_,h⟩⟩
 have hD4:DH 4 2 [14] (.s [0,1,2,3,4] (.a [(5,1,.a [(6,1,.s [7] (.i (.s [8,9,10,11,12,13,14,15,16] .e) (.s [8,9,10,11,12] (.a [(13,1,.a [(14,0,.s [15,16] .e)])]))))])])):=by intros; exact ⟨⟩
 have hL2:∀ (tag3_1:Addr) (t11_1:(Option Addr)),LH 2 (fun x:Unit=>[(3,(.pointer (some tag3_1))),(11,(.pointer t11_1))]) (fun X x=>zBB.b1 Q (X ()) tag3_1 t11_1):=by intros; exact ⟨⟩
 exact g_walk 33 h Tryz.func99
def zBc.s1 (Q:(Option Addr)→K)  (l0_1:(Option Addr)) (key1_1:ByteArray):K :=
 Nn l0_1 fun t20 =>
 Ld t20 Value.map fun t22 =>
 Rd Tryz.prog (Instr.lookup 195 (.map t22) (.string key1_1) false) Value.pointer fun t24 =>
 Q t24
def zBc (l0:(Option Addr)) (key1:ByteArray) (Q:(Option Addr)→K):K :=
 Nn l0 fun t6 =>
 Ld t6 Value.map fun t8 =>
 Rd Tryz.prog (Instr.lookup 195 (.map t8) (.string key1) false) Value.pointer fun t10 =>
 Ite ((t10).isNone)
  (Ld t6 Value.map fun t15 =>
  New 226 #[(Sl.val ⟨none,0,0⟩),(Sl.val ⟨none,0,0⟩)] fun t18 =>
  DoU Tryz.prog (Instr.mapUpdate 195 (.map t15) (.string key1) (.pointer (some t18))) <|
  zBc.s1 Q (some t6) key1)
  (zBc.s1 Q (some t6) key1)
theorem zIf (l0:(Option Addr)) (key1:ByteArray) (Q:(Option Addr)→K) (w:World) (h:zBc l0 key1 Q w):zBc.call l0 key1 Q w:=by
 have hJ3:JH 3 fun D=>∃ (l0_1:(Option Addr)) (key1_1:ByteArray),D [(0,(.pointer l0_1)),(1,(.string key1_1))] (fun C=>C [(0,(.pointer l0_1)),(1,(.string key1_1))] (zBc.s1 Q l0_1 key1_1)):=by intros; exact ⟨fun _ ⟨_,_,h⟩=>⟨_,_,h⟩⟩
 exact g_walk 25 h Tryz.func104
def zDn (tag0:(Array Value)) (Q:Value→K):K :=
 New 37 tag0 fun tag1 =>
 Q (.func (.func 160) #[] #[(.pointer (some tag1))])
theorem zOh (tag0:(Array Value)) (Q:Value→K) (w:World) (h:zDn tag0 Q w):zDn.call tag0 Q w:=by
 exact g_walk 4 h Tryz.func106
def zAz.b1 (Q:K)  (X1:K) (l0_1:Addr) (tag3_1:Addr) (t10_1:(Option Addr)) :K :=
 Do Tryz.prog (Instr.next (.pointer t10_1) false 0) id fun t11 =>
 Ext t11 0 Value.bool fun t12 =>
 Ite t12
  (Do Tryz.prog (Instr.entry (.pointer t10_1)) id fun t13 =>
  Ext t13 1 Value.pointer fun t14 =>
  Dr <| WithS fun S =>
  Nn t14 fun t17 =>
  LdS S t17 Sl.val fun t19 =>
  LdNS S tag3_1 4 fun t20 =>
  zDn.call t20 fun t21 =>
  Sv S <|
  zAC.call t19 t21 fun t22 =>
  St t17 (Sl.val t22) <|
  Dr <| WithS fun S =>
  LdS S (t17.add 1) Sl.val fun t29 =>
  LdNS S tag3_1 4 fun t30 =>
  zDn.call t30 fun t31 =>
  Sv S <|
  zAC.call t29 t31 fun t32 =>
  St (t17.add 1) (Sl.val t32) <|
  X1)
  (Dr <|
  Ld (l0_1.add 1) Value.map fun t38 =>
  LdN tag3_1 4 fun t39 =>
  Do Tryz.prog (Builtin.delete_ #[196,37] 0 #[(.map t38),(.agg t39)]) id fun _ =>
  Q)
def zAz (l0:(Option Addr)) (tag1:(Array Value)) (Q:K):K :=
 New 37 tag1 fun tag3 =>
 Nn l0 fun t7 =>
 Ld t7 Value.map fun t9 =>
 Do Tryz.prog (Instr.range 195 (.map t9)) Value.pointer fun t10 =>
 LoopK (α:=Unit) (fun X x=>zAz.b1 Q (X ()) t7 tag3 t10) ()
theorem zIK (l0:(Option Addr)) (tag1:(Array Value)) (Q:K) (w:World) (h:zAz l0 tag1 Q w):zAz.call l0 tag1 Q w:=by
 have hD5:DH 5 2 [7,10] (.s [0,1,2,3,4,5] (.a [(6,1,.a [(7,0,.s [8,9] (.a [(10,0,.e)]))])])):=by intros; exact ⟨⟩
 have hD4:DH 4 2 [7,10] (.s [0,1,2,3,4,5] (.a [(6,1,.a [(7,0,.s [8,9] (.a [(10,0,.e)]))])])):=by intros; exact ⟨⟩
 have hD6:DH 6 1 [5] (.s [0,1,2,3,4] (.a [(5,0,.e)])):=by intros; exact ⟨⟩
 have hL2:∀ (l0_1:Addr) (tag3_1:Addr) (t10_1:(Option Addr)),LH 2 (fun x:Unit=>[(0,(.pointer (some l0_1))),(3,(.pointer (some tag3_1))),(10,(.pointer t10_1))]) (fun X x=>zAz.b1 Q (X ()) l0_1 tag3_1 t10_1):=by intros; exact ⟨⟩
 exact g_walk 40 h Tryz.func156
theorem zHZ (l0:(Option Addr)) (tag1:(Array Value)) (Q:K) (w:World) (h:zAz l0 tag1 Q w):zAz.calld l0 tag1 Q w:=by
 have hD5:DH 5 2 [7,10] (.s [0,1,2,3,4,5] (.a [(6,1,.a [(7,0,.s [8,9] (.a [(10,0,.e)]))])])):=by intros; exact ⟨⟩
 have hD4:DH 4 2 [7,10] (.s [0,1,2,3,4,5] (.a [(6,1,.a [(7,0,.s [8,9] (.a [(10,0,.e)]))])])):=by intros; exact ⟨⟩
 have hD6:DH 6 1 [5] (.s [0,1,2,3,4] (.a [(5,0,.e)])):=by intros; exact ⟨⟩
 have hL2:∀ (l0_1:Addr) (tag3_1:Addr) (t10_1:(Option Addr)),LH 2 (fun x:Unit=>[(0,(.pointer (some l0_1))),(3,(.pointer (some tag3_1))),(10,(.pointer t10_1))]) (fun X x=>zAz.b1 Q (X ()) l0_1 tag3_1 t10_1):=by intros; exact ⟨⟩
 exact zTQ 40 h Tryz.func156
def zBG.s2 (Q:K) (X1:Int→K) (l3_2:Addr) (g6_2:Addr) (r7_2:Addr) (t19_2:Sl) (t20_2:Int) (t21_2:Int):K :=
 Ar (IntKind.wrap .i64 (t21_2 + 1)) fun t36 =>
 X1 t36
def zBG.b1 (Q:K)  (X1:Int→K) (l3_1:Addr) (g6_1:Addr) (r7_1:Addr) (t19_1:Sl) (t20_1:Int) (t21_1:Int):K :=
 Ite (decide (t21_1 < t20_1))
  (Idx t19_1 t21_1 7 fun t23 =>
  LdN t23 7 fun t24 =>
  New 224 #[(.int .i64 0),(.int .u64 0),(.int .u64 0),(.int .i64 0),(.string ⟨#[]⟩),(.int .i64 0),(.int .u64 0)] fun c9 =>
  StN c9 7 t24 <|
  LdN r7_1 4 fun t25 =>
  LdN (c9.add 4) 3 fun t27 =>
  zCO.call t25 t27 fun t28 =>
  Ite (decide (t28 ≠ 0))
   (Dr <|
   Ld l3_1 Value.pointer fun t30 =>
   Nn t30 fun t31 =>
   Ld (t31.add 1) Value.map fun t33 =>
   LdN c9 4 fun t35 =>
   DoU Tryz.prog (Instr.mapUpdate 196 (.map t33) (.agg t35) (.int .i64 1)) <|
   zBG.s2 Q X1 l3_1 g6_1 r7_1 t19_1 t20_1 t21_1)
   (zBG.s2 Q X1 l3_1 g6_1 r7_1 t19_1 t20_1 t21_1))
  (Dr <| WithS fun S =>
  LdS S g6_1 Value.pointer fun t37 =>
  LdS S g6_1 Value.pointer fun t38 =>
  Nn t38 fun t39 =>
  LdS S (t39.add 1) Sl.val fun t41 =>
  zAC.call t41 (.func (.func 200) #[] #[(.pointer (some r7_1)),(.pointer (some g6_1)),(.pointer (some l3_1))]) fun t43 =>
  Sv S <|
  Nn t37 fun t44 =>
  St (t44.add 1) (Sl.val t43) <|
  Q)
def zBG (l0:(Option Addr)) (s1:(Option Addr)) (key2:ByteArray) (Q:K):K :=
 New 130 #[(.pointer l0)] fun l3 =>
 Ld l3 Value.pointer fun t10 =>
 zBc.call t10 key2 fun t12 =>
 zA7.call s1 key2 fun t15 =>
 New 219 #[(.pointer none)] fun g6 =>
 New 87 #[(.bool false),(Sl.val ⟨none,0,0⟩),(.int .i64 0),(.int .u64 0)] fun r7 =>
 St g6 (.pointer t12) <|
 StN r7 4 t15 <|
 Ld g6 Value.pointer fun t16 =>
 Nn t16 fun t17 =>
 Ld t17 Sl.val fun t19 =>
 LoopK (α:=Int) (fun X x=>zBG.b1 Q X l3 g6 r7 t19 (t19.n:Int) x) 0
theorem zIL (l0:(Option Addr)) (s1:(Option Addr)) (key2:ByteArray) (Q:K) (w:World) (h:zBG l0 s1 key2 Q w):zBG.call l0 s1 key2 Q w:=by
 have hJ7:∀ (X1:Int→K),XH 3 X1→JH 7 fun D=>∃ (l3_2:Addr) (g6_2:Addr) (r7_2:Addr) (t19_2:Sl) (t20_2:Int) (t21_2:Int),D [(3,(.pointer (some l3_2))),(6,(.pointer (some g6_2))),(7,(.pointer (some r7_2))),(19,(Sl.val t19_2)),(20,(.int .i64 t20_2)),(21,(.int .i64 t21_2))] (fun C=>C [(3,(.pointer (some l3_2))),(6,(.pointer (some g6_2))),(7,(.pointer (some r7_2))),(19,(Sl.val t19_2)),(20,(.int .i64 t20_2)),(21,(.int .i64 t21_2))] (zBG.s2 Q X1 l3_2 g6_2 r7_2 t19_2 t20_2 t21_2)):=by intros; exact ⟨fun _ ⟨_,_,_,_,_,_,h⟩=>⟨_,_,h⟩⟩
 have hD6:DH 6 1 [6] (.s [4,0,1,2,3,5] (.a [(6,0,.e)])):=by intros; exact ⟨⟩
 have hD8:DH 8 2 [9] (.s [5,0,1,2,3,4] (.a [(6,1,.s [7,8] (.a [(9,0,.e)]))])):=by intros; exact ⟨⟩
 have hL3:∀ (l3_1:Addr) (g6_1:Addr) (r7_1:Addr) (t19_1:Sl) (t20_1:Int),LH 3 (fun x:Int=>[(3,(.pointer (some l3_1))),(6,(.pointer (some g6_1))),(7,(.pointer (some r7_1))),(19,(Sl.val t19_1)),(20,(.int .i64 t20_1)),(21,(.int .i64 x))]) (fun X x=>zBG.b1 Q X l3_1 g6_1 r7_1 t19_1 t20_1 x):=by intros; exact ⟨⟩
 exact g_walk 46 h Tryz.func159
def zGI (c0:(Array Value)) (t1:Addr) (Q:Bool→K):K :=
 New 224 c0 fun c2 =>
 LdN c2 4 fun t5 =>
 LdN t1 4 fun t6 =>
 Pu Tryz.prog (do eqGuard .eql 37 (.tmp 5) (.tmp 6) (.agg t5) (.agg t6); binOp .eql 37 (.agg t5) (.agg t6):Sem Value) Value.bool fun t7 =>
 Q t7
theorem zM7 (c0:(Array Value)) (t1:Addr) (Q:Bool→K) (w:World) (h:zGI c0 t1 Q w):zGI.call c0 t1 Q w:=by
 exact g_walk 8 h Tryz.func160
def zBR.s1 (Q:Bool→K)  (how6_1:Int):K :=
 Q (decide (how6_1 ≠ 1))
def zBR (c0:(Array Value)) (t1:Addr) (t2:Addr) (t3:Addr) (Q:Bool→K):K :=
 New 224 c0 fun c4 =>
 LdN t1 4 fun t7 =>
 LdN (c4.add 4) 3 fun t9 =>
 zCO.call t7 t9 fun t10 =>
 Ite (decide (t10 = 0))
  (Dr <| WithS fun S =>
  LdS S t2 Value.pointer fun t14 =>
  LdS S t2 Value.pointer fun t15 =>
  Nn t15 fun t16 =>
  LdS S t16 Sl.val fun t18 =>
  LdNS S c4 7 fun t19 =>
  Bld #[(.int .i64 0),(.int .u64 0),(.int .u64 0),(.int .i64 0),(.string ⟨#[]⟩),(.int .i64 0),(.int .u64 0)] (fun i=>some (i * 7,7)) [(0,(.agg t19))] fun ct20 =>
  New 224 ct20 fun t20 =>
  Sv S <|
  Do Tryz.prog (Builtin.append_ #[222,222] 222 #[(Sl.val t18),(Sl.val (Sl.mk (some t20) 1 1))]) Sl.val fun t21 =>
  Sv S <|
  Nn t14 fun t22 =>
  St t22 (Sl.val t21) <|
  zBR.s1 Q t10)
  (Ite (decide (t10 = 2))
   (Dr <|
   Ld t3 Value.pointer fun t26 =>
   Nn t26 fun t27 =>
   Ld (t27.add 1) Value.map fun t29 =>
   LdN c4 4 fun t31 =>
   DoU Tryz.prog (Instr.mapUpdate 196 (.map t29) (.agg t31) (.int .i64 1)) <|
   zBR.s1 Q t10)
   (zBR.s1 Q t10))
theorem zHD (c0:(Array Value)) (t1:Addr) (t2:Addr) (t3:Addr) (Q:Bool→K) (w:World) (h:zBR c0 t1 t2 t3 Q w):zBR.call c0 t1 t2 t3 Q w:=by
 have hJ7:JH 7 fun D=>∃ (how6_1:Int),D [(6,(.int .i64 how6_1))] (fun C=>C [(6,(.int .i64 how6_1))] (zBR.s1 Q how6_1)):=by intros; exact ⟨fun _ ⟨_,h⟩=>⟨_,_,h⟩⟩
 have hD4:DH 4 2 [10] (.s [0,1,2,3,4,5] (.a [(6,1,.a [(7,1,.s [8,9] (.a [(10,0,.e)]))])])):=by intros; exact ⟨⟩
 have hD6:DH 6 1 [6] (.s [4,0,1,2,3,5] (.a [(6,0,.e)])):=by intros; exact ⟨⟩
 exact g_walk 34 h Tryz.func200
end Go.Proofs.YtdemfamgieonbaaGreat
namespace Go.Proofs.YtdemfamgieonbaaGreat
open Go Go.Sep Go.Sep.Bt
set_option maxRecDepth 100000
structure SchV where
 l:Option Addr
 a:Sl
 b:Sl
 c:Sl
def SchR (sd st:Nat) (sv:SchV):HProp:=blk sd (.cells [.pointer (some ⟨st,0,none⟩),.pointer sv.l,sv.a.val,sv.b.val,sv.c.val].toArray zAp (0,0))
section
variable {B:World} {Γ Δ:List HProp} {k:K} {sd st n:Nat} {M:Recs} {sv:SchV}
instance (priority:=high) zUw:Sep.Own sd (SchR sd st sv::Γ) (SchR sd st sv) Γ:=⟨.refl _⟩
theorem s_schR (h:HG B (blk sd (.cells [.pointer (some ⟨st,0,none⟩),.pointer sv.l,sv.a.val,sv.b.val,sv.c.val].toArray zAp (0,0))::Γ) k):HG B (SchR sd st sv::Γ) k:=h
theorem zN5 {l:Option Addr} {a b c:Sl} (h:HG B (SchR sd st ⟨l,a,b,c⟩::Γ) k):HG B (blk sd (.cells [.pointer (some ⟨st,0,none⟩),.pointer l,a.val,b.val,c.val].toArray zAp (0,0))::Γ) k:=h
theorem zTc {T E:TypeId} {z:Value} {by' m:Nat} {Q:Sl→K} (hT:Tryz.prog.underlying T = some (.slice E)) (hE:(Tryz.prog.info? E).map (fun i=>(i.zero,i.size,i.bytes)) = some (some z,1,by')) (hz:z.cells = #[z]) (hb:by' * m ≤ 281474976710656) (hm:m ≤ 9223372036854775807)
  (h:∀ s,s.n = m→HG B (SlC E 1 s (List.replicate m z)::Γ) (Q s)):HG B Γ (Do Tryz.prog (Instr.makeSlice T (.int .i64 (m:Int)) (.int .i64 (m:Int))) Sl.val Q):=fun w hw=>by
 have h1:=Go.run_make_row' (P:=Tryz.prog) T E z by' hT hE hz .i64 .i64 m hb hm w
 refine ⟨⟨some ⟨w.heap.size,0,none⟩,m,m⟩,_,h1,h ⟨some ⟨w.heap.size,0,none⟩,m,m⟩ rfl _ ?_⟩
 have h2:=hw.alloc (.cells (madeCells #[z] m) E (0,0))
 exact h2.imp (zDk (by
  apply List.ext_getElem?
  intro i
  by_cases hi:i < m <;> simp [madeCells,List.getElem?_range,List.getElem?_replicate,hi,Nat.mod_one]) (by simp))
theorem zJB {Q:Option Addr→K} (h:∀ l,HG B Γ (Q (some ⟨l,0,none⟩))):HG B Γ (zD1.call Q):=fun w hw=>by
 refine zJA _ _ ?_
 refine hg hw ?_
 clear hw w
 unfold zD1
 refine zFl (enc:=fun x:TX=>strV x) (cV:=fun x:Option Addr=>Value.pointer x) fun gm=>?_
 refine zFl (enc:=kyS tagF) (cV:=Value.int .i64) fun db=>?_
 refine s_new fun l=>?_
 exact s_end (h l)
theorem zOi {Q:Option Addr→Int→K} (h1:1 ≤ n) (h3:n ≤ 3) (h:∀ sd st sv,HG B (SchR sd st sv::StoreR st n []::Γ) (Q (some ⟨sd,0,none⟩) 0)):HG B Γ (zBZ.call (n:Int) Q):=fun w hw=>by
 refine zI9 _ _ _ ?_
 refine hg hw ?_
 clear hw w
 unfold zBZ
 refine zIW h1 h3 fun st=>?_
 refine s_f ?_
 refine s_dr ?_
 have rest:∀ (l:Option Addr) (fd:Sl),HG B (StoreR st n []::Γ) (New zAp [.pointer (some ⟨st,0,none⟩),.pointer l,Sl.val ⟨none,0,0⟩,fd.val,Sl.val ⟨none,0,0⟩].toArray fun t21=>zBZ.s1 Q (n:Int) (some t21)):=fun l fd=>by
  refine s_new fun sd=>?_
  unfold zBZ.s1
  refine fun w hw=>hg (show Holds B (SlC zBN 1 ⟨none,0,0⟩ (([]:List (Option Addr)).map Value.pointer)::_) w from hw.nilSl _ _) ?_
  clear hw w
  refine s_end (Δ:=blk sd (.cells [.pointer (some ⟨st,0,none⟩),.pointer l,Sl.val ⟨none,0,0⟩,fd.val,Sl.val ⟨none,0,0⟩].toArray zAp (0,0))::SlC zBN 1 ⟨none,0,0⟩ (([]:List (Option Addr)).map Value.pointer)::StoreR st n []::Γ) ?_
  refine s_loop (α:=Int) (ι:=Nat×Sl×List (Option Addr)) (fun x i=>x = (i.1:Int)∧i.1 ≤ n∧i.2.2.length ≤ i.1) (fun x i=>blk sd (.cells [.pointer (some ⟨st,0,none⟩),.pointer l,i.2.1.val,fd.val,Sl.val ⟨none,0,0⟩].toArray zAp (0,0))::SlC zBN 1 i.2.1 (i.2.2.map Value.pointer)::StoreR st n []::Γ) (fun x i=>n - i.1) (0,⟨none,0,0⟩,[]) ⟨rfl,Nat.zero_le _,Nat.le_refl _⟩ ?_
  rintro k' _ ⟨i,fs,F⟩ ⟨rfl,hi,hF⟩ hk'
  simp only at hi hF hk' ⊢
  unfold zBZ.b2
  refine s_ite (fun hb=>?_) fun hb=>?_
  ·have hin:i < n:=by simp only [decide_eq_true_eq] at hb; omega
   refine s_cap fs fun a1 a2 a3 a4=>?_
   rw [List.length_map,Nat.mul_one] at a1
   repeat refine s_nx ?_
   refine fun w hw=>zGi _ _ _ ?_
   refine hg hw ?_
   clear hw w
   unfold zDN
   refine zFl (enc:=kyS tagF) (cV:=Value.int .i64) fun sm=>?_
   refine s_new fun fp=>?_
   repeat refine s_nx ?_
   refine s_new fun t33=>?_
   repeat refine s_nx ?_
   refine zBJ (s:=fs) (us:=[.pointer (some ⟨fp,0,none⟩)]) (blk_rd rfl) (by intro v hv; rw [List.mem_singleton.1 hv]; rfl) (by simp only; omega) fun fs2 hfs2=>?_
   repeat refine s_nx ?_
   refine s_ai ?_
   rw [show F.map Value.pointer++[.pointer (some ⟨fp,0,none⟩)] = (F++[some (⟨fp,0,none⟩:Addr)]).map Value.pointer by simp]
   exact s_end (hk' ((i:Int) + 1) (i + 1,fs2,F++[some ⟨fp,0,none⟩]) ⟨by simp,hin,by simp; omega⟩ (by simp only; omega))
  ·refine zN5 ?_
   exact s_end (h sd st ⟨l,fs,fd,⟨none,0,0⟩⟩)
 have mk:∀ {Δ:List HProp} {Q':Sl→K},(∀ s,HG B (SlC ty_int 1 s (List.replicate n (.int .i64 0))::Δ) (Q' s))→HG B Δ (Do Tryz.prog (Instr.makeSlice zKJ (.int .i64 (n:Int)) (.int .i64 (n:Int))) Sl.val Q'):=fun {Δ Q'} hq =>
  zTc (by':=8) (z:=.int .i64 0) (by kernel_rfl) (by kernel_rfl) rfl (by omega) (by omega) fun s _=>hq s
 refine s_all2 ?_ ?_
 ·refine zJB fun l=>?_
  refine mk fun fd=>?_
  exact s_end (rest _ fd)
 ·refine mk fun fd=>?_
  refine zJB fun l=>?_
  exact s_end (rest _ fd)
theorem zLD {t:TxX} {a b c d:Int} {Q:Array Value→K} (hr:∀ w,Holds B Γ w→txRd w t) (hl:t.reads.length ≤ 1000∧t.writes.length ≤ 1000∧t.ops.length ≤ 1000∧∀ x ∈ t.ops,x.1.val.length ≤ 1000000) (hk:∀ x ∈ t.reads++t.writes,x.length ≤ 1000)
  (h:∀ t' ms,TxIs t' t→HG B (SlC zAs 3 ms ((mksOf n M (keysT (t.reads++t.writes))).flatMap mkL)::SchR sd st sv::StoreR st n M::txC t' Γ) (Q (orL a b c d t' ms).toArray)) :
  HG B (SchR sd st sv::StoreR st n M::Γ) (zBb.call (some ⟨sd,0,none⟩) (tgL a b c d).toArray (txL t).toArray Q):=fun w hw=>by
 refine zFh _ _ _ _ _ ?_
 refine Sep.hg hw ?_
 clear hw w
 refine s_schR ?_
 unfold zBb
 refine s_new fun tag4=>?_
 refine s_new fun t5=>?_
 refine s_new fun t6=>?_
 repeat refine s_nx ?_
 refine s_own st ?_
 refine zPR (t:=t) (fun w hw=>hr w hw.drops) hl hk fun t' ms ht'=>?_
 repeat refine s_nx ?_
 refine s_own sd ?_
 refine zN5 (l:=sv.l) (a:=sv.a) (b:=sv.b) (c:=sv.c) ?_
 exact s_end (h t' ms ht')
end
end Go.Proofs.YtdemfamgieonbaaGreat
namespace Go.Proofs.YtdemfamgieonbaaGreat
open Go Go.Sep
set_option maxRecDepth 100000
def stepOk (t:TxX) (o:OpM):Bool :=
 if 32 < o.val.length∨(o.n ≠ 0∧o.kind ≠ 6) then false
 else if o.kind = 2 then decide (o.key ∈ t.writes)
 else if o.kind = 3∨o.kind = 6 then decide (o.key ∈ t.writes) && decide (o.val.length = 0)
 else if o.kind = 4 then decide (o.key ∈ t.reads++t.writes)
 else if o.kind = 1∨o.kind = 5 then decide (o.key ∈ t.reads++t.writes) && decide (o.val.length = 0)
 else if o.kind = 7 then decide (o.key = [])
 else false
theorem zQu (t:TxX) (o:OpM):stepOk t o = opRight t o:=by
 unfold stepOk opRight
 by_cases h1:32 < o.val.length
 ·simp [h1]
 simp only [h1,false_or]
 by_cases hw:o.key ∈ t.writes <;> by_cases hr:o.key ∈ t.reads <;> by_cases hn:o.n = 0 <;> by_cases hv:o.val.length = 0 <;>
  (by_cases k1:o.kind = 1
   ·simp [k1,hw,hr,hn,hv]
   by_cases k2:o.kind = 2
   ·simp [k2,hw,hr,hn,hv]
   by_cases k3:o.kind = 3
   ·simp [k3,hw,hr,hn,hv]
   by_cases k4:o.kind = 4
   ·simp [k4,hw,hr,hn,hv]
   by_cases k5:o.kind = 5
   ·simp [k5,hw,hr,hn,hv]
   by_cases k6:o.kind = 6
   ·simp [k6,hw,hr,hn,hv]
   by_cases k7:o.kind = 7
   ·simp [k7,hw,hr,hn,hv]
   have k8:o.kind < 1∨7 < o.kind:=by omega
   simp [k1,k2,k3,k4,k5,k6,k7,k8])
abbrev KeyOk (k:TX):Prop:=1 ≤ k.length∧k.length ≤ 16
abbrev DeclOk (t:TxX):Prop:=t.reads.length ≤ 8∧t.writes.length ≤ 8 - t.reads.length∧(Rises t.reads∧∀ k ∈ t.reads,KeyOk k)∧(Rises t.writes∧∀ k ∈ t.writes,KeyOk k)∧∀ k ∈ t.reads,k ∉ t.writes
theorem zSL {n:Int} {t:TxX} (h1:1 ≤ n) (h3:n ≤ 3):DeclOk t ↔ ¬ headBad n t∧¬ keysBad t:=by
 constructor
 ·rintro ⟨a1,a2,⟨a3,a4⟩,⟨a5,a6⟩,a7⟩
  refine ⟨?_,?_⟩
  ·rintro (h | h | h | h | h | h | h)
   ·omega
   ·omega
   ·exact h a3
   ·exact h a5
   ·omega
   ·omega
   ·omega
  ·rintro (⟨k,hk,h⟩ | ⟨k,hk,h⟩)
   ·rcases List.mem_append.1 hk with hk | hk
    ·have:=a4 k hk; omega
    ·have:=a6 k hk; omega
   ·exact a7 k hk h
 ·rintro ⟨h,g⟩
  simp only [headBad,not_or,Classical.not_not] at h
  obtain ⟨_,_,b1,b2,b3,b4,b5⟩:=h
  refine ⟨by omega,by omega,⟨b1,fun k hk=>?_⟩,⟨b2,fun k hk=>?_⟩,fun k hk hw=>g (.inr ⟨k,hk,hw⟩)⟩
  ·have h6:¬ (k.length < 1∨16 < k.length):=fun h=>g (.inl ⟨k,List.mem_append_left _ hk,h⟩)
   exact ⟨by omega,by omega⟩
  ·have h6:¬ (k.length < 1∨16 < k.length):=fun h=>g (.inl ⟨k,List.mem_append_right _ hk,h⟩)
   exact ⟨by omega,by omega⟩
section
variable {B:World} {Γ Δ:List HProp} {k:K}
theorem zHE {s:Sl} {L:List TX} {key:TX} {Q:Bool→K} (hL:L.length < 100000000) (hr:∀ w,Holds B Γ w→RdC w s 1 (L.map strV)) (h:HG B Γ (Q (decide (key ∈ L)))):HG B Γ (zBF.call s (bs key) Q):=fun w hw=>by
 refine zEw _ _ _ _ ?_
 have hn:s.n = L.length:=by have:=(hr w hw).len; simpa using this.symm
 refine Sep.hg hw ?_
 clear hw w
 unfold zBF
 refine fun w hw=>zFT _ _ _ _ ?_
 refine Sep.hg hw ?_
 clear hw w
 unfold zBE
 refine zCm (α:=Int) (fun x=>∃ i:Nat,x = (i:Int)∧i ≤ L.length∧key ∉ L.take i) (fun x=>L.length - x.toNat) ⟨0,rfl,Nat.zero_le _,by simp⟩ fun k' x hx hk'=>?_
 obtain ⟨i,rfl,hi,hno⟩:=hx
 unfold zBE.b1
 refine s_ite (fun hb=>?_) fun hb=>?_
 ·have hil:i < L.length:=by simp only [decide_eq_true_eq] at hb; omega
  have hge:L[i]? = some L[i]:=List.getElem?_eq_getElem hil
  have hmem:L[i] ∈ L:=List.getElem_mem hil
  have htk:L.take (i + 1) = L.take i++[L[i]]:=List.take_succ_eq_append_getElem hil
  generalize L[i] = x at hge hmem htk
  refine s_idxS hr hge ?_
  rw [zBa,zBa]
  refine s_ite (fun he=>?_) fun he=>?_
  ·have he':key = x:=by simpa using he
   rw [show decide (key ∈ L) = true from decide_eq_true (by rw [he']; exact hmem)] at h
   show HG B Γ (Q (decide ((0:Int) ≤ (i:Int))))
   rw [show decide ((0:Int) ≤ (i:Int)) = true by simp]
   exact h
  ·have he':¬ key = x:=by simpa using he
   refine s_ai ?_
   refine hk' _ ⟨i + 1,by simp,hil,?_⟩ (by omega)
   rw [htk]
   simp only [List.mem_append,List.mem_singleton,not_or]
   exact ⟨hno,he'⟩
 ·have hil:i = L.length:=by simp only [decide_eq_false_iff_not] at hb; omega
  rw [hil,List.take_length] at hno
  rw [show decide (key ∈ L) = false from decide_eq_false hno] at h
  show HG B Γ (Q (decide ((0:Int) ≤ -1)))
  rw [show decide ((0:Int) ≤ -1) = false by decide]
  exact h
theorem zN6 {s:Sl} {L:List TX} {Q:Bool→K} (hL:L.length < 1000000000) (hr:∀ w,Holds B Γ w→RdC w s 1 (L.map strV)) (h:HG B Γ (Q (decide (Rises L∧∀ k ∈ L,KeyOk k)))):HG B Γ (zBg.call s Q):=fun w hw=>by
 refine zM4 _ _ _ ?_
 have hn:s.n = L.length:=by have:=(hr w hw).len; simpa using this.symm
 refine Sep.hg hw ?_
 clear hw w
 unfold zBg
 refine zCm (α:=Int) (fun x=>∃ i:Nat,x = (i:Int)∧i ≤ L.length∧Rises (L.take i)∧∀ k ∈ L.take i,KeyOk k) (fun x=>L.length - x.toNat) ⟨0,rfl,Nat.zero_le _,by simp,by simp⟩ fun k' x hx hk'=>?_
 obtain ⟨i,rfl,hi,hp,hks⟩:=hx
 unfold zBg.b1
 refine s_ite (fun hb=>?_) fun hb=>?_
 ·have hil:i < L.length:=by simp only [decide_eq_true_eq] at hb; omega
  have g2:L[i]? = some L[i]:=List.getElem?_eq_getElem hil
  have t2:L.take (i + 1) = L.take i++[L[i]]:=List.take_succ_eq_append_getElem hil
  have m2:L[i] ∈ L:=List.getElem_mem hil
  have hpi:∀ j x,L[j]? = some x→j < i→Rises L→x < L[i]:=fun j x hx hj h=>by
   obtain ⟨h1,rfl⟩:=List.getElem?_eq_some_iff.1 hx
   exact (List.pairwise_iff_getElem.1 h) j i h1 hil hj
  generalize L[i] = y at g2 t2 m2 hpi
  have hsz:(bs y).size = y.length:=rfl
  have no:¬ (Rises L∧∀ k ∈ L,KeyOk k)→HG B Γ (zBg.s2 Q k' s s (s.n:Int) (i:Int) true):=fun hn=>by
   rw [decide_eq_false hn] at h
   unfold zBg.s2
   exact s_t h
  refine s_idxS hr g2 ?_
  rw [zBa]
  refine s_ite (fun hc=>?_) fun hc=>?_
  ·refine no fun hh=>?_
   have:y = []:=by simpa using hc
   have:=(hh.2 y m2).1
   simp_all
  have hy1:1 ≤ y.length:=by
   have:y ≠ []:=by simpa using hc
   exact List.length_pos_iff.2 this
  refine s_ite (fun hd=>?_) fun hd=>?_
  ·refine no fun hh=>?_
   have:=(hh.2 y m2).2
   simp only [decide_eq_true_eq] at hd; omega
  have hy16:y.length ≤ 16:=by simp only [decide_eq_false_iff_not] at hd; omega
  have yes:Rises (L.take (i + 1))→HG B Γ (zBg.s2 Q k' s s (s.n:Int) (i:Int) false):=fun hp2=>by
   unfold zBg.s2
   refine s_f ?_
   refine s_ai ?_
   refine hk' _ ⟨i + 1,by simp,hil,hp2,fun k hk=>?_⟩ (by omega)
   rw [t2] at hk
   rcases List.mem_append.1 hk with hk | hk
   ·exact hks k hk
   ·rw [List.mem_singleton.1 hk]; exact ⟨hy1,hy16⟩
  refine s_ite (fun he=>?_) fun he=>?_
  ·obtain ⟨j,rfl⟩:∃ j,i = j + 1:=⟨i - 1,by simp only [decide_eq_true_eq] at he; omega⟩
   have g1:L[j]? = some L[j]:=List.getElem?_eq_getElem (by omega)
   have t1:L.take (j + 1) = L.take j++[L[j]]:=List.take_succ_eq_append_getElem (by omega)
   have hxy:=hpi j _ g1 (by omega)
   generalize L[j] = x at g1 t1 hxy
   refine s_ai ?_
   refine s_idxS hr g1 ?_ (by omega)
   rw [zBa,zDr]
   by_cases hlt:x < y
   ·rw [decide_eq_true hlt]
    refine yes ?_
    rw [t2]
    refine List.pairwise_append.2 ⟨hp,List.pairwise_singleton _ _,fun a ha b hb=>?_⟩
    rw [List.mem_singleton.1 hb]
    rw [t1] at ha hp
    rcases List.mem_append.1 ha with ha | ha
    ·exact List.lt_trans ((List.pairwise_append.1 hp).2.2 a ha x (by simp)) hlt
    ·rw [List.mem_singleton.1 ha]; exact hlt
   ·rw [decide_eq_false hlt]
    exact no fun hh=>hlt (hxy hh.1)
  ·have hi0:i = 0:=by simp only [decide_eq_false_iff_not] at he; omega
   subst hi0
   refine yes ?_
   rw [t2]; simp
 ·have hil:i = L.length:=by simp only [decide_eq_false_iff_not] at hb; omega
  rw [hil,List.take_length] at hp hks
  rw [decide_eq_true (show Rises L∧∀ k ∈ L,KeyOk k from ⟨hp,hks⟩)] at h
  exact h
theorem zTd {t:TxX} {x:OpX} {Q:Bool→K} (hr:∀ w,Holds B Γ w→txRd w t) (hl:t.reads.length < 10000000∧t.writes.length < 10000000) (hx:∀ w,Holds B Γ w→RdB w x.2 x.1.val) (h:HG B Γ (Q (opRight t x.1))):HG B Γ (zAn.call (txL t).toArray (opF x).toArray Q):=fun w hw=>by
 refine zNv _ _ _ _ ?_
 have hxl:x.2.n = x.1.val.length:=by have:=(hx w hw).len; simpa using this.symm
 refine Sep.hg hw ?_
 clear hw w
 unfold zAn
 refine s_new fun t2=>?_
 refine s_new fun o3=>?_
 have fin:HG B (blk o3 (.cells (opF x).toArray zBA (0,0))::blk t2 (.cells (txL t).toArray zAj (0,0))::Γ) (Q (stepOk t x.1)):=by rw [zQu]; exact s_end h
 generalize hR:stepOk t x.1 = R at fin
 unfold stepOk at hR
 have hlen:decide ((x.2.n:Int) = 0) = decide (x.1.val.length = 0):=decide_eq_decide.2 (by omega)
 have S2:∀ w k:Bool,w = decide (x.1.key ∈ t.writes)→k = decide (x.1.key ∈ t.reads++t.writes)→¬ (32 < x.1.val.length∨(x.1.n ≠ 0∧x.1.kind ≠ 6))→HG B (blk o3 (.cells (opF x).toArray zBA (0,0))::blk t2 (.cells (txL t).toArray zAj (0,0))::Γ) (zAn.s2 Q ⟨o3,0,none⟩ w k):=fun w k hw hk hn=>by
  rw [if_neg hn,← hw,← hk] at hR
  unfold zAn.s2
  repeat refine s_nx ?_
  refine s_ite (fun h2=>?_) fun h2=>?_
  ·rw [if_pos (by simpa using h2)] at hR
   rw [hR]; exact fin
  have h2':¬ x.1.kind = 2:=by simpa using h2
  rw [if_neg h2'] at hR
  have S3t:x.1.kind = 3∨x.1.kind = 6→HG B (blk o3 (.cells (opF x).toArray zBA (0,0))::blk t2 (.cells (txL t).toArray zAj (0,0))::Γ) (zAn.s3 Q ⟨o3,0,none⟩ w k x.1.kind true):=fun h36=>by
   rw [if_pos h36] at hR
   unfold zAn.s3 zAn.s4
   refine s_t ?_
   refine s_ite (fun hb=>?_) fun hb=>?_
   ·rw [hb,Bool.true_and] at hR
    repeat refine s_nx ?_
    rw [hlen,hR]; exact fin
   ·rw [hb,Bool.false_and] at hR
    rw [hR]; exact fin
  refine s_ite (fun h3=>?_) fun h3=>?_
  ·rw [show decide (x.1.kind = 3) = true from h3]
   exact S3t (.inl (by simpa using h3))
  have h3':¬ x.1.kind = 3:=by simpa using h3
  by_cases h6:x.1.kind = 6
  ·rw [decide_eq_true h6]
   exact S3t (.inr h6)
  rw [decide_eq_false h6]
  rw [if_neg (by omega)] at hR
  unfold zAn.s3
  refine s_f ?_
  refine s_ite (fun h4=>?_) fun h4=>?_
  ·rw [if_pos (by simpa using h4)] at hR
   rw [hR]; exact fin
  have h4':¬ x.1.kind = 4:=by simpa using h4
  rw [if_neg h4'] at hR
  have S5t:x.1.kind = 1∨x.1.kind = 5→HG B (blk o3 (.cells (opF x).toArray zBA (0,0))::blk t2 (.cells (txL t).toArray zAj (0,0))::Γ) (zAn.s5 Q ⟨o3,0,none⟩ k x.1.kind true):=fun h15=>by
   rw [if_pos h15] at hR
   unfold zAn.s5 zAn.s6
   refine s_t ?_
   refine s_ite (fun hb=>?_) fun hb=>?_
   ·rw [hb,Bool.true_and] at hR
    repeat refine s_nx ?_
    rw [hlen,hR]; exact fin
   ·rw [hb,Bool.false_and] at hR
    rw [hR]; exact fin
  refine s_ite (fun h1=>?_) fun h1=>?_
  ·rw [show decide (x.1.kind = 1) = true from h1]
   exact S5t (.inl (by simpa using h1))
  have h1':¬ x.1.kind = 1:=by simpa using h1
  by_cases h5:x.1.kind = 5
  ·rw [decide_eq_true h5]
   exact S5t (.inr h5)
  rw [decide_eq_false h5]
  rw [if_neg (by omega)] at hR
  unfold zAn.s5
  refine s_f ?_
  refine s_ite (fun h7=>?_) fun h7=>?_
  ·rw [if_pos (by simpa using h7)] at hR
   repeat refine s_nx ?_
   rw [zBa]
   rw [show (x.1.key == (⟨#[]⟩:ByteArray).toList) = R by rw [← hR]; cases x.1.key <;> simp]
   exact fin
  ·rw [if_neg (by simpa using h7)] at hR
   rw [hR]; exact fin
 have S1:∀ b,(b = true ↔ 32 < x.1.val.length∨(x.1.n ≠ 0∧x.1.kind ≠ 6))→HG B (blk o3 (.cells (opF x).toArray zBA (0,0))::blk t2 (.cells (txL t).toArray zAj (0,0))::Γ) (zAn.s1 Q ⟨t2,0,none⟩ ⟨o3,0,none⟩ b):=fun b hb=>by
  unfold zAn.s1
  refine s_ite (fun hb1=>?_) fun hb1=>?_
  ·rw [if_pos (hb.1 hb1)] at hR
   rw [hR]; exact fin
  have hn:¬ (32 < x.1.val.length∨(x.1.n ≠ 0∧x.1.kind ≠ 6)):=fun h=>by rw [hb.2 h] at hb1; cases hb1
  repeat refine s_nx ?_
  refine zHE (L:=t.writes) (key:=x.1.key) (by omega) (fun w hw=>(hr w hw.drops).2.1) ?_
  by_cases hw1:x.1.key ∈ t.writes
  ·rw [decide_eq_true hw1]
   refine s_t ?_
   exact S2 true true (by simp [hw1]) (by simp [hw1]) hn
  rw [decide_eq_false hw1]
  refine s_f ?_
  repeat refine s_nx ?_
  refine zHE (L:=t.reads) (key:=x.1.key) (by omega) (fun w hw=>(hr w hw.drops).1) ?_
  exact S2 false _ (by simp [hw1]) (by simp [hw1]) hn
 repeat refine s_nx ?_
 refine s_ite (fun hb=>?_) fun hb=>?_
 ·exact S1 true (by
           have:32 < x.1.val.length:=by simp only [decide_eq_true_eq] at hb; omega
           simp [this])
 have h32:¬ 32 < x.1.val.length:=by simp only [decide_eq_false_iff_not] at hb; omega
 repeat refine s_nx ?_
 refine s_ite (fun hc=>?_) fun hc=>?_
 ·have hc':x.1.n ≠ 0:=by simpa using hc
  repeat refine s_nx ?_
  exact S1 _ (by simp [h32,hc'])
 ·have hc':x.1.n = 0:=by simpa using hc
  exact S1 _ (by simp [h32,hc'])
abbrev dfV (b:Nat):Value:=.func (.func 170) #[] #[.pointer (some ⟨b,0,none⟩)]
abbrev cfV (b:Nat):Value:=.func (.func 115) #[] #[.pointer (some ⟨b,0,none⟩)]
theorem zOj {t:TxX} {Q:Bool→K} (hr:∀ w,Holds B Γ w→txRd w t) (hl:t.reads.length < 10000000∧t.writes.length < 10000000) (h:HG B Γ (Q (decide (DeclOk t)))):HG B Γ (zBp.call (txL t).toArray Q):=fun w hw=>by
 refine zKV _ _ _ ?_
 obtain ⟨n1,n2,n3⟩:=zGT (hr w hw)
 refine Sep.hg hw ?_
 clear hw w
 unfold zBp
 refine s_new fun t1=>?_
 have no:¬ DeclOk t→HG B (blk t1 (.cells (txL t).toArray zAj (0,0))::Γ) (zBp.s1 Q ⟨t1,0,none⟩ true):=fun hn=>by
  rw [decide_eq_false hn] at h
  unfold zBp.s1
  exact s_t (s_end h)
 repeat refine s_nx ?_
 refine s_ite (fun hb=>no fun hd=>by have:=hd.1; simp only [decide_eq_true_eq] at hb; omega) fun hb=>?_
 have hr8:t.reads.length ≤ 8:=by simp only [decide_eq_false_iff_not] at hb; omega
 repeat refine s_nx ?_
 refine s_ar (e':=8 - (t.rs.n:Int)) (by rw [wrap64 (by omega) (by omega)]) ?_
 refine s_ite (fun hb2=>no fun hd=>by have:=hd.2.1; simp only [decide_eq_true_eq] at hb2; omega) fun hb2=>?_
 have hw8:t.writes.length ≤ 8 - t.reads.length:=by simp only [decide_eq_false_iff_not] at hb2; omega
 repeat refine s_nx ?_
 refine zN6 (L:=t.reads) (by omega) (fun w hw=>(hr w hw.drops).1) ?_
 by_cases hr1:Rises t.reads∧∀ k ∈ t.reads,KeyOk k
 rotate_left
 ·rw [decide_eq_false hr1]
  exact s_t (no fun hd=>hr1 hd.2.2.1)
 rw [decide_eq_true hr1]
 refine s_f ?_
 repeat refine s_nx ?_
 refine zN6 (L:=t.writes) (by omega) (fun w hw=>(hr w hw.drops).2.1) ?_
 by_cases hr2:Rises t.writes∧∀ k ∈ t.writes,KeyOk k
 rotate_left
 ·rw [decide_eq_false hr2]
  exact no fun hd=>hr2 hd.2.2.2.1
 rw [decide_eq_true hr2]
 unfold zBp.s1
 refine s_f ?_
 repeat refine s_nx ?_
 have ok:decide (DeclOk t) = !(t.reads.any fun k=>decide (k ∈ t.writes)):=by
  rw [Bool.eq_iff_iff]
  simp only [decide_eq_true_eq,Bool.not_eq_true',List.any_eq_false]
  constructor
  ·exact fun hd=>fun k hk=>hd.2.2.2.2 k hk
  ·exact fun ha=>⟨hr8,hw8,hr1,hr2,fun k hk=>by simpa using ha k hk⟩
 rw [ok] at h
 refine fun w hw=>zEP _ _ _ _ ?_
 refine Sep.hg hw ?_
 clear hw w
 unfold zBm
 refine fun w hw=>zEo _ _ _ _ ?_
 refine Sep.hg hw ?_
 clear hw w
 show HG B _ (idxFK Tryz.prog (acc1 Value.string) t.rs (dfV t1) _)
 refine zGQ (vV:=fun x:TX=>strV x) (L:=t.reads) (fun k=>decide (k ∈ t.writes)) n1 (by omega) (fun i x k hx hk=>s_idxS (fun w hw=>(hr w hw.drops).1) hx hk) (fun x q _ hq=>?_) ?_
 ·refine zEY (cs:=[.pointer (some ⟨t1,0,none⟩)]) ?_
  refine fun w hw=>zI3 _ _ _ _ ?_
  refine Sep.hg hw ?_
  clear hw w
  unfold zES
  repeat refine s_nx ?_
  refine zHE (L:=t.writes) (key:=x) (by omega) (fun w hw=>(hr w hw.drops).2.1) ?_
  exact hq
 ·rw [zHA,zLk]
  exact s_end h
theorem zN7 {t:TxX} {n:Int} {Q:Int→K} (hr:∀ w,Holds B Γ w→txRd w t) (hl:t.reads.length < 10000000∧t.writes.length < 10000000∧t.ops.length < 10000000) (h:HG B Γ (Q (if rightT n t then 0 else 1))):HG B Γ (zA6.call (txL t).toArray n Q):=fun w hw=>by
 refine zM3 _ _ _ _ ?_
 obtain ⟨n1,n2,n3⟩:=zGT (hr w hw)
 refine Sep.hg hw ?_
 clear hw w
 unfold zA6
 refine s_new fun t2=>?_
 have S2:∀ b,b = rightT n t→HG B (blk t2 (.cells (txL t).toArray zAj (0,0))::Γ) (zA6.s2 Q b):=fun b hb=>by
  unfold zA6.s2
  rw [← hb] at h
  refine s_ite (fun hc=>?_) fun hc=>?_
  ·have:b = false:=by simpa using hc
   rw [this] at h
   exact s_end h
  ·have:b = true:=by simpa using hc
   rw [this] at h
   exact s_end h
 have S1:∀ b,(b = true ↔ ¬ headBad n t∧¬ keysBad t)→HG B (blk t2 (.cells (txL t).toArray zAj (0,0))::Γ) (zA6.s1 Q n ⟨t2,0,none⟩ b):=fun b hb=>by
  have hR:rightT n t = (b && if t.kind = 2 then decide (t.reads.length = 0) && (decide (t.ops.length = 0) && (decide (t.writes.length = 1) && (decide (0 ≤ t.to) && decide (t.to < n))))
    else if t.kind ≠ 1∨t.to ≠ 0∨16 < t.ops.length then false else t.ops.all fun x=>opRight t x.1):=by
   unfold rightT
   cases b with
   | true =>
    obtain ⟨h1,h2⟩:=hb.1 rfl
    rw [if_neg h1,if_neg h2,Bool.true_and]
   | false =>
    rw [Bool.false_and]
    by_cases h1:headBad n t
    ·rw [if_pos h1]
    ·rw [if_neg h1]
     by_cases h2:keysBad t
     ·rw [if_pos h2]
     ·exact absurd (hb.2 ⟨h1,h2⟩) (by simp)
  unfold zA6.s1
  repeat refine s_nx ?_
  refine s_ite (fun hk1=>?_) fun hk1=>?_
  ·have hk1':t.kind = 1:=by simpa using hk1
   rw [if_neg (by omega)] at hR
   refine s_ite (fun hb1=>?_) fun hb1=>?_
   rotate_left
   ·exact S2 _ (by rw [hR,hb1]; rfl)
   rw [hb1,Bool.true_and] at hR
   repeat refine s_nx ?_
   refine s_ite (fun hto=>?_) fun hto=>?_
   rotate_left
   ·have:t.to ≠ 0:=by simpa using hto
    exact S2 _ (by rw [hR,if_pos (.inr (.inl this))])
   have hto':t.to = 0:=by simpa using hto
   repeat refine s_nx ?_
   refine s_ite (fun ho=>?_) fun ho=>?_
   rotate_left
   ·have:16 < t.ops.length:=by simp only [decide_eq_false_iff_not] at ho; omega
    exact S2 _ (by rw [hR,if_pos (.inr (.inr this))])
   have ho':¬ 16 < t.ops.length:=by simp only [decide_eq_true_eq] at ho; omega
   rw [if_neg (by rintro (g | g | g) <;> contradiction)] at hR
   repeat refine s_nx ?_
   refine fun w hw=>zEO _ _ _ _ ?_
   refine Sep.hg hw ?_
   clear hw w
   unfold zBl
   refine fun w hw=>zEn _ _ _ _ ?_
   refine Sep.hg hw ?_
   clear hw w
   show HG B _ (idxFK Tryz.prog (accN 4) t.os (cfV t2) _)
   refine zGQ (vV:=fun x=>.agg (opF x).toArray) (L:=t.ops) (fun x=>!opRight t x.1) n3 (by omega) (fun i x k hx hk=>acc_rd zC4 (by omega) (fun w hw=>(hr w hw.drops).2.2.1) hx hk) (fun x q hx hq=>?_) ?_
   ·refine zEY (cs:=[.pointer (some ⟨t2,0,none⟩)]) ?_
    refine fun w hw=>zLB _ _ _ _ ?_
    refine Sep.hg hw ?_
    clear hw w
    unfold zFY
    refine s_new fun o2=>?_
    repeat refine s_nx ?_
    refine zTd (t:=t) (x:=x) (fun w hw=>hr w hw.drops) ⟨by omega,by omega⟩ (fun w hw=>(hr w hw.drops).2.2.2 x hx) ?_
    exact s_end hq
   ·rw [zHA,zLk]
    refine S2 _ ?_
    rw [hR,List.all_eq_not_any_not]
  have hk1':¬ t.kind = 1:=by simpa using hk1
  refine s_ite (fun hk2=>?_) fun hk2=>?_
  rotate_left
  ·have hk2':¬ t.kind = 2:=by simpa using hk2
   rw [if_neg hk2',if_pos (.inl hk1'),Bool.and_false] at hR
   exact S2 _ hR.symm
  have hk2':t.kind = 2:=by simpa using hk2
  rw [if_pos hk2'] at hR
  refine s_ite (fun hb1=>?_) fun hb1=>?_
  rotate_left
  ·exact S2 _ (by rw [hR,hb1]; rfl)
  rw [hb1,Bool.true_and] at hR
  repeat refine s_nx ?_
  refine s_ite (fun he=>?_) fun he=>?_
  rotate_left
  ·refine S2 _ ?_
   rw [hR,show decide (t.reads.length = 0) = false from decide_eq_false (by simp only [decide_eq_false_iff_not] at he; omega)]; rfl
  rw [show decide (t.reads.length = 0) = true from decide_eq_true (by simp only [decide_eq_true_eq] at he; omega),Bool.true_and] at hR
  repeat refine s_nx ?_
  refine s_ite (fun he2=>?_) fun he2=>?_
  rotate_left
  ·refine S2 _ ?_
   rw [hR,show decide (t.ops.length = 0) = false from decide_eq_false (by simp only [decide_eq_false_iff_not] at he2; omega)]; rfl
  rw [show decide (t.ops.length = 0) = true from decide_eq_true (by simp only [decide_eq_true_eq] at he2; omega),Bool.true_and] at hR
  repeat refine s_nx ?_
  refine s_ite (fun he3=>?_) fun he3=>?_
  rotate_left
  ·refine S2 _ ?_
   rw [hR,show decide (t.writes.length = 1) = false from decide_eq_false (by simp only [decide_eq_false_iff_not] at he3; omega)]; rfl
  rw [show decide (t.writes.length = 1) = true from decide_eq_true (by simp only [decide_eq_true_eq] at he3; omega),Bool.true_and] at hR
  repeat refine s_nx ?_
  refine s_ite (fun he4=>?_) fun he4=>?_
  rotate_left
  ·refine S2 _ ?_
   rw [hR,he4]; rfl
  rw [he4,Bool.true_and] at hR
  repeat refine s_nx ?_
  exact S2 _ hR.symm
 refine s_ite (fun hb=>?_) fun hb=>?_
 rotate_left
 ·have:n < 1:=by simp only [decide_eq_false_iff_not] at hb; omega
  exact S1 _ (by simp [headBad,this])
 have hn1:1 ≤ n:=by simpa using hb
 refine s_ite (fun hb=>?_) fun hb=>?_
 rotate_left
 ·have:3 < n:=by simp only [decide_eq_false_iff_not] at hb; omega
  exact S1 _ (by simp [headBad,this])
 have hn3:n ≤ 3:=by simpa using hb
 repeat refine s_nx ?_
 refine zOj (t:=t) (fun w hw=>hr w hw.drops) ⟨by omega,by omega⟩ ?_
 exact S1 _ (by rw [decide_eq_true_eq]; exact zSL hn1 hn3)
end
end Go.Proofs.YtdemfamgieonbaaGreat
namespace Go.Proofs.YtdemfamgieonbaaGreat
open Go Go.Sep
abbrev OX:=List ((Bool×List UInt8)×Sl)
def oF (x:(Bool×List UInt8)×Sl):List Value:=[.bool x.1.1,x.2.val]
theorem oF_len (x:(Bool×List UInt8)×Sl):(oF x).length = 2:=rfl
abbrev oB (x:(Bool×List UInt8)×Sl):HProp:=Bytes zAd x.2 x.1.2
end Go.Proofs.YtdemfamgieonbaaGreat
namespace Go.Sep
open Go Go.RowKit
section
variable {P:Program} {B:World} {Γ Δ:List HProp} {E esz:Nat} {s:Sl} {vs:List Value}
end
end Go.Sep
namespace Go.Sep
open Go Go.RowKit
section
variable {B:World} {Γ Δ:List HProp} {k:K}
theorem zSM (us l:List Value) (off:Nat) (h:off + us.length ≤ l.length):(us.zipIdx off).foldl (fun (c:Array Value) q=>c.setIfInBounds q.2 q.1) l.toArray = (l.take off++us++l.drop (off + us.length)).toArray:=by
 apply Array.ext
 ·rw [fold_size]
  simp; omega
 intro i h1 h2
 rw [fold_size] at h1
 simp only [List.size_toArray] at h1
 have e:∀ (a b:Array Value) (ha:i < a.size) (hb:i < b.size),a[i]? = b[i]?→a[i] = b[i]:=fun a b ha hb hab=>by
  rw [Array.getElem?_eq_getElem ha,Array.getElem?_eq_getElem hb] at hab
  exact Option.some.inj hab
 have e2:∀ L:List Value,L.toArray[i]? = L[i]?:=fun L=>by simp
 apply e
 rw [e2 (l.take off++us++l.drop (off + us.length)),List.append_assoc,List.getElem?_append]
 split
 ·rename_i h3
  simp only [List.length_take] at h3
  rw [zEV _ _ _ _ (by omega),List.getElem?_take,if_pos (by omega),e2 l]
 ·rename_i h3
  simp only [List.length_take] at h3 ⊢
  rw [show min off l.length = off by omega] at h3 ⊢
  rw [List.getElem?_append]
  split
  ·rename_i h4
   have h5:=zJL us off l.toArray (i - off) h4 (by simp only [List.size_toArray]; omega)
   rw [show off + (i - off) = i by omega] at h5
   exact h5
  ·rename_i h4
   rw [zEV _ _ _ _ (by omega),List.getElem?_drop,e2 l,show off + us.length + (i - off - us.length) = i by omega]
theorem s_stNP {a:Addr} {b off n:Nat} {l us:List Value} {T:TypeId} (l':List Value) (h:HG B (blk b (.cells l'.toArray T (0,0))::Δ) k) [ad:AdrIs a b off] [p:Own b Γ (blk b (.cells l.toArray T (0,0))) Δ] (hn:us.length = n:=by rfl) (ho:off + n ≤ l.length:=by exact Nat.le_of_ble_eq_true rfl) (hl:l.take off++us++l.drop (off + n) = l':=by rfl)
  (hf:us.all flatV = true:=by rfl):HG B Γ (StN a n us.toArray k):=fun w hw=>by
 subst hn
 subst hl
 have h1:=hw.perm p.perm
 have hb:=h1.block
 rw [ad.h]
 refine ⟨_,rfl,by simp,fun i hi=>?_,by simpa using zHp hf,h _ ?_⟩
 ·simp only [List.size_toArray] at hi
  rw [add_mk]
  have hlt:off + i < l.toArray.size:=by simp only [List.size_toArray]; omega
  exact ⟨⟨_,zBr hb (Array.getElem?_eq_getElem hlt)⟩,zDb hb (by omega)⟩
 ·rw [zDq _ _ _ _ _ hb,Nat.add_zero]
  have:=zSM us l off ho
  simp only at this ⊢
  rw [this]
  exact h1.setBlock rfl
end
end Go.Sep
namespace Go.Proofs.YtdemfamgieonbaaGreat
open Go Go.Sep
set_option maxRecDepth 100000
set_option maxHeartbeats 4000000
attribute [local irreducible] G Gp Cx Tx Ex Sx Dx Ox Ax Lx Rx Fx Bx Bj Al Do Ld LdN St StN New CallF Ar DoU Rd Rd2 Pu Cd Ite Fv CallV CallY Ans0 Ans1 Ans2 Ans3 Ans4 Ans5 Ext Dead Dr WithS Sv LdS LdNS RdS Rd2S Nn Idx IdxA IdxS Fld Bld Slc SlcS Cat All LoopK RangeF RangeJ TakeD
namespace F_IROrder
instance at_123:AT Tryz.prog 123 4:=⟨by kernel_rfl⟩
instance at_25:AT Tryz.prog 25 5:=⟨by kernel_rfl⟩
instance at_35:AT Tryz.prog 35 3:=⟨by kernel_rfl⟩
instance at_40:AT Tryz.prog 40 10:=⟨by kernel_rfl⟩
instance at_84:AT Tryz.prog 84 3:=⟨by kernel_rfl⟩
instance cb_102:CB Tryz.prog 102:=⟨by kernel_rfl⟩
instance cb_13:CB Tryz.prog 13:=⟨by kernel_rfl⟩
instance cb_146:CB Tryz.prog 146:=⟨by kernel_rfl⟩
instance cb_147:CB Tryz.prog 147:=⟨by kernel_rfl⟩
instance cb_148:CB Tryz.prog 148:=⟨by kernel_rfl⟩
instance cb_149:CB Tryz.prog 149:=⟨by kernel_rfl⟩
instance cb_50:CB Tryz.prog 50:=⟨by kernel_rfl⟩
instance cb_51:CB Tryz.prog 51:=⟨by kernel_rfl⟩
instance cb_54:CB Tryz.prog 54:=⟨by kernel_rfl⟩
instance cb_65:CB Tryz.prog 65:=⟨by kernel_rfl⟩
instance cb_66:CB Tryz.prog 66:=⟨by kernel_rfl⟩
instance cb_89:CB Tryz.prog 89:=⟨by kernel_rfl⟩
instance cb_90:CB Tryz.prog 90:=⟨by kernel_rfl⟩
instance cb_91:CB Tryz.prog 91:=⟨by kernel_rfl⟩
instance cb_92:CB Tryz.prog 92:=⟨by kernel_rfl⟩
instance ct_2:CT Tryz.prog 2:=⟨by kernel_rfl⟩
instance ct_22:CT Tryz.prog 22:=⟨by kernel_rfl⟩
instance ct_23:CT Tryz.prog 23:=⟨by kernel_rfl⟩
instance ct_3:CT Tryz.prog 3:=⟨by kernel_rfl⟩
instance ct_33:CT Tryz.prog 33:=⟨by kernel_rfl⟩
instance ct_38:CT Tryz.prog 38:=⟨by kernel_rfl⟩
instance ct_85:CT Tryz.prog 85:=⟨by kernel_rfl⟩
instance ct_9:CT Tryz.prog 9:=⟨by kernel_rfl⟩
instance zIB:FT Tryz.prog 123 0 0 1:=⟨by kernel_rfl⟩
instance zIC:FT Tryz.prog 123 1 1 1:=⟨by kernel_rfl⟩
instance zID:FT Tryz.prog 123 2 2 1:=⟨by kernel_rfl⟩
instance zIE:FT Tryz.prog 123 3 3 1:=⟨by kernel_rfl⟩
instance zGR:FT Tryz.prog 25 0 0 1:=⟨by kernel_rfl⟩
instance zPL:FT Tryz.prog 25 1 1 1:=⟨by kernel_rfl⟩
instance zHK:FT Tryz.prog 25 2 2 1:=⟨by kernel_rfl⟩
instance zJi:FT Tryz.prog 25 3 3 1:=⟨by kernel_rfl⟩
instance zJj:FT Tryz.prog 25 4 4 1:=⟨by kernel_rfl⟩
instance zTe:FT Tryz.prog 35 0 0 1:=⟨by kernel_rfl⟩
instance zTf:FT Tryz.prog 35 1 1 1:=⟨by kernel_rfl⟩
instance zTg:FT Tryz.prog 35 2 2 1:=⟨by kernel_rfl⟩
instance zLz:FT Tryz.prog 37 0 0 3:=⟨by kernel_rfl⟩
instance zL0:FT Tryz.prog 37 1 3 1:=⟨by kernel_rfl⟩
instance zHS:FT Tryz.prog 40 0 0 4:=⟨by kernel_rfl⟩
instance zPS:FT Tryz.prog 40 1 4 5:=⟨by kernel_rfl⟩
instance zLw:FT Tryz.prog 40 2 9 1:=⟨by kernel_rfl⟩
instance zLx:FT Tryz.prog 48 0 0 1:=⟨by kernel_rfl⟩
instance zJr:FT Tryz.prog 48 1 1 1:=⟨by kernel_rfl⟩
instance zLy:FT Tryz.prog 48 2 2 10:=⟨by kernel_rfl⟩
instance zPT:FT Tryz.prog 84 0 0 1:=⟨by kernel_rfl⟩
instance zLu:FT Tryz.prog 84 1 1 1:=⟨by kernel_rfl⟩
instance zTa:FT Tryz.prog 84 2 2 1:=⟨by kernel_rfl⟩
instance in_2:INT Tryz.prog 2 .i64:=⟨by kernel_rfl⟩
instance in_3:INT Tryz.prog 3 .i64:=⟨by kernel_rfl⟩
instance in_33:INT Tryz.prog 33 .u64:=⟨by kernel_rfl⟩
instance mx:MX Tryz.prog:=⟨mixed⟩
instance pl_207:PLT Tryz.prog 207 [(0,1)]:=⟨_,Tryz.underlying207,by kernel_rfl⟩
instance sl_22:SLT Tryz.prog 22 9 1:=⟨by kernel_rfl⟩
instance sl_23:SLT Tryz.prog 23 123 4:=⟨by kernel_rfl⟩
instance sl_275:SLT Tryz.prog 275 33 1:=⟨by kernel_rfl⟩
instance sl_38:SLT Tryz.prog 38 84 3:=⟨by kernel_rfl⟩
instance sl_42:SLT Tryz.prog 42 3 1:=⟨by kernel_rfl⟩
instance sz_123:SZ Tryz.prog 123 4:=⟨by kernel_rfl⟩
instance sz_25:SZ Tryz.prog 25 5:=⟨by kernel_rfl⟩
instance sz_35:SZ Tryz.prog 35 3:=⟨by kernel_rfl⟩
instance sz_38:SZ Tryz.prog 38 1:=⟨by kernel_rfl⟩
instance sz_40:SZ Tryz.prog 40 10:=⟨by kernel_rfl⟩
instance sz_84:SZ Tryz.prog 84 3:=⟨by kernel_rfl⟩
instance zt_123:ZT Tryz.prog 123 (.agg #[(.int .i64 0),(.string ⟨#[]⟩),(Sl.val ⟨none,0,0⟩),(.int .i64 0)]):=⟨Tryz.t123,by kernel_rfl,by kernel_rfl⟩
instance zt_207:ZT Tryz.prog 207 (.agg #[(Sl.val ⟨none,0,0⟩)]):=⟨Tryz.t207,by kernel_rfl,by kernel_rfl⟩
instance zt_3:ZT Tryz.prog 3 (.int .i64 0):=⟨Tryz.t3,by kernel_rfl,by kernel_rfl⟩
instance zt_33:ZT Tryz.prog 33 (.int .u64 0):=⟨Tryz.t33,by kernel_rfl,by kernel_rfl⟩
instance zt_35:ZT Tryz.prog 35 (.agg #[(.int .i64 0),(.int .u64 0),(.int .u64 0)]):=⟨Tryz.t35,by kernel_rfl,by kernel_rfl⟩
instance zt_40:ZT Tryz.prog 40 (.agg #[(.int .i64 0),(.int .u64 0),(.int .u64 0),(.int .i64 0),(.int .i64 0),(Sl.val ⟨none,0,0⟩),(Sl.val ⟨none,0,0⟩),(Sl.val ⟨none,0,0⟩),(.int .i64 0),(Sl.val ⟨none,0,0⟩)]):=⟨Tryz.t40,by kernel_rfl,by kernel_rfl⟩
instance zt_84:ZT Tryz.prog 84 (.agg #[(.string ⟨#[]⟩),(.int .i64 0),(.int .u64 0)]):=⟨Tryz.t84,by kernel_rfl,by kernel_rfl⟩
end F_IROrder
def zBM.s2 (Q:Sl→K) (X1:Sl→Int→K) (out2_2:Sl):K :=
 zDf.call out2_2 <|
 zAY.call out2_2 fun t25 =>
 Q t25
def zBM.b1 (Q:Sl→K)  (X1:Sl→Int→K) (t6_1:Sl) (t7_1:Int) (out2_1:Sl) (t8_1:Int):K :=
 Ite (decide (t8_1 < t7_1))
  (Idx t6_1 t8_1 3 fun t10 =>
  LdN t10 3 fun t11 =>
  New 84 #[(.string ⟨#[]⟩),(.int .i64 0),(.int .u64 0)] fun m4 =>
  StN m4 3 t11 <|
  Ld (m4.add 1) (Value.int .i64) fun t14 =>
  New 3 #[(.int .i64 t14)] fun t15 =>
  Do Tryz.prog (Builtin.append_ #[42,42] 42 #[(Sl.val out2_1),(Sl.val (Sl.mk (some t15) 1 1))]) Sl.val fun t16 =>
  Ar (IntKind.wrap .i64 (t8_1 + 1)) fun t17 =>
  X1 t16 t17)
  (Ite (decide ((out2_1.n:Int) = 0))
   (New 3 #[(.int .i64 0)] fun t21 =>
   zBM.s2 Q X1 (Sl.mk (some t21) 1 1))
   (zBM.s2 Q X1 out2_1))
def zBM (o0:(Array Value)) (Q:Sl→K):K :=
 New 40 o0 fun o1 =>
 Ld (o1.add 9) Sl.val fun t6 =>
 LoopK (α:=Sl×Int) (fun X x=>zBM.b1 Q (fun out2_1 t8_1=>X (out2_1,t8_1)) t6 (t6.n:Int) x.1 x.2) ((Sl.mk none 0 0),0)
theorem zL1 (o0:(Array Value)) (Q:Sl→K) (w:World) (h:zBM o0 Q w):zBM.call o0 Q w:=by
 have hJ8:∀ (X1:(Sl×Int)→K),XH 2 X1→JH 8 fun D=>D [] (fun C=>∀ (out2_2:Sl),C [(2,(Sl.val out2_2))] (zBM.s2 Q (fun out2_1 t8_1=>X1 (out2_1,t8_1)) out2_2)):=by intros; exact ⟨fun _ h=>⟨_,_,h⟩⟩
 have hL2:∀ (t6_1:Sl) (t7_1:Int),LH 2 (fun x:Sl×Int=>[(2,(Sl.val x.1)),(6,(Sl.val t6_1)),(7,(.int .i64 t7_1)),(8,(.int .i64 x.2))]) (fun X x=>zBM.b1 Q (fun out2_1 t8_1=>X (out2_1,t8_1)) t6_1 t7_1 x.1 x.2):=by intros; exact ⟨⟩
 exact g_walk 26 h Tryz.func13
def zB8.s1 (Q:Bool→K)  (t2_1:Bool):K :=
 Q t2_1
def zB8 (o0:(Array Value)) (Q:Bool→K):K :=
 New 40 o0 fun o1 =>
 Ld (o1.add 4) (Value.int .i64) fun t5 =>
 Ite (decide (t5 = 1))
  (LdN o1 10 fun t8 =>
  zBM.call t8 fun t9 =>
  zB8.s1 Q (decide ((t9.n:Int) = 1)))
  (zB8.s1 Q false)
theorem zLE (o0:(Array Value)) (Q:Bool→K) (w:World) (h:zB8 o0 Q w):zB8.call o0 Q w:=by
 have hJ1000001:JH 1000001 fun D=>D [] (fun C=>∀ (t2_1:Bool),C [(2,(.bool t2_1))] (zB8.s1 Q t2_1)):=by intros; exact ⟨fun _ h=>⟨_,_,h⟩⟩
 exact g_walk 13 h Tryz.func14
def zAk.s2 (Q:Sl→Int→K)  (i1_2:Addr) (t36_2:Bool):K :=
 Ite t36_2
  (Q (Sl.mk none 0 0) 1)
  (New 207 #[(Sl.val ⟨none,0,0⟩)] fun t38 =>
  Ld i1_2 (Value.int .i64) fun t41 =>
  Ar (IntKind.wrap .u64 t41) fun t42 =>
  Ld (i1_2.add 1) (Value.int .i64) fun t44 =>
  Ar (IntKind.wrap .u64 t44) fun t45 =>
  New 33 #[(.int .u64 t42),(.int .u64 t45)] fun t46 =>
  zDC.call (some t38) (Sl.mk (some t46) 2 2) <|
  LdN (i1_2.add 2) 10 fun t50 =>
  zB9.call (some t38) t50 <|
  zD0.call (some t38) fun t53 =>
  Q t53 0)
def zAk.s1 (Q:Sl→Int→K)  (i1_1:Addr) (ok4_1:Bool):K :=
 Ite (!ok4_1)
  (zAk.s2 Q i1_1 true)
  (LdN (i1_1.add 2) 10 fun t33 =>
  zAX.call t33 3 fun t34 =>
  zAk.s2 Q i1_1 (decide (t34 ≠ 0)))
def zAk (i0:(Array Value)) (Q:Sl→Int→K):K :=
 New 48 i0 fun i1 =>
 Ld i1 (Value.int .i64) fun t7 =>
 Ite (decide (t7 = 1))
  (Ld (i1.add 1) (Value.int .i64) fun t11 =>
  Ite (decide (t11 = 0))
   (zAk.s1 Q i1 true)
   (Ld i1 (Value.int .i64) fun t16 =>
   Ite (decide (t16 = 2))
    (Ld (i1.add 1) (Value.int .i64) fun t20 =>
    Ite (decide ((0:Int) ≤ t20))
     (Ld (i1.add 1) (Value.int .i64) fun t25 =>
     zAk.s1 Q i1 (decide (t25 < 64)))
     (zAk.s1 Q i1 false))
    (zAk.s1 Q i1 false)))
  (Ld i1 (Value.int .i64) fun t16 =>
  Ite (decide (t16 = 2))
   (Ld (i1.add 1) (Value.int .i64) fun t20 =>
   Ite (decide ((0:Int) ≤ t20))
    (Ld (i1.add 1) (Value.int .i64) fun t25 =>
    zAk.s1 Q i1 (decide (t25 < 64)))
    (zAk.s1 Q i1 false))
   (zAk.s1 Q i1 false))
theorem zJC (i0:(Array Value)) (Q:Sl→Int→K) (w:World) (h:zAk i0 Q w):zAk.call i0 Q w:=by
 have hJ3:JH 3 fun D=>∃ (i1_2:Addr),D [(1,(.pointer (some i1_2)))] (fun C=>∀ (t36_2:Bool),C [(1,(.pointer (some i1_2))),(36,(.bool t36_2))] (zAk.s2 Q i1_2 t36_2)):=by intros; exact ⟨fun _ ⟨_,h⟩=>⟨_,_,h⟩⟩
 have hJ2:JH 2 fun D=>∃ (i1_1:Addr),D [(1,(.pointer (some i1_1)))] (fun C=>∀ (ok4_1:Bool),C [(1,(.pointer (some i1_1))),(4,(.bool ok4_1))] (zAk.s1 Q i1_1 ok4_1)):=by intros; exact ⟨fun _ ⟨_,h⟩=>⟨_,_,h⟩⟩
 exact g_walk 54 h Tryz.func52
def zAX.s5 (Q:Int→K) (X4:Int→K) (regions1_5:Int) (keys6_5:Sl) (t64_5:Sl) (t65_5:Int) (t66_5:Int) (t88_5:Bool):K :=
 Ite t88_5
  (Q 1)
  (Ar (IntKind.wrap .i64 (t66_5 + 1)) fun t89 =>
  X4 t89)
def zAX.b4 (Q:Int→K)  (X4:Int→K) (regions1_4:Int) (keys6_4:Sl) (t64_4:Sl) (t65_4:Int) (t66_4:Int):K :=
 Ite (decide (t66_4 < t65_4))
  (Idx t64_4 t66_4 3 fun t69 =>
  LdN t69 3 fun t70 =>
  New 84 #[(.string ⟨#[]⟩),(.int .i64 0),(.int .u64 0)] fun m9 =>
  StN m9 3 t70 <|
  Dr <|
  Ld m9 Value.string fun t72 =>
  Idx keys6_4 t66_4 1 fun t75 =>
  Ld t75 Value.string fun t76 =>
  Ite (!(t72.toList == t76.toList))
   (zAX.s5 Q X4 regions1_4 keys6_4 t64_4 t65_4 t66_4 true)
   (Ld (m9.add 1) (Value.int .i64) fun t80 =>
   Ite (decide (t80 < 0))
    (zAX.s5 Q X4 regions1_4 keys6_4 t64_4 t65_4 t66_4 true)
    (Ld (m9.add 1) (Value.int .i64) fun t85 =>
    zAX.s5 Q X4 regions1_4 keys6_4 t64_4 t65_4 t66_4 (decide (regions1_4 ≤ t85)))))
  (Q 0)
def zAX.s3 (Q:Int→K)  (regions1_3:Int) (o2_3:Addr) (keys6_3:Sl) (t62_3:Bool):K :=
 Ite t62_3
  (Q 1)
  (Ld (o2_3.add 9) Sl.val fun t64 =>
  LoopK (α:=Int) (fun X x=>zAX.b4 Q X regions1_3 keys6_3 t64 (t64.n:Int) x) 0)
def zAX.s2 (Q:Int→K)  (regions1_2:Int) (o2_2:Addr) (keys6_2:Sl) (ok7_2:Bool):K :=
 Ite (!ok7_2)
  (zAX.s3 Q regions1_2 o2_2 keys6_2 true)
  (Ld (o2_2.add 9) Sl.val fun t57 =>
  zAX.s3 Q regions1_2 o2_2 keys6_2 (decide ((t57.n:Int) ≠ (keys6_2.n:Int))))
def zAX.s1 (Q:Int→K)  (regions1_1:Int) (o2_1:Addr) (id5_1:Addr) (keys6_1:Sl):K :=
 LdN (o2_1.add 4) 5 fun t17 =>
 zA6.call t17 regions1_1 fun t19 =>
 Ite (decide (t19 = 0))
  (Ld id5_1 (Value.int .i64) fun t23 =>
  Ite (decide ((0:Int) ≤ t23))
   (Ld id5_1 (Value.int .i64) fun t28 =>
   Ite (decide (t28 < 9))
    (Ld (id5_1.add 1) (Value.int .u64) fun t33 =>
    Ite (decide ((0:Int) < t33))
     (Ld (id5_1.add 2) (Value.int .u64) fun t38 =>
     Ite (decide ((0:Int) < t38))
      (Ld (o2_1.add 3) (Value.int .i64) fun t44 =>
      Ite (decide ((0:Int) ≤ t44))
       (Ld (o2_1.add 3) (Value.int .i64) fun t50 =>
       zAX.s2 Q regions1_1 o2_1 keys6_1 (decide (t50 < 3)))
       (zAX.s2 Q regions1_1 o2_1 keys6_1 false))
      (zAX.s2 Q regions1_1 o2_1 keys6_1 false))
     (zAX.s2 Q regions1_1 o2_1 keys6_1 false))
    (zAX.s2 Q regions1_1 o2_1 keys6_1 false))
   (zAX.s2 Q regions1_1 o2_1 keys6_1 false))
  (zAX.s2 Q regions1_1 o2_1 keys6_1 false)
def zAX (o0:(Array Value)) (regions1:Int) (Q:Int→K):K :=
 New 40 o0 fun o2 =>
 Dr <| WithS fun S =>
 LdNS S o2 3 fun t12 =>
 LdNS S (o2.add 4) 5 fun t14 =>
 All [
  (zEF.call t14 fun t15 =>
  Sv S <|
  New 35 #[(.int .i64 0),(.int .u64 0),(.int .u64 0)] fun id5 =>
  Sv S <|
  StN id5 3 t12 <|
  zAX.s1 Q regions1 o2 id5 t15),
  (New 35 #[(.int .i64 0),(.int .u64 0),(.int .u64 0)] fun id5 =>
  Sv S <|
  zEF.call t14 fun t15 =>
  Sv S <|
  StN id5 3 t12 <|
  zAX.s1 Q regions1 o2 id5 t15)
  ]
theorem zL2 (o0:(Array Value)) (regions1:Int) (Q:Int→K) (w:World) (h:zAX o0 regions1 Q w):zAX.call o0 regions1 Q w:=by
 have hJ9:∀ (X4:Int→K),XH 6 X4→JH 9 fun D=>∃ (regions1_5:Int) (keys6_5:Sl) (t64_5:Sl) (t65_5:Int) (t66_5:Int),D [(1,(.int .i64 regions1_5)),(6,(Sl.val keys6_5)),(64,(Sl.val t64_5)),(65,(.int .i64 t65_5)),(66,(.int .i64 t66_5))] (fun C=>∀ (t88_5:Bool),C [(1,(.int .i64 regions1_5)),(6,(Sl.val keys6_5)),(64,(Sl.val t64_5)),(65,(.int .i64 t65_5)),(66,(.int .i64 t66_5)),(88,(.bool t88_5))] (zAX.s5 Q X4 regions1_5 keys6_5 t64_5 t65_5 t66_5 t88_5)):=by intros; exact ⟨fun _ ⟨_,_,_,_,_,h⟩=>⟨_,_,h⟩⟩
 have hL6:∀ (regions1_4:Int) (keys6_4:Sl) (t64_4:Sl) (t65_4:Int),LH 6 (fun x:Int=>[(1,(.int .i64 regions1_4)),(6,(Sl.val keys6_4)),(64,(Sl.val t64_4)),(65,(.int .i64 t65_4)),(66,(.int .i64 x))]) (fun X x=>zAX.b4 Q X regions1_4 keys6_4 t64_4 t65_4 x):=by intros; exact ⟨⟩
 have hJ4:JH 4 fun D=>∃ (regions1_3:Int) (o2_3:Addr) (keys6_3:Sl),D [(1,(.int .i64 regions1_3)),(2,(.pointer (some o2_3))),(6,(Sl.val keys6_3))] (fun C=>∀ (t62_3:Bool),C [(1,(.int .i64 regions1_3)),(2,(.pointer (some o2_3))),(6,(Sl.val keys6_3)),(62,(.bool t62_3))] (zAX.s3 Q regions1_3 o2_3 keys6_3 t62_3)):=by intros; exact ⟨fun _ ⟨_,_,_,h⟩=>⟨_,_,h⟩⟩
 have hJ3:JH 3 fun D=>∃ (regions1_2:Int) (o2_2:Addr) (keys6_2:Sl),D [(1,(.int .i64 regions1_2)),(2,(.pointer (some o2_2))),(6,(Sl.val keys6_2))] (fun C=>∀ (ok7_2:Bool),C [(1,(.int .i64 regions1_2)),(2,(.pointer (some o2_2))),(6,(Sl.val keys6_2)),(7,(.bool ok7_2))] (zAX.s2 Q regions1_2 o2_2 keys6_2 ok7_2)):=by intros; exact ⟨fun _ ⟨_,_,_,h⟩=>⟨_,_,h⟩⟩
 have hJ2:JH 2 fun D=>∃ (regions1_1:Int) (o2_1:Addr),D [(1,(.int .i64 regions1_1)),(2,(.pointer (some o2_1)))] (fun C=>∀ (id5_1:Addr) (keys6_1:Sl),C [(1,(.int .i64 regions1_1)),(2,(.pointer (some o2_1))),(5,(.pointer (some id5_1))),(6,(Sl.val keys6_1))] (zAX.s1 Q regions1_1 o2_1 id5_1 keys6_1)):=by intros; exact ⟨fun _ ⟨_,_,h⟩=>⟨_,_,h⟩⟩
 have hD1:DH 1 2 [7] (.s [0,1,3,2,4] (.a [(5,1,.a [(6,1,.a [(7,0,.s [8] .e)])]),(6,1,.a [(5,1,.a [(7,0,.s [8] .e)])])])):=by intros; exact ⟨⟩
 exact g_walk 90 h Tryz.func54
def zDY (o0:(Array Value)) (Q:(Array Value)→K):K :=
 New 40 o0 fun o1 =>
 New 40 #[(.int .i64 0),(.int .u64 0),(.int .u64 0),(.int .i64 0),(.int .i64 0),(Sl.val ⟨none,0,0⟩),(Sl.val ⟨none,0,0⟩),(Sl.val ⟨none,0,0⟩),(.int .i64 0),(Sl.val ⟨none,0,0⟩)] fun t2 =>
 Dr <| WithS fun S =>
 LdNS S (o1.add 4) 5 fun t4 =>
 LdS S (o1.add 9) Sl.val fun t7 =>
 zDO.call t4 fun t5 =>
 Sv S <|
 zBC.call t7 fun t8 =>
 StN (o1.add 4) 5 t5 <|
 St (o1.add 9) (Sl.val t8) <|
 LdN o1 10 fun t11 =>
 StN t2 10 t11 <|
 LdN t2 10 fun r0 =>
 Q r0
theorem zIX (o0:(Array Value)) (Q:(Array Value)→K) (w:World) (h:zDY o0 Q w):zDY.call o0 Q w:=by
 have hD1:DH 1 2 [5,7,9] (.s [0,3,1,4] (.a [(2,1,.s [6] (.a [(5,0,.a [(7,0,.s [8] (.a [(9,0,.e)]))])]))])):=by intros; exact ⟨⟩
 exact g_walk 12 h Tryz.func58
def zDC.b1 (Q:K)  (X1:Int→K) (p0_1:(Option Addr)) (t6_1:Sl) (t7_1:Int) (t8_1:Int):K :=
 Ite (decide (t8_1 < t7_1))
  (Idx t6_1 t8_1 1 fun t10 =>
  Ld t10 (Value.int .u64) fun t11 =>
  zBY.call p0_1 t11 <|
  Ar (IntKind.wrap .i64 (t8_1 + 1)) fun t15 =>
  X1 t15)
  (Q)
def zDC (p0:(Option Addr)) (list1:Sl) (Q:K):K :=
 LoopK (α:=Int) (fun X x=>zDC.b1 Q X p0 list1 (list1.n:Int) x) 0
theorem zM8 (p0:(Option Addr)) (list1:Sl) (Q:K) (w:World) (h:zDC p0 list1 Q w):zDC.call p0 list1 Q w:=by
 have hL1:∀ (p0_1:(Option Addr)) (t6_1:Sl) (t7_1:Int),LH 1 (fun x:Int=>[(0,(.pointer p0_1)),(6,(Sl.val t6_1)),(7,(.int .i64 t7_1)),(8,(.int .i64 x))]) (fun X x=>zDC.b1 Q X p0_1 t6_1 t7_1 x):=by intros; exact ⟨⟩
 exact g_walk 16 h Tryz.func89
def zB9.b2 (Q:K) (X1:Int→K) (X2:Int→K) (p0_2:(Option Addr)) (t82_2:Sl) (t83_2:Int) (t84_2:Int):K :=
 Ite (decide (t84_2 < t83_2))
  (Idx t82_2 t84_2 3 fun t86 =>
  LdN t86 3 fun t87 =>
  New 84 #[(.string ⟨#[]⟩),(.int .i64 0),(.int .u64 0)] fun m7 =>
  StN m7 3 t87 <|
  Ld (m7.add 1) (Value.int .i64) fun t90 =>
  Ar (IntKind.wrap .u64 t90) fun t91 =>
  zBY.call p0_2 t91 <|
  Ld (m7.add 2) (Value.int .u64) fun t95 =>
  zBY.call p0_2 t95 <|
  Ar (IntKind.wrap .i64 (t84_2 + 1)) fun t97 =>
  X2 t97)
  (Q)
def zB9.b1 (Q:K)  (X1:Int→K) (p0_1:(Option Addr)) (o3_1:Addr) (t55_1:Sl) (t56_1:Int) (t57_1:Int):K :=
 Ite (decide (t57_1 < t56_1))
  (Idx t55_1 t57_1 4 fun t59 =>
  LdN t59 4 fun t60 =>
  New 123 #[(.int .i64 0),(.string ⟨#[]⟩),(Sl.val ⟨none,0,0⟩),(.int .i64 0)] fun x5 =>
  StN x5 4 t60 <|
  Ld x5 (Value.int .i64) fun t63 =>
  Ar (IntKind.wrap .u64 t63) fun t64 =>
  zBY.call p0_1 t64 <|
  Ld (x5.add 1) Value.string fun t68 =>
  Do Tryz.prog (convert 9 85 (.string t68)) Sl.val fun t69 =>
  zC1.call p0_1 t69 <|
  Ld (x5.add 2) Sl.val fun t73 =>
  zC1.call p0_1 t73 <|
  Ld (x5.add 3) (Value.int .i64) fun t77 =>
  zED.call t77 fun t78 =>
  zBY.call p0_1 t78 <|
  Ar (IntKind.wrap .i64 (t57_1 + 1)) fun t80 =>
  X1 t80)
  (Ld (o3_1.add 9) Sl.val fun t82 =>
  LoopK (α:=Int) (fun X x=>zB9.b2 Q X1 X p0_1 t82 (t82.n:Int) x) 0)
def zB9 (p0:(Option Addr)) (o1:(Array Value)) (Q:K):K :=
 New 40 o1 fun o3 =>
 Ld o3 (Value.int .i64) fun t12 =>
 Ar (IntKind.wrap .u64 t12) fun t13 =>
 Ld (o3.add 1) (Value.int .u64) fun t17 =>
 Ld (o3.add 2) (Value.int .u64) fun t21 =>
 Ld (o3.add 3) (Value.int .i64) fun t24 =>
 Ar (IntKind.wrap .u64 t24) fun t25 =>
 Ld (o3.add 4) (Value.int .i64) fun t28 =>
 Ar (IntKind.wrap .u64 t28) fun t29 =>
 Ld ((o3.add 4).add 4) (Value.int .i64) fun t32 =>
 Ar (IntKind.wrap .u64 t32) fun t33 =>
 New 33 #[(.int .u64 t13),(.int .u64 t17),(.int .u64 t21),(.int .u64 t25),(.int .u64 t29),(.int .u64 t33)] fun t34 =>
 zDC.call p0 (Sl.mk (some t34) 6 6) <|
 Ld ((o3.add 4).add 1) Sl.val fun t39 =>
 zCx.call p0 t39 <|
 Ld ((o3.add 4).add 2) Sl.val fun t44 =>
 zCx.call p0 t44 <|
 Ld ((o3.add 4).add 3) Sl.val fun t49 =>
 Ar (IntKind.wrap .u64 (t49.n:Int)) fun t51 =>
 zBY.call p0 t51 <|
 Ld ((o3.add 4).add 3) Sl.val fun t55 =>
 LoopK (α:=Int) (fun X x=>zB9.b1 Q X p0 o3 t55 (t55.n:Int) x) 0
theorem zL3 (p0:(Option Addr)) (o1:(Array Value)) (Q:K) (w:World) (h:zB9 p0 o1 Q w):zB9.call p0 o1 Q w:=by
 have hL14:∀ (X1:Int→K),XH 6 X1→∀ (p0_2:(Option Addr)) (t82_2:Sl) (t83_2:Int),LH 14 (fun x:Int=>[(0,(.pointer p0_2)),(82,(Sl.val t82_2)),(83,(.int .i64 t83_2)),(84,(.int .i64 x))]) (fun X x=>zB9.b2 Q X1 X p0_2 t82_2 t83_2 x):=by intros; exact ⟨⟩
 have hL6:∀ (p0_1:(Option Addr)) (o3_1:Addr) (t55_1:Sl) (t56_1:Int),LH 6 (fun x:Int=>[(0,(.pointer p0_1)),(3,(.pointer (some o3_1))),(55,(Sl.val t55_1)),(56,(.int .i64 t56_1)),(57,(.int .i64 x))]) (fun X x=>zB9.b1 Q X p0_1 o3_1 t55_1 t56_1 x):=by intros; exact ⟨⟩
 exact g_walk 98 h Tryz.func90
def zCx.b1 (Q:K)  (X1:Int→K) (p0_1:(Option Addr)) (t11_1:Sl) (t12_1:Int) (t13_1:Int):K :=
 Ite (decide (t13_1 < t12_1))
  (Idx t11_1 t13_1 1 fun t15 =>
  Ld t15 Value.string fun t16 =>
  Do Tryz.prog (convert 9 85 (.string t16)) Sl.val fun t19 =>
  zC1.call p0_1 t19 <|
  Ar (IntKind.wrap .i64 (t13_1 + 1)) fun t21 =>
  X1 t21)
  (Q)
def zCx (p0:(Option Addr)) (list1:Sl) (Q:K):K :=
 Ar (IntKind.wrap .u64 (list1.n:Int)) fun t9 =>
 zBY.call p0 t9 <|
 LoopK (α:=Int) (fun X x=>zCx.b1 Q X p0 list1 (list1.n:Int) x) 0
theorem zL4 (p0:(Option Addr)) (list1:Sl) (Q:K) (w:World) (h:zCx p0 list1 Q w):zCx.call p0 list1 Q w:=by
 have hL2:∀ (p0_1:(Option Addr)) (t11_1:Sl) (t12_1:Int),LH 2 (fun x:Int=>[(0,(.pointer p0_1)),(11,(Sl.val t11_1)),(12,(.int .i64 t12_1)),(13,(.int .i64 x))]) (fun X x=>zCx.b1 Q X p0_1 t11_1 t12_1 x):=by intros; exact ⟨⟩
 exact g_walk 22 h Tryz.func147
def zED (n0:Int) (Q:Int→K):K :=
 Ar (IntKind.wrap .u64 n0) fun t4 =>
 Cd (0 ≤ (1:Int)) <|
 Ar (shlOf .u64 t4 1) fun t5 =>
 Cd (0 ≤ (63:Int)) <|
 Ar (shrOf .i64 n0 63) fun t7 =>
 Ar (IntKind.wrap .u64 t7) fun t8 =>
 Ar (bitsOf .xor .u64 t5 t8) fun t9 =>
 Q t9
theorem zLF (n0:Int) (Q:Int→K) (w:World) (h:zED n0 Q w):zED.call n0 Q w:=by
 exact g_walk 10 h Tryz.func149
end Go.Proofs.YtdemfamgieonbaaGreat
namespace Go.Proofs.YtdemfamgieonbaaGreat
open Go Go.Sep
set_option maxRecDepth 100000
set_option maxHeartbeats 4000000
attribute [local irreducible] G Gp Cx Tx Ex Sx Dx Ox Ax Lx Rx Fx Bx Bj Al Do Ld LdN St StN New CallF Ar DoU Rd Rd2 Pu Cd Ite Fv CallV CallY Ans0 Ans1 Ans2 Ans3 Ans4 Ans5 Ext Dead Dr WithS Sv LdS LdNS RdS Rd2S Nn Idx IdxA IdxS Fld Bld Slc SlcS Cat All LoopK RangeF RangeJ TakeD
namespace F_IRFront
instance at_156:AT Tryz.prog 156 5:=⟨by kernel_rfl⟩
instance at_180:AT Tryz.prog 180 2:=⟨by kernel_rfl⟩
instance at_25:AT Tryz.prog 25 5:=⟨by kernel_rfl⟩
instance at_35:AT Tryz.prog 35 3:=⟨by kernel_rfl⟩
instance at_37:AT Tryz.prog 37 4:=⟨by kernel_rfl⟩
instance at_40:AT Tryz.prog 40 10:=⟨by kernel_rfl⟩
instance at_51:AT Tryz.prog 51 2:=⟨by kernel_rfl⟩
instance cb_110:CB Tryz.prog 110:=⟨by kernel_rfl⟩
instance cb_111:CB Tryz.prog 111:=⟨by kernel_rfl⟩
instance cb_112:CB Tryz.prog 112:=⟨by kernel_rfl⟩
instance cb_113:CB Tryz.prog 113:=⟨by kernel_rfl⟩
instance cb_12:CB Tryz.prog 12:=⟨by kernel_rfl⟩
instance cb_165:CB Tryz.prog 165:=⟨by kernel_rfl⟩
instance cb_167:CB Tryz.prog 167:=⟨by kernel_rfl⟩
instance cb_58:CB Tryz.prog 58:=⟨by kernel_rfl⟩
instance cb_65:CB Tryz.prog 65:=⟨by kernel_rfl⟩
instance cb_66:CB Tryz.prog 66:=⟨by kernel_rfl⟩
instance ct_159:CT Tryz.prog 159:=⟨by kernel_rfl⟩
instance ct_163:CT Tryz.prog 163:=⟨by kernel_rfl⟩
instance ct_165:CT Tryz.prog 165:=⟨by kernel_rfl⟩
instance ct_3:CT Tryz.prog 3:=⟨by kernel_rfl⟩
instance ct_30:CT Tryz.prog 30:=⟨by kernel_rfl⟩
instance ct_33:CT Tryz.prog 33:=⟨by kernel_rfl⟩
instance ct_49:CT Tryz.prog 49:=⟨by kernel_rfl⟩
instance ct_85:CT Tryz.prog 85:=⟨by kernel_rfl⟩
instance zUx:FT Tryz.prog 161 0 0 1:=⟨by kernel_rfl⟩
instance zUy:FT Tryz.prog 161 1 1 1:=⟨by kernel_rfl⟩
instance zUz:FT Tryz.prog 161 2 2 1:=⟨by kernel_rfl⟩
instance zU0:FT Tryz.prog 161 3 3 1:=⟨by kernel_rfl⟩
instance zU1:FT Tryz.prog 161 4 4 1:=⟨by kernel_rfl⟩
instance zU2:FT Tryz.prog 167 0 0 4:=⟨by kernel_rfl⟩
instance zU3:FT Tryz.prog 167 1 4 5:=⟨by kernel_rfl⟩
instance zU4:FT Tryz.prog 167 2 9 1:=⟨by kernel_rfl⟩
instance zN8:FT Tryz.prog 180 1 1 1:=⟨by kernel_rfl⟩
instance zLz:FT Tryz.prog 37 0 0 3:=⟨by kernel_rfl⟩
instance zL0:FT Tryz.prog 37 1 3 1:=⟨by kernel_rfl⟩
instance zJq:FT Tryz.prog 51 0 0 1:=⟨by kernel_rfl⟩
instance zPU:FT Tryz.prog 51 1 1 1:=⟨by kernel_rfl⟩
instance zVV:FT Tryz.prog 53 0 0 4:=⟨by kernel_rfl⟩
instance zTh:FT Tryz.prog 53 1 4 2:=⟨by kernel_rfl⟩
instance mx:MX Tryz.prog:=⟨mixed⟩
instance pl_156:PLT Tryz.prog 156 [(0,3),(3,2)]:=⟨_,Tryz.underlying156,by kernel_rfl⟩
instance pl_161:PLT Tryz.prog 161 [(0,1),(1,1),(2,1),(3,1),(4,1)]:=⟨_,Tryz.underlying161,by kernel_rfl⟩
instance pl_167:PLT Tryz.prog 167 [(0,4),(4,5),(9,1)]:=⟨_,Tryz.underlying167,by kernel_rfl⟩
instance pl_35:PLT Tryz.prog 35 [(0,1),(1,1),(2,1)]:=⟨_,Tryz.underlying35,by kernel_rfl⟩
instance pl_37:PLT Tryz.prog 37 [(0,3),(3,1)]:=⟨_,Tryz.underlying37,by kernel_rfl⟩
instance pl_51:PLT Tryz.prog 51 [(0,1),(1,1)]:=⟨_,Tryz.underlying51,by kernel_rfl⟩
instance sl_159:SLT Tryz.prog 159 163 1:=⟨by kernel_rfl⟩
instance sl_49:SLT Tryz.prog 49 180 2:=⟨by kernel_rfl⟩
instance sl_63:SLT Tryz.prog 63 40 10:=⟨by kernel_rfl⟩
instance sl_67:SLT Tryz.prog 67 35 3:=⟨by kernel_rfl⟩
instance sz_156:SZ Tryz.prog 156 5:=⟨by kernel_rfl⟩
instance sz_159:SZ Tryz.prog 159 1:=⟨by kernel_rfl⟩
instance sz_165:SZ Tryz.prog 165 1:=⟨by kernel_rfl⟩
instance sz_180:SZ Tryz.prog 180 2:=⟨by kernel_rfl⟩
instance sz_3:SZ Tryz.prog 3 1:=⟨by kernel_rfl⟩
instance sz_33:SZ Tryz.prog 33 1:=⟨by kernel_rfl⟩
instance sz_35:SZ Tryz.prog 35 3:=⟨by kernel_rfl⟩
instance sz_40:SZ Tryz.prog 40 10:=⟨by kernel_rfl⟩
instance sz_49:SZ Tryz.prog 49 1:=⟨by kernel_rfl⟩
instance sz_51:SZ Tryz.prog 51 2:=⟨by kernel_rfl⟩
instance sz_85:SZ Tryz.prog 85 1:=⟨by kernel_rfl⟩
instance un_165:UN Tryz.prog 165 (.pointer 40):=⟨Tryz.underlying165⟩
instance zt_156:ZT Tryz.prog 156 (.agg #[(.int .i64 0),(.int .u64 0),(.int .u64 0),(.int .i64 0),(Sl.val ⟨none,0,0⟩)]):=⟨Tryz.t156,by kernel_rfl,by kernel_rfl⟩
instance zt_161:ZT Tryz.prog 161 (.agg #[(.int .i64 0),(.int .u64 0),(.int .i64 0),(.int .u64 0),(Sl.val ⟨none,0,0⟩)]):=⟨Tryz.t161,by kernel_rfl,by kernel_rfl⟩
instance zt_163:ZT Tryz.prog 163 (.pointer none):=⟨Tryz.t163,by kernel_rfl,by kernel_rfl⟩
instance zt_167:ZT Tryz.prog 167 (.agg #[(.int .i64 0),(.int .u64 0),(.int .u64 0),(.int .i64 0),(.int .i64 0),(Sl.val ⟨none,0,0⟩),(Sl.val ⟨none,0,0⟩),(Sl.val ⟨none,0,0⟩),(.int .i64 0),(.pointer none)]):=⟨Tryz.t167,by kernel_rfl,by kernel_rfl⟩
instance zt_180:ZT Tryz.prog 180 (.agg #[(.bool false),(Sl.val ⟨none,0,0⟩)]):=⟨Tryz.t180,by kernel_rfl,by kernel_rfl⟩
instance zt_35:ZT Tryz.prog 35 (.agg #[(.int .i64 0),(.int .u64 0),(.int .u64 0)]):=⟨Tryz.t35,by kernel_rfl,by kernel_rfl⟩
instance zt_37:ZT Tryz.prog 37 (.agg #[(.int .i64 0),(.int .u64 0),(.int .u64 0),(.int .i64 0)]):=⟨Tryz.t37,by kernel_rfl,by kernel_rfl⟩
instance zt_40:ZT Tryz.prog 40 (.agg #[(.int .i64 0),(.int .u64 0),(.int .u64 0),(.int .i64 0),(.int .i64 0),(Sl.val ⟨none,0,0⟩),(Sl.val ⟨none,0,0⟩),(Sl.val ⟨none,0,0⟩),(.int .i64 0),(Sl.val ⟨none,0,0⟩)]):=⟨Tryz.t40,by kernel_rfl,by kernel_rfl⟩
instance zt_51:ZT Tryz.prog 51 (.agg #[(.int .i64 0),(Sl.val ⟨none,0,0⟩)]):=⟨Tryz.t51,by kernel_rfl,by kernel_rfl⟩
end F_IRFront
def zEa (node0:Int) (epoch1:Int) (regions2:Int) (Q:(Option Addr)→K):K :=
 New 161 #[(.int .i64 node0),(.int .u64 epoch1),(.int .i64 regions2),(.int .u64 0),(Sl.val ⟨none,0,0⟩)] fun t11 =>
 Q (some t11)
theorem zN9 (node0:Int) (epoch1:Int) (regions2:Int) (Q:(Option Addr)→K) (w:World) (h:zEa node0 epoch1 regions2 Q w):zEa.call node0 epoch1 regions2 Q w:=by
 exact g_walk 12 h Tryz.func19
def zCA (f0:(Option Addr)) (t1:(Array Value)) (Q:(Array Value)→Int→K):K :=
 New 25 t1 fun t3 =>
 New 35 #[(.int .i64 0),(.int .u64 0),(.int .u64 0)] fun t4 =>
 Dr <|
 Nn f0 fun t10 =>
 LdN t3 5 fun t8 =>
 Ld (t10.add 2) (Value.int .i64) fun t12 =>
 zA6.call t8 t12 fun t13 =>
 Ite (decide (t13 ≠ 0))
  (StN t4 3 #[(.int .i64 0),(.int .u64 0),(.int .u64 0)] <|
  LdN t4 3 fun r0 =>
  Q r0 t13)
  (Ld (t10.add 4) Sl.val fun t21 =>
  Ite (decide ((64:Int) ≤ (t21.n:Int)))
   (StN t4 3 #[(.int .i64 0),(.int .u64 0),(.int .u64 0)] <|
   LdN t4 3 fun r0 =>
   Q r0 2)
   (Ld (t10.add 3) (Value.int .u64) fun t28 =>
   Ar (IntKind.wrap .u64 (t28 + 1)) fun t29 =>
   St (t10.add 3) (.int .u64 t29) <|
   Dr <| WithS fun S =>
   LdS S t10 (Value.int .i64) fun t35 =>
   LdS S (t10.add 1) (Value.int .u64) fun t39 =>
   LdS S (t10.add 3) (Value.int .u64) fun t43 =>
   New 35 #[(.int .i64 0),(.int .u64 0),(.int .u64 0)] fun id7 =>
   Sv S <|
   StN id7 3 #[(.int .i64 t35),(.int .u64 t39),(.int .u64 t43)] <|
   Dr <| WithS fun S =>
   LdS S (t10.add 4) Sl.val fun t49 =>
   LdNS S id7 3 fun t50 =>
   Bld #[(.int .i64 0),(.int .u64 0),(.int .u64 0),(.int .i64 0)] ([(0,3),(3,1)][·]?) [(0,(.agg t50))] fun t51 =>
   LdNS S t3 5 fun t52 =>
   zDO.call t52 fun t53 =>
   Sv S <|
   Bld #[(.int .i64 0),(.int .u64 0),(.int .u64 0),(.int .i64 0),(.int .i64 0),(Sl.val ⟨none,0,0⟩),(Sl.val ⟨none,0,0⟩),(Sl.val ⟨none,0,0⟩),(.int .i64 0),(.pointer none)] ([(0,4),(4,5),(9,1)][·]?) [(0,(.agg t51)),(1,(.agg t53))] fun t54 =>
   New 167 t54 fun t55 =>
   Sv S <|
   New 163 #[(.pointer (some t55))] fun t56 =>
   Sv S <|
   Do Tryz.prog (Builtin.append_ #[159,159] 159 #[(Sl.val t49),(Sl.val (Sl.mk (some t56) 1 1))]) Sl.val fun t57 =>
   St (t10.add 4) (Sl.val t57) <|
   LdN id7 3 fun t60 =>
   StN t4 3 t60 <|
   LdN t4 3 fun r0 =>
   Q r0 0))
theorem zHa (f0:(Option Addr)) (t1:(Array Value)) (Q:(Array Value)→Int→K) (w:World) (h:zCA f0 t1 Q w):zCA.call f0 t1 Q w:=by
 have hD8:DH 8 2 [12,15] (.s [0,1,2,3,4,5,6,7] (.a [(8,1,.s [9] (.a [(10,1,.a [(11,1,.a [(12,0,.s [13,14] (.a [(15,0,.e)]))])])]))])):=by intros; exact ⟨⟩
 have hD7:DH 7 2 [14] (.s [0,1,2,4,5,6,8,9,10,3,7,11,12] (.a [(13,1,.a [(14,0,.e)])])):=by intros; exact ⟨⟩
 have hD1:DH 1 1 [5] (.s [1,2,3,0,4] (.a [(5,0,.s [6] .e)])):=by intros; exact ⟨⟩
 exact g_walk 61 h Tryz.func20
def zAW.s2 (Q:Sl→K) (X1:Sl→Int→K) (s1_2:(Option Addr)) (out4_2:Sl) (e6_2:(Option Addr)) (t11_2:Sl) (t12_2:Int) (t13_2:Int):K :=
 Nn e6_2 fun t37 =>
 Ld (t37.add 9) Value.pointer fun t39 =>
 Nn t39 fun t40 =>
 LdN t40 10 fun t41 =>
 zDY.call t41 fun t42 =>
 Bld #[(.int .i64 0),(.int .u64 0),(.int .u64 0),(.int .i64 0),(.int .i64 0),(Sl.val ⟨none,0,0⟩),(Sl.val ⟨none,0,0⟩),(Sl.val ⟨none,0,0⟩),(.int .i64 0),(Sl.val ⟨none,0,0⟩)] (fun i=>some (i * 10,10)) [(0,(.agg t42))] fun ct43 =>
 New 40 ct43 fun t43 =>
 Do Tryz.prog (Builtin.append_ #[63,63] 63 #[(Sl.val out4_2),(Sl.val (Sl.mk (some t43) 1 1))]) Sl.val fun t44 =>
 Ar (IntKind.wrap .i64 (t13_2 + 1)) fun t45 =>
 X1 t44 t45
def zAW.s3 (Q:Sl→K) (X1:Sl→Int→K) (s1_3:(Option Addr)) (out4_3:Sl) (e6_3:Addr) (o7_3:Addr) (t11_3:Sl) (t12_3:Int) (t13_3:Int):K :=
 St (e6_3.add 9) (.pointer (some o7_3)) <|
 zAW.s2 Q X1 s1_3 out4_3 (some e6_3) t11_3 t12_3 t13_3
def zAW.b1 (Q:Sl→K)  (X1:Sl→Int→K) (s1_1:(Option Addr)) (t11_1:Sl) (t12_1:Int) (out4_1:Sl) (t13_1:Int):K :=
 Ite (decide (t13_1 < t12_1))
  (Idx t11_1 t13_1 1 fun t15 =>
  Ld t15 Value.pointer fun t16 =>
  Nn t16 fun t18 =>
  Ld (t18.add 9) Value.pointer fun t20 =>
  Ite ((t20).isNone)
   (Dr <| WithS fun S =>
   LdNS S t18 4 fun t26 =>
   LdNS S (t18.add 4) 5 fun t30 =>
   All [
    (zBb.call s1_1 t26 t30 fun t31 =>
    New 40 #[(.int .i64 0),(.int .u64 0),(.int .u64 0),(.int .i64 0),(.int .i64 0),(Sl.val ⟨none,0,0⟩),(Sl.val ⟨none,0,0⟩),(Sl.val ⟨none,0,0⟩),(.int .i64 0),(Sl.val ⟨none,0,0⟩)] fun o7 =>
    StN o7 10 t31 <|
    zAW.s3 Q X1 s1_1 out4_1 t18 o7 t11_1 t12_1 t13_1),
    (New 40 #[(.int .i64 0),(.int .u64 0),(.int .u64 0),(.int .i64 0),(.int .i64 0),(Sl.val ⟨none,0,0⟩),(Sl.val ⟨none,0,0⟩),(Sl.val ⟨none,0,0⟩),(.int .i64 0),(Sl.val ⟨none,0,0⟩)] fun o7 =>
    Sv S <|
    zBb.call s1_1 t26 t30 fun t31 =>
    StN o7 10 t31 <|
    zAW.s3 Q X1 s1_1 out4_1 t18 o7 t11_1 t12_1 t13_1)
    ])
   (zAW.s2 Q X1 s1_1 out4_1 (some t18) t11_1 t12_1 t13_1))
  (Q out4_1)
def zAW (f0:(Option Addr)) (s1:(Option Addr)) (Q:Sl→K):K :=
 Nn f0 fun t9 =>
 Ld (t9.add 4) Sl.val fun t11 =>
 LoopK (α:=Sl×Int) (fun X x=>zAW.b1 Q (fun out4_1 t13_1=>X (out4_1,t13_1)) s1 t11 (t11.n:Int) x.1 x.2) ((Sl.mk none 0 0),0)
theorem zHb (f0:(Option Addr)) (s1:(Option Addr)) (Q:Sl→K) (w:World) (h:zAW f0 s1 Q w):zAW.call f0 s1 Q w:=by
 have hJ7:∀ (X1:(Sl×Int)→K),XH 2 X1→JH 7 fun D=>∃ (s1_2:(Option Addr)) (out4_2:Sl) (e6_2:(Option Addr)) (t11_2:Sl) (t12_2:Int) (t13_2:Int),D [(1,(.pointer s1_2)),(4,(Sl.val out4_2)),(6,(.pointer e6_2)),(11,(Sl.val t11_2)),(12,(.int .i64 t12_2)),(13,(.int .i64 t13_2))] (fun C=>C [(1,(.pointer s1_2)),(4,(Sl.val out4_2)),(6,(.pointer e6_2)),(11,(Sl.val t11_2)),(12,(.int .i64 t12_2)),(13,(.int .i64 t13_2))] (zAW.s2 Q (fun out4_1 t13_1=>X1 (out4_1,t13_1)) s1_2 out4_2 e6_2 t11_2 t12_2 t13_2)):=by intros; exact ⟨fun _ ⟨_,_,_,_,_,_,h⟩=>⟨_,_,h⟩⟩
 have hJ6:∀ (X1:(Sl×Int)→K),XH 2 X1→JH 6 fun D=>∃ (s1_3:(Option Addr)) (out4_3:Sl) (e6_3:Addr) (t11_3:Sl) (t12_3:Int) (t13_3:Int),D [(1,(.pointer s1_3)),(4,(Sl.val out4_3)),(6,(.pointer (some e6_3))),(11,(Sl.val t11_3)),(12,(.int .i64 t12_3)),(13,(.int .i64 t13_3))] (fun C=>∀ (o7_3:Addr),C [(1,(.pointer s1_3)),(4,(Sl.val out4_3)),(6,(.pointer (some e6_3))),(7,(.pointer (some o7_3))),(11,(Sl.val t11_3)),(12,(.int .i64 t12_3)),(13,(.int .i64 t13_3))] (zAW.s3 Q (fun out4_1 t13_1=>X1 (out4_1,t13_1)) s1_3 out4_3 e6_3 o7_3 t11_3 t12_3 t13_3)):=by intros; exact ⟨fun _ ⟨_,_,_,_,_,_,h⟩=>⟨_,_,h⟩⟩
 have hD5:DH 5 2 [9,11] (.s [0,1,2,3,5,6,7,4,8] (.a [(9,0,.a [(10,0,.a [(11,0,.e)])]),(10,1,.a [(9,0,.a [(11,0,.e)])])])):=by intros; exact ⟨⟩
 have hL2:∀ (s1_1:(Option Addr)) (t11_1:Sl) (t12_1:Int),LH 2 (fun x:Sl×Int=>[(1,(.pointer s1_1)),(4,(Sl.val x.1)),(11,(Sl.val t11_1)),(12,(.int .i64 t12_1)),(13,(.int .i64 x.2))]) (fun X x=>zAW.b1 Q (fun out4_1 t13_1=>X (out4_1,t13_1)) s1_1 t11_1 t12_1 x.1 x.2):=by intros; exact ⟨⟩
 exact g_walk 47 h Tryz.func21
def zBu.b1 (Q:Sl→K)  (X1:Sl→Int→K) (t8_1:Sl) (t9_1:Int) (out2_1:Sl) (t10_1:Int):K :=
 Ite (decide (t10_1 < t9_1))
  (Idx t8_1 t10_1 1 fun t12 =>
  Ld t12 Value.pointer fun t13 =>
  Nn t13 fun t16 =>
  LdN t16 3 fun t19 =>
  Bld #[(.int .i64 0),(.int .u64 0),(.int .u64 0)] (fun i=>some (i * 3,3)) [(0,(.agg t19))] fun ct20 =>
  New 35 ct20 fun t20 =>
  Do Tryz.prog (Builtin.append_ #[67,67] 67 #[(Sl.val out2_1),(Sl.val (Sl.mk (some t20) 1 1))]) Sl.val fun t21 =>
  Ar (IntKind.wrap .i64 (t10_1 + 1)) fun t22 =>
  X1 t21 t22)
  (Q out2_1)
def zBu (f0:(Option Addr)) (Q:Sl→K):K :=
 Nn f0 fun t6 =>
 Ld (t6.add 4) Sl.val fun t8 =>
 LoopK (α:=Sl×Int) (fun X x=>zBu.b1 Q (fun out2_1 t10_1=>X (out2_1,t10_1)) t8 (t8.n:Int) x.1 x.2) ((Sl.mk none 0 0),0)
theorem zIg (f0:(Option Addr)) (Q:Sl→K) (w:World) (h:zBu f0 Q w):zBu.call f0 Q w:=by
 have hL2:∀ (t8_1:Sl) (t9_1:Int),LH 2 (fun x:Sl×Int=>[(2,(Sl.val x.1)),(8,(Sl.val t8_1)),(9,(.int .i64 t9_1)),(10,(.int .i64 x.2))]) (fun X x=>zBu.b1 Q (fun out2_1 t10_1=>X (out2_1,t10_1)) t8_1 t9_1 x.1 x.2):=by intros; exact ⟨⟩
 exact g_walk 24 h Tryz.func24
def zAb.b2 (Q:(Array Value)→Bool→K)  (X2:Int→K) (f0_2:Addr) (t4_2:Addr) (at6_2:Int) (r8_2:Addr) (t62_2:Sl) (t63_2:Int) (t64_2:Int):K :=
 Ite (decide (t64_2 < t63_2))
  (Idx t62_2 t64_2 2 fun t67 =>
  LdN t67 2 fun t68 =>
  New 180 #[(.bool false),(Sl.val ⟨none,0,0⟩)] fun o10 =>
  StN o10 2 t68 <|
  Dr <| WithS fun S =>
  LdS S (r8_2.add 1) Sl.val fun t70 =>
  LdS S (o10.add 1) Sl.val fun t73 =>
  zBS.call t73 fun t74 =>
  Sv S <|
  Idx t70 t64_2 2 fun t75 =>
  St (t75.add 1) (Sl.val t74) <|
  Ar (IntKind.wrap .i64 (t64_2 + 1)) fun t77 =>
  X2 t77)
  (LdN r8_2 2 fun t80 =>
  zCg.call (some f0_2) at6_2 t80 fun t81x0 t81x1 =>
  StN t4_2 5 t81x0 <|
  LdN t4_2 5 fun r0 =>
  Q r0 t81x1)
def zAb.s1 (Q:(Array Value)→Bool→K)  (f0_1:Addr) (t4_1:Addr) (at6_1:Int) (r8_1:Addr):K :=
 Ld (r8_1.add 1) Sl.val fun t58 =>
 zBk.call t58 fun t59 =>
 St (r8_1.add 1) (Sl.val t59) <|
 Ld (r8_1.add 1) Sl.val fun t62 =>
 LoopK (α:=Int) (fun X x=>zAb.b2 Q X f0_1 t4_1 at6_1 r8_1 t62 (t62.n:Int) x) 0
def zAb.s3 (Q:(Array Value)→Bool→K)  (f0_3:Addr) (t4_3:Addr) (at6_3:Int) (e7_3:(Option Addr)) (r8_3:Addr) (t27_3:Bool):K :=
 Ite t27_3
  (Nn e7_3 fun t40 =>
  Ld (t40.add 3) (Value.int .i64) fun t43 =>
  Ar (IntKind.wrap .i64 (t43 + 1)) fun t44 =>
  St (t40.add 3) (.int .i64 t44) <|
  St (t40.add 9) (.pointer none) <|
  StN t4_3 5 #[(.int .i64 0),(.int .u64 0),(.int .u64 0),(.int .i64 0),(Sl.val ⟨none,0,0⟩)] <|
  LdN t4_3 5 fun r0 =>
  Q r0 false)
  (Ld r8_3 (Value.int .i64) fun t54 =>
  Ite (decide (t54 = 112))
   (StN r8_3 2 #[(.int .i64 141),(Sl.val ⟨none,0,0⟩)] <|
   zAb.s1 Q f0_3 t4_3 at6_3 r8_3)
   (zAb.s1 Q f0_3 t4_3 at6_3 r8_3))
def zAb (f0:(Option Addr)) (d1:(Array Value)) (Q:(Array Value)→Bool→K):K :=
 New 53 d1 fun d3 =>
 New 156 #[(.int .i64 0),(.int .u64 0),(.int .u64 0),(.int .i64 0),(Sl.val ⟨none,0,0⟩)] fun t4 =>
 LdN d3 4 fun t13 =>
 zC3.call f0 t13 fun t14 =>
 Ite (decide (t14 < 0))
  (StN t4 5 #[(.int .i64 0),(.int .u64 0),(.int .u64 0),(.int .i64 0),(Sl.val ⟨none,0,0⟩)] <|
  LdN t4 5 fun r0 =>
  Q r0 false)
  (Dr <| WithS fun S =>
  Nn f0 fun t19 =>
  LdS S (t19.add 4) Sl.val fun t21 =>
  Idx t21 t14 1 fun t23 =>
  LdS S t23 Value.pointer fun t24 =>
  LdNS S (d3.add 4) 2 fun t26 =>
  New 51 #[(.int .i64 0),(Sl.val ⟨none,0,0⟩)] fun r8 =>
  Sv S <|
  StN r8 2 t26 <|
  Ld r8 (Value.int .i64) fun t29 =>
  Ite (decide (t29 = 112))
   (Nn t24 fun t33 =>
   Ld (t33.add 3) (Value.int .i64) fun t36 =>
   zAb.s3 Q t19 t4 t14 (some t33) r8 (decide (t36 < 2)))
   (zAb.s3 Q t19 t4 t14 t24 r8 false))
theorem zHc (f0:(Option Addr)) (d1:(Array Value)) (Q:(Array Value)→Bool→K) (w:World) (h:zAb f0 d1 Q w):zAb.call f0 d1 Q w:=by
 have hD15:DH 15 2 [8] (.s [0,2,3,1,4] (.a [(5,1,.s [6,7] (.a [(8,0,.e)]))])):=by intros; exact ⟨⟩
 have hL13:∀ (f0_2:Addr) (t4_2:Addr) (at6_2:Int) (r8_2:Addr) (t62_2:Sl) (t63_2:Int),LH 13 (fun x:Int=>[(0,(.pointer (some f0_2))),(4,(.pointer (some t4_2))),(6,(.int .i64 at6_2)),(8,(.pointer (some r8_2))),(62,(Sl.val t62_2)),(63,(.int .i64 t63_2)),(64,(.int .i64 x))]) (fun X x=>zAb.b2 Q X f0_2 t4_2 at6_2 r8_2 t62_2 t63_2 x):=by intros; exact ⟨⟩
 have hJ11:JH 11 fun D=>∃ (f0_1:Addr) (t4_1:Addr) (at6_1:Int) (r8_1:Addr),D [(0,(.pointer (some f0_1))),(4,(.pointer (some t4_1))),(6,(.int .i64 at6_1)),(8,(.pointer (some r8_1)))] (fun C=>C [(0,(.pointer (some f0_1))),(4,(.pointer (some t4_1))),(6,(.int .i64 at6_1)),(8,(.pointer (some r8_1)))] (zAb.s1 Q f0_1 t4_1 at6_1 r8_1)):=by intros; exact ⟨fun _ ⟨_,_,_,_,h⟩=>⟨_,_,h⟩⟩
 have hJ6:JH 6 fun D=>∃ (f0_3:Addr) (t4_3:Addr) (at6_3:Int) (e7_3:(Option Addr)) (r8_3:Addr),D [(0,(.pointer (some f0_3))),(4,(.pointer (some t4_3))),(6,(.int .i64 at6_3)),(7,(.pointer e7_3)),(8,(.pointer (some r8_3)))] (fun C=>∀ (t27_3:Bool),C [(0,(.pointer (some f0_3))),(4,(.pointer (some t4_3))),(6,(.int .i64 at6_3)),(7,(.pointer e7_3)),(8,(.pointer (some r8_3))),(27,(.bool t27_3))] (zAb.s3 Q f0_3 t4_3 at6_3 e7_3 r8_3 t27_3)):=by intros; exact ⟨fun _ ⟨_,_,_,_,_,h⟩=>⟨_,_,h⟩⟩
 have hD4:DH 4 2 [11] (.s [0,1,2,4,7,3,5,6,8] (.a [(9,1,.s [10] (.a [(11,0,.e)]))])):=by intros; exact ⟨⟩
 exact g_walk 84 h Tryz.func64
def zGe (f0:(Option Addr)) (tag1:(Array Value)) (Q:(Array Value)→Bool→K):K :=
 New 37 tag1 fun tag3 =>
 New 156 #[(.int .i64 0),(.int .u64 0),(.int .u64 0),(.int .i64 0),(Sl.val ⟨none,0,0⟩)] fun t4 =>
 LdN tag3 4 fun t8 =>
 zC3.call f0 t8 fun t9 =>
 Ite (decide (t9 < 0))
  (StN t4 5 #[(.int .i64 0),(.int .u64 0),(.int .u64 0),(.int .i64 0),(Sl.val ⟨none,0,0⟩)] <|
  LdN t4 5 fun r0 =>
  Q r0 false)
  (zCg.call f0 t9 #[(.int .i64 140),(Sl.val ⟨none,0,0⟩)] fun t16x0 t16x1 =>
  StN t4 5 t16x0 <|
  LdN t4 5 fun r0 =>
  Q r0 t16x1)
def zC3 (f0:(Option Addr)) (tag1:(Array Value)) (Q:Int→K):K :=
 New 37 tag1 fun tag3 =>
 Nn f0 fun t6 =>
 Ld (t6.add 4) Sl.val fun t8 =>
 zAy.call t8 (.func (.func 166) #[] #[(.pointer (some tag3))]) fun t10 =>
 Q t10
theorem zIh (f0:(Option Addr)) (tag1:(Array Value)) (Q:Int→K) (w:World) (h:zC3 f0 tag1 Q w):zC3.call f0 tag1 Q w:=by
 exact g_walk 11 h Tryz.func111
def zCg (f0:(Option Addr)) (at1:Int) (r2:(Array Value)) (Q:(Array Value)→Bool→K):K :=
 New 51 r2 fun r5 =>
 New 156 #[(.int .i64 0),(.int .u64 0),(.int .u64 0),(.int .i64 0),(Sl.val ⟨none,0,0⟩)] fun t6 =>
 Nn f0 fun t10 =>
 Ld (t10.add 4) Sl.val fun t12 =>
 Idx t12 at1 1 fun t14 =>
 Ld t14 Value.pointer fun t15 =>
 Nn t15 fun t16 =>
 LdN t16 3 fun t19 =>
 New 35 #[(.int .i64 0),(.int .u64 0),(.int .u64 0)] fun id8 =>
 StN id8 3 t19 <|
 Ld (t10.add 4) Sl.val fun t24 =>
 Ar (IntKind.wrap .i64 (at1 + 1)) fun t27 =>
 zBV.call t24 at1 t27 fun t28 =>
 St (t10.add 4) (Sl.val t28) <|
 LdN id8 3 fun t31 =>
 LdN r5 2 fun t32 =>
 Bld #[(.int .i64 0),(.int .u64 0),(.int .u64 0),(.int .i64 0),(Sl.val ⟨none,0,0⟩)] ([(0,3),(3,2)][·]?) [(0,(.agg t31)),(1,(.agg t32))] fun t33 =>
 StN t6 5 t33 <|
 LdN t6 5 fun r0 =>
 Q r0 true
theorem zHd (f0:(Option Addr)) (at1:Int) (r2:(Array Value)) (Q:(Array Value)→Bool→K) (w:World) (h:zCg f0 at1 r2 Q w):zCg.call f0 at1 r2 Q w:=by
 exact g_walk 34 h Tryz.func113
def zB3.s1 (Q:Bool→K)  (t3_1:Bool):K :=
 Q t3_1
def zB3 (e0:(Option Addr)) (t1:Addr) (Q:Bool→K):K :=
 Dr <|
 Nn e0 fun t5 =>
 LdN t5 4 fun t7 =>
 LdN t1 4 fun t8 =>
 Pu Tryz.prog (do eqGuard .eql 37 (.tmp 7) (.tmp 8) (.agg t7) (.agg t8); binOp .eql 37 (.agg t7) (.agg t8):Sem Value) Value.bool fun t9 =>
 Ite t9
  (Ld (t5.add 9) Value.pointer fun t14 =>
  zB3.s1 Q (!(t14).isNone))
  (zB3.s1 Q false)
theorem zHe (e0:(Option Addr)) (t1:Addr) (Q:Bool→K) (w:World) (h:zB3 e0 t1 Q w):zB3.call e0 t1 Q w:=by
 have hJ1000001:JH 1000001 fun D=>D [] (fun C=>∀ (t3_1:Bool),C [(3,(.bool t3_1))] (zB3.s1 Q t3_1)):=by intros; exact ⟨fun _ h=>⟨_,_,h⟩⟩
 exact g_walk 17 h Tryz.func166
end Go.Proofs.YtdemfamgieonbaaGreat
namespace Go.Proofs.YtdemfamgieonbaaGreat
open Go Go.Sep Go.Sep.Bt
set_option maxRecDepth 100000
structure OrdX where
 b:Nat
 t:TxX
 ms:Sl
 mks:List MkX
structure EntX where
 b:Nat
 tag:TagM
 tx:TxX
 ord:Option OrdX
abbrev ordL (g:TagM) (o:OrdX):List Value:=[.int .i64 g.node,.int .u64 g.epoch,.int .u64 g.seq,.int .i64 g.tr,.int .i64 o.t.kind,o.t.rs.val,o.t.ws.val,o.t.os.val,.int .i64 o.t.to,o.ms.val]
abbrev ptrO:Option OrdX→Option Addr
 | none=>none
 | some o=>some ⟨o.b,0,none⟩
abbrev entL (e:EntX):List Value:=[.int .i64 e.tag.node,.int .u64 e.tag.epoch,.int .u64 e.tag.seq,.int .i64 e.tag.tr,.int .i64 e.tx.kind,e.tx.rs.val,e.tx.ws.val,e.tx.os.val,.int .i64 e.tx.to,.pointer (ptrO e.ord)]
abbrev ptrE (e:EntX):Option Addr:=some ⟨e.b,0,none⟩
def txO (t:TxX):HProp:=Sep.stars (txC t [])
def ordO (g:TagM):Option OrdX→HProp
 | none=>Sep.stars []
 | some o=>Sep.stars (blk o.b (.cells (ordL g o).toArray zAO (0,0))::SlC zAs 3 o.ms (o.mks.flatMap mkL)::txC o.t [])
def entO (e:EntX):HProp:=Sep.stars [blk e.b (.cells (entL e).toArray zBI (0,0)),txO e.tx,ordO e.tag e.ord]
def EntOk (g:Int) (e:EntX):Prop:=rightT g e.tx = true∧∀ o,e.ord = some o→TxIs o.t e.tx∧o.mks.length ≤ 1000
abbrev frL (nd ep rg ct:Int) (s:Sl):List Value:=[.int .i64 nd,.int .u64 ep,.int .i64 rg,.int .u64 ct,s.val]
def FrontR (f:Nat) (nd ep rg ct:Int) (E:List EntX):HProp:=ex fun s:Sl=>Sep.stars [pur (∀ e ∈ E,EntOk rg e),blk f (.cells (frL nd ep rg ct s).toArray zBO (0,0)),SlC zA0 1 s ((E.map ptrE).map Value.pointer),Sep.stars (E.map entO)]
theorem zF2 {g:Int} {t:TxX} (h:rightT g t = true):t.reads.length ≤ 8∧t.writes.length ≤ 8∧t.ops.length ≤ 16∧(∀ x ∈ t.reads++t.writes,x.length ≤ 16)∧∀ x ∈ t.ops,x.1.val.length ≤ 32:=by
 unfold rightT at h
 split at h
 ·cases h
 rename_i h1
 split at h
 ·cases h
 rename_i h2
 simp only [headBad,not_or,Nat.not_lt] at h1
 have hk:∀ x ∈ t.reads++t.writes,x.length ≤ 16:=fun x hx=>Nat.le_of_not_lt fun hl=>h2 (.inl ⟨x,hx,.inr hl⟩)
 split at h
 ·simp only [Bool.and_eq_true,decide_eq_true_eq] at h
  have h0:t.ops = []:=List.length_eq_zero_iff.1 h.2.1
  exact ⟨h1.2.2.2.2.1,h1.2.2.2.2.2.1,by rw [h0]; simp,hk,by rw [h0]; simp⟩
 ·split at h
  ·cases h
  rename_i h3
  simp only [not_or,Nat.not_lt] at h3
  refine ⟨h1.2.2.2.2.1,h1.2.2.2.2.2.1,h3.2.2,hk,fun x hx=>?_⟩
  have:=List.all_eq_true.1 h x hx
  unfold opRight at this
  split at this
  ·cases this
  ·rename_i h4
   simp only [not_or,Nat.not_lt] at h4
   exact h4.1
def Told (n:Nat) (M:Recs) (e e':EntX):Prop:=e'.b = e.b∧e'.tag = e.tag∧e'.tx = e.tx∧∃ o,e'.ord = some o∧TxIs o.t e.tx∧(e.ord = none→o.mks = mksOf n M (keysT (e.tx.reads++e.tx.writes)))∧∀ o0,e.ord = some o0→o = o0
abbrev OutX:=TagM×OrdX
abbrev outL (x:OutX):List Value:=ordL x.1 x.2
theorem zD8 (x:OutX):(outL x).length = 10:=rfl
def outO (x:OutX):HProp:=Sep.stars (SlC zAs 3 x.2.ms (x.2.mks.flatMap mkL)::txC x.2.t [])
def OutIs (e:EntX) (x:OutX):Prop:=x.1 = e.tag∧TxIs x.2.t e.tx∧∃ o,e.ord = some o∧x.2.mks = o.mks
def isTry (g:TagM) (e:EntX):Bool:=decide (e.tag = g) && e.ord.isSome
section
variable {B:World} {Γ Δ:List HProp} {k:K} {f sd st n:Nat} {M:Recs} {nd ep rg ct:Int} {E:List EntX}
theorem zFv (h:∀ s,(∀ e ∈ E,EntOk rg e)→HG B (blk f (.cells (frL nd ep rg ct s).toArray zBO (0,0))::SlC zA0 1 s ((E.map ptrE).map Value.pointer)::Sep.stars (E.map entO)::Γ) k):HG B (FrontR f nd ep rg ct E::Γ) k :=
 s_ex fun s=>s_flat <| s_pur fun h1=>h s h1
theorem zDd {s:Sl} (h1:∀ e ∈ E,EntOk rg e) (h:HG B (FrontR f nd ep rg ct E::Γ) k):HG B (blk f (.cells (frL nd ep rg ct s).toArray zBO (0,0))::SlC zA0 1 s ((E.map ptrE).map Value.pointer)::Sep.stars (E.map entO)::Γ) k:=fun w hw=>by
 refine h w ?_
 have h3:Holds B (Sep.stars [pur (∀ e ∈ E,EntOk rg e),blk f (.cells (frL nd ep rg ct s).toArray zBO (0,0)),SlC zA0 1 s ((E.map ptrE).map Value.pointer),Sep.stars (E.map entO)]::Γ) w:=Holds.flat.2 (Holds.pur.2 ⟨h1,hw⟩)
 exact h3.imp fun g hg=>⟨s,hg⟩
instance (priority:=high) zUP:Sep.Own f (FrontR f nd ep rg ct E::Γ) (FrontR f nd ep rg ct E) Γ:=⟨.refl _⟩
theorem s_mkTx {t:TxX} (h:HG B (txO t::Γ) k):HG B (txC t Γ) k:=fun w hw=>h w ((Holds.flat (Δ:=txC t [])).2 hw)
theorem txO_rd {t:TxX} {w:World} (h:Holds B (txO t::Γ) w):txRd w t:=txC_rd ((Holds.flat (Δ:=txC t [])).1 h)
theorem s_ent {e:EntX} (h:HG B (blk e.b (.cells (entL e).toArray zBI (0,0))::txO e.tx::ordO e.tag e.ord::Γ) k):HG B (entO e::Γ) k:=s_flat h
theorem zFI {e:EntX} (h:HG B (entO e::Γ) k):HG B (blk e.b (.cells (entL e).toArray zBI (0,0))::txO e.tx::ordO e.tag e.ord::Γ) k:=fun w hw=>h w ((Holds.flat (Δ:=[blk e.b (.cells (entL e).toArray zBI (0,0)),txO e.tx,ordO e.tag e.ord])).2 hw)
theorem s_ordS {g:TagM} {o:OrdX} (h:HG B (blk o.b (.cells (ordL g o).toArray zAO (0,0))::SlC zAs 3 o.ms (o.mks.flatMap mkL)::txC o.t Γ) k):HG B (ordO g (some o)::Γ) k:=s_flat h
theorem zOA {g:TagM} {o:OrdX} (h:HG B (ordO g (some o)::Γ) k):HG B (blk o.b (.cells (ordL g o).toArray zAO (0,0))::SlC zAs 3 o.ms (o.mks.flatMap mkL)::txC o.t Γ) k:=fun w hw=>h w ((Holds.flat (Δ:=blk o.b (.cells (ordL g o).toArray zAO (0,0))::SlC zAs 3 o.ms (o.mks.flatMap mkL)::txC o.t [])).2 hw)
theorem s_ordN {g:TagM} (h:HG B (ordO g none::Γ) k):HG B Γ k:=fun w hw=>h w hw.starsNil
theorem zTi {x:OutX} (h:HG B (outO x::Γ) k):HG B (SlC zAs 3 x.2.ms (x.2.mks.flatMap mkL)::txC x.2.t Γ) k:=fun w hw=>h w ((Holds.flat (Δ:=SlC zAs 3 x.2.ms (x.2.mks.flatMap mkL)::txC x.2.t [])).2 hw)
theorem s_snoc {α:Type} {F:α→HProp} {A:List α} {x:α} (h:HG B (Sep.stars ((A++[x]).map F)::Γ) k):HG B (F x::Sep.stars (A.map F)::Γ) k:=by
 have:=zCS (F:=F) (A:=A) (C:=[]) (x:=x) h
 rwa [List.append_nil] at this
theorem zKG {Q:Option Addr→K} (h:∀ f,HG B (FrontR f nd ep rg 0 []::Γ) (Q (some ⟨f,0,none⟩))):HG B Γ (zEa.call nd ep rg Q):=fun w hw=>by
 refine zN9 _ _ _ _ _ ?_
 refine hg hw ?_
 clear hw w
 unfold zEa
 refine s_new fun f=>?_
 refine fun w hw=>hg (show Holds B (Sep.stars (([]:List EntX).map entO)::_) w from hw.starsNil) ?_
 clear hw w
 refine fun w hw=>hg (show Holds B (SlC zA0 1 ⟨none,0,0⟩ ((([]:List EntX).map ptrE).map Value.pointer)::_) w from hw.nilSl _ _) ?_
 clear hw w
 refine s_pick (Sep.stars (([]:List EntX).map entO)) ?_
 refine s_ownS ⟨none,0,0⟩ ?_
 refine s_own f ?_
 exact zDd (by simp) (h f)
theorem zQv {s:Sl} {L:List MkX} {Q:Sl→K} (hr:∀ w,Holds B Γ w→RdC w s 3 (L.flatMap mkL)) (hl:L.length ≤ 20000000) (h:∀ s',HG B (SlC zAs 3 s' (L.flatMap mkL)::Γ) (Q s')):HG B Γ (zBC.call s Q):=fun w hw=>by
 refine zDh _ _ _ ?_
 refine hg hw ?_
 clear hw w
 unfold zBC
 exact zEj (us:=L.flatMap mkL) hr (zN4 _) (by rw [zAL _ 3 zCa]; omega) (by omega) fun s' _=>h s'
theorem zP5 {g:TagM} {o:OrdX} {Q:Array Value→K} (hr:∀ w,Holds B Γ w→txRd w o.t) (hm:∀ w,Holds B Γ w→RdC w o.ms 3 (o.mks.flatMap mkL)) (hl:o.t.reads.length ≤ 1000∧o.t.writes.length ≤ 1000∧o.t.ops.length ≤ 1000∧∀ x ∈ o.t.ops,x.1.val.length ≤ 1000000) (hml:o.mks.length ≤ 1000)
  (h:∀ t' ms',TxIs t' o.t→HG B (outO (g,⟨0,t',ms',o.mks⟩)::Γ) (Q (ordL g ⟨0,t',ms',o.mks⟩).toArray)):HG B Γ (zDY.call (ordL g o).toArray Q):=fun w hw=>by
 refine zIX _ _ _ ?_
 refine hg hw ?_
 clear hw w
 unfold zDY
 refine s_new fun o1=>?_
 refine s_new fun t2=>?_
 repeat refine s_nx ?_
 refine zJl (t:=o.t) (fun w hw=>hr w hw.drops) hl fun t' ht'=>?_
 repeat refine s_nx ?_
 refine zQv (L:=o.mks) (fun w hw=>hm w hw.drops) (by omega) fun ms'=>?_
 refine s_stNP (b:=o1) (off:=4) (us:=txL t') (ordL g ⟨0,t',o.ms,o.mks⟩) ?_
 repeat refine s_nx ?_
 have h2:=zTi (x:=(g,⟨0,t',ms',o.mks⟩)) (h t' ms' ht')
 exact s_end h2
end
end Go.Proofs.YtdemfamgieonbaaGreat
namespace Go.Proofs.YtdemfamgieonbaaGreat
open Go Go.Sep Go.Sep.Bt
set_option maxRecDepth 100000
section
variable {B:World} {Γ Δ:List HProp} {k:K} {f sd st n:Nat} {M:Recs} {nd ep rg ct:Int} {E:List EntX}
theorem zMb {t:TxX} {Q:Array Value→Int→K} (hr:∀ w,Holds B Γ w→txRd w t) (hl:t.reads.length < 10000000∧t.writes.length < 10000000∧t.ops.length < 10000000) (hc:0 ≤ ct∧ct ≤ 1000000)
  (hbad:rightT rg t = false→HG B (FrontR f nd ep rg ct E::Γ) (Q #[.int .i64 0,.int .u64 0,.int .u64 0] 1))
  (hfull:64 ≤ E.length→HG B (FrontR f nd ep rg ct E::Γ) (Q #[.int .i64 0,.int .u64 0,.int .u64 0] 2))
  (hok:rightT rg t = true→E.length < 64→∀ b t',TxIs t' t→HG B (FrontR f nd ep rg (ct + 1) (E++[⟨b,⟨nd,ep,ct + 1,0⟩,t',none⟩])::Γ) (Q #[.int .i64 nd,.int .u64 ep,.int .u64 (ct + 1)] 0)) :
  HG B (FrontR f nd ep rg ct E::Γ) (zCA.call (some ⟨f,0,none⟩) (txL t).toArray Q):=fun w hw=>by
 refine zHa _ _ _ _ ?_
 refine hg hw ?_
 clear hw w
 refine zFv fun s hE=>?_
 unfold zCA
 refine s_new fun t3=>?_
 refine s_new fun t4=>?_
 repeat refine s_nx ?_
 refine zN7 (t:=t) (n:=rg) (fun w hw=>hr w hw.drops) hl ?_
 by_cases hrt:rightT rg t = true
 rotate_left
 ·have hrt':rightT rg t = false:=by simpa using hrt
  rw [if_neg hrt]
  refine s_t ?_
  repeat refine s_nx ?_
  refine s_pick (Sep.stars (E.map entO)) ?_
  refine s_ownS s ?_
  refine s_own f ?_
  exact zDd hE (s_end (hbad hrt'))
 rw [if_pos hrt]
 refine s_f ?_
 refine s_cap s fun a1 a2 a3 a4=>?_
 rw [List.length_map,List.length_map,Nat.mul_one] at a1
 repeat refine s_nx ?_
 refine s_ite (fun hb=>?_) fun hb=>?_
 ·have h64:64 ≤ E.length:=by simp only [decide_eq_true_eq] at hb; omega
  repeat refine s_nx ?_
  refine s_pick (Sep.stars (E.map entO)) ?_
  refine s_ownS s ?_
  refine s_own f ?_
  exact zDd hE (s_end (hfull h64))
 have h64:E.length < 64:=by simp only [decide_eq_false_iff_not] at hb; omega
 repeat refine s_nx ?_
 refine s_ar (e':=ct + 1) (wrapU64 (by omega) (by omega)) ?_
 repeat refine s_nx ?_
 refine s_new fun id7=>?_
 repeat refine s_nx ?_
 obtain ⟨q1,q2,q3,q4,q5⟩:=zF2 hrt
 refine zJl (t:=t) (fun w hw=>hr w hw.drops) ⟨by omega,by omega,by omega,fun x hx=>by have:=q5 x hx; omega⟩ fun t' ht'=>?_
 repeat refine s_nx ?_
 refine s_new fun b=>?_
 repeat refine s_nx ?_
 refine s_new fun t56=>?_
 repeat refine s_nx ?_
 refine zBJ (s:=s) (esz:=1) (us:=[.pointer (some ⟨b,0,none⟩)]) (blk_rd rfl) (by intro v hv; rw [List.mem_singleton.1 hv]; rfl) (by simp only; omega) fun s2 hs2=>?_
 repeat refine s_nx ?_
 refine s_end (Δ:=txC t' (blk b (.cells (entL ⟨b,⟨nd,ep,ct + 1,0⟩,t',none⟩).toArray zBI (0,0))::blk f (.cells (frL nd ep rg (ct + 1) s2).toArray zBO (0,0))::SlC zA0 1 s2 (((E.map ptrE).map Value.pointer)++[Value.pointer (some (⟨b,0,none⟩:Addr))])::Sep.stars (E.map entO)::Γ)) ?_
 refine s_mkTx ?_
 refine s_ordN (g:=⟨nd,ep,ct + 1,0⟩) ?_
 refine s_end (Δ:=blk b (.cells (entL ⟨b,⟨nd,ep,ct + 1,0⟩,t',none⟩).toArray zBI (0,0))::txO t'::ordO ⟨nd,ep,ct + 1,0⟩ none::Sep.stars (E.map entO)::blk f (.cells (frL nd ep rg (ct + 1) s2).toArray zBO (0,0))::SlC zA0 1 s2 (((E.map ptrE).map Value.pointer)++[Value.pointer (some (⟨b,0,none⟩:Addr))])::Γ) ?_
 refine zFI (e:=⟨b,⟨nd,ep,ct + 1,0⟩,t',none⟩) ?_
 refine s_snoc (F:=entO) ?_
 rw [show ((E.map ptrE).map Value.pointer)++[Value.pointer (some (⟨b,0,none⟩:Addr))] = ((E++[(⟨b,⟨nd,ep,ct + 1,0⟩,t',none⟩:EntX)]).map ptrE).map Value.pointer by simp]
 refine s_pick (Sep.stars ((E++[(⟨b,⟨nd,ep,ct + 1,0⟩,t',none⟩:EntX)]).map entO)) ?_
 refine s_ownS s2 ?_
 refine s_own f ?_
 refine zDd (fun e he=>?_) (hok hrt h64 b t' ht')
 rcases List.mem_append.1 he with he | he
 ·exact hE e he
 ·rw [List.mem_singleton.1 he]
  refine ⟨?_,fun o ho=>by cases ho⟩
  have:rightT rg t' = rightT rg t:=zIF ht' rg
  rw [this,hrt]
theorem zPV {Q:Sl→K} (hE:E.length ≤ 1000) (h:∀ s,s.n = E.length→HG B (SlC zFF 3 s (E.flatMap fun e=>[.int .i64 e.tag.node,.int .u64 e.tag.epoch,.int .u64 e.tag.seq])::FrontR f nd ep rg ct E::Γ) (Q s)) :
  HG B (FrontR f nd ep rg ct E::Γ) (zBu.call (some ⟨f,0,none⟩) Q):=fun w hw=>by
 refine zIg _ _ _ ?_
 refine hg hw ?_
 clear hw w
 refine zFv fun s hok=>?_
 refine s_cap s fun a1 a2 a3 a4=>?_
 rw [List.length_map,List.length_map,Nat.mul_one] at a1
 unfold zBu
 repeat refine s_nx ?_
 refine fun w hw=>hg (show Holds B (SlC zFF 3 ⟨none,0,0⟩ (([]:List EntX).flatMap fun e=>[.int .i64 e.tag.node,.int .u64 e.tag.epoch,.int .u64 e.tag.seq])::_) w from hw.nilSl _ _) ?_
 clear hw w
 refine s_loop (α:=Sl×Int) (ι:=Nat) (fun x i=>x.2 = (i:Int)∧i ≤ E.length) (fun x i=>SlC zFF 3 x.1 ((E.take i).flatMap fun e=>[.int .i64 e.tag.node,.int .u64 e.tag.epoch,.int .u64 e.tag.seq])::blk f (.cells (frL nd ep rg ct s).toArray zBO (0,0))::SlC zA0 1 s ((E.map ptrE).map Value.pointer)::Sep.stars (E.map entO)::Γ) (fun x i=>E.length - i) 0 ⟨rfl,Nat.zero_le _⟩ ?_
 rintro k' ⟨o,_⟩ i ⟨rfl,hi⟩ hk'
 simp only at hi hk' ⊢
 refine s_cap o fun b1 b2 b3 b4=>?_
 rw [zAL _ 3 (fun _=>rfl),List.length_take] at b1
 unfold zBu.b1
 refine s_ite (fun hb=>?_) fun hb=>?_
 ·have hil:i < E.length:=by simp only [decide_eq_true_eq] at hb; omega
  have hge:(E.map ptrE)[i]? = some (ptrE E[i]):=by rw [List.getElem?_map,List.getElem?_eq_getElem hil]; rfl
  have htk:E.take (i + 1) = E.take i++[E[i]]:=List.take_succ_eq_append_getElem hil
  obtain ⟨A,C,hAC⟩:∃ A C,E = A++E[i]::C:=⟨E.take i,E.drop (i + 1),by rw [← List.drop_eq_getElem_cons hil,List.take_append_drop]⟩
  generalize E[i] = e at hge htk hAC
  refine s_idx1 (c:=Value.pointer) (fun w hw=>(own_rd (s:=s) hw).1) hge ?_
  refine s_pick (Sep.stars (E.map entO)) ?_
  rw [show E.map entO = (A++e::C).map entO by rw [← hAC]]
  refine s_mid ?_
  refine s_ent ?_
  repeat refine s_nx ?_
  refine s_new fun t20=>?_
  refine zBJ (s:=o) (esz:=3) (us:=[.int .i64 e.tag.node,.int .u64 e.tag.epoch,.int .u64 e.tag.seq]) (blk_rd rfl) (by intro v hv; simp only [List.mem_cons,List.not_mem_nil,or_false] at hv; rcases hv with rfl | rfl | rfl <;> rfl) (by simp only; omega) fun o2 ho2=>?_
  refine s_ai ?_
  rw [show ((E.take i).flatMap fun e=>[Value.int .i64 e.tag.node,.int .u64 e.tag.epoch,.int .u64 e.tag.seq])++[.int .i64 e.tag.node,.int .u64 e.tag.epoch,.int .u64 e.tag.seq] = (E.take (i + 1)).flatMap fun e=>[Value.int .i64 e.tag.node,.int .u64 e.tag.epoch,.int .u64 e.tag.seq] by rw [htk]; simp]
  refine s_end (Δ:=blk e.b (.cells (entL e).toArray zBI (0,0))::txO e.tx::ordO e.tag e.ord::Sep.stars ((A++C).map entO)::SlC zFF 3 o2 ((E.take (i + 1)).flatMap fun e=>[.int .i64 e.tag.node,.int .u64 e.tag.epoch,.int .u64 e.tag.seq])::blk f (.cells (frL nd ep rg ct s).toArray zBO (0,0))::SlC zA0 1 s ((E.map ptrE).map Value.pointer)::Γ) ?_
  refine zFI ?_
  refine zCS ?_
  rw [show (A++e::C).map entO = E.map entO by rw [← hAC]]
  exact s_end (hk' (o2,(i:Int) + 1) (i + 1) ⟨by simp,hil⟩ (by omega))
 ·have hil:i = E.length:=by simp only [decide_eq_false_iff_not] at hb; omega
  rw [hil] at b1
  rw [hil,List.take_length]
  refine s_swap ?_
  refine s_pick (Sep.stars (E.map entO)) ?_
  refine s_ownS s ?_
  refine s_own f ?_
  exact zDd hok (s_swap (h o (by omega)))
end
end Go.Proofs.YtdemfamgieonbaaGreat
namespace Go.Proofs.YtdemfamgieonbaaGreat
open Go Go.Sep Go.Sep.Bt
set_option maxRecDepth 100000
inductive F2 {α β:Type} (R:α→β→Prop):List α→List β→Prop
 | nil:F2 R [] []
 | cons {a:α} {b:β} {l:List α} {m:List β}:R a b→F2 R l m→F2 R (a::l) (b::m)
theorem zPW {α β:Type} {R:α→β→Prop} {as':List α} {bs':List β} {a:α} {b:β} (h:F2 R as' bs') (h2:R a b):F2 R (as'++[a]) (bs'++[b]):=by
 induction h with
 | nil=>exact .cons h2 .nil
 | cons h3 _ ih=>exact .cons h3 ih
theorem f2_len {α β:Type} {R:α→β→Prop} {as':List α} {bs':List β} (h:F2 R as' bs'):as'.length = bs'.length:=by
 induction h with
 | nil=>rfl
 | cons _ _ ih=>simp [ih]
theorem zSN {n:Nat} {M:Recs} {as' bs':List EntX} (h:F2 (Told n M) as' bs'):bs'.map ptrE = as'.map ptrE:=by
 induction h with
 | nil=>rfl
 | cons h1 _ ih=>simp [ih,ptrE,h1.1]
theorem zPX {n:Nat} {M:Recs} {g:Int} {e e':EntX} (h:Told n M e e') (ho:EntOk g e):EntOk g e':=by
 obtain ⟨h1,h2,h3,o,h4,h5,h6,h7⟩:=h
 obtain ⟨g1,g2⟩:=ho
 refine ⟨by rw [h3]; exact g1,fun o' ho'=>?_⟩
 rw [h4] at ho'
 cases ho'
 refine ⟨by rw [h3]; exact h5,?_⟩
 cases he:e.ord with
 | none =>
  rw [h6 he,mksOf,List.length_map]
  have h8:=zFH (e.tx.reads++e.tx.writes)
  rw [List.length_append] at h8
  have:=zF2 g1
  omega
 | some o0 =>
  rw [h7 o0 he]
  exact (g2 o0 he).2
theorem zQw (L:List OutX):∀ v ∈ L.flatMap outL,flatV v = true:=fun v hv=>by
 obtain ⟨x,_,hx⟩:=List.mem_flatMap.1 hv
 simp only [outL,ordL,List.mem_cons,List.not_mem_nil,or_false] at hx
 rcases hx with rfl | rfl | rfl | rfl | rfl | rfl | rfl | rfl | rfl | rfl <;> rfl
section
variable {B:World} {Γ Δ:List HProp} {k:K} {f sd st n:Nat} {sv:SchV} {M:Recs} {nd ep rg ct:Int} {E:List EntX}
abbrev ordsL (out s:Sl) (f sd st:Nat) (sv:SchV) (n:Nat) (M:Recs) (nd ep rg ct:Int) (ps:List (Option Addr)) (X:List OutX) (Γ:List HProp):List HProp :=
 SlC zAO 10 out (X.flatMap outL)::Sep.stars (X.map outO)::blk f (.cells (frL nd ep rg ct s).toArray zBO (0,0))::SlC zA0 1 s (ps.map Value.pointer)::SchR sd st sv::StoreR st n M::Γ
theorem zTj {out s:Sl} {ps:List (Option Addr)} {X:List OutX} {e:EntX} {o:OrdX} {X1:Sl→Int→K} {Q:Sl→K} {i:Nat} (hen:e.ord = some o) (hok:EntOk rg e) (hX:X.length ≤ 100) (hi:i ≤ 100)
  (h:∀ out' x,OutIs e x→HG B (entO e::ordsL out' s f sd st sv n M nd ep rg ct ps (X++[x]) Γ) (X1 out' ((i:Int) + 1))) :
  HG B (entO e::ordsL out s f sd st sv n M nd ep rg ct ps X Γ) (zAW.s2 Q X1 (some ⟨sd,0,none⟩) out (some ⟨e.b,0,none⟩) s (s.n:Int) (i:Int)):=by
 obtain ⟨b,tag,tx,ord⟩:=e
 simp only at hen
 subst hen
 obtain ⟨g1,g2⟩:=hok
 obtain ⟨g3,g4⟩:=g2 o rfl
 simp only at g1 g3
 have g5:=zF2 g1
 have g6:o.t.ops.length = tx.ops.length:=by have:=congrArg List.length g3.2.2.2.2; simpa using this
 have g7:∀ x ∈ o.t.ops,x.1.val.length ≤ 1000000:=fun x hx=>by
  have:x.1 ∈ o.t.ops.map Prod.fst:=List.mem_map.2 ⟨x,hx,rfl⟩
  rw [g3.2.2.2.2] at this
  obtain ⟨y,hy,e2⟩:=List.mem_map.1 this
  have:=g5.2.2.2.2 y hy
  rw [← e2]; omega
 refine s_cap out fun a1 a2 a3 a4=>?_
 rw [zAL _ 10 zD8] at a1
 unfold zAW.s2
 refine s_ent ?_
 refine s_pick (ordO tag (some o)) ?_
 refine s_ordS ?_
 repeat refine s_nx ?_
 refine zP5 (g:=tag) (o:=o) (fun w hw=>txC_rd (t:=o.t) (Γ:=Γ) hw.drops) (fun w hw=>(own_rd (s:=o.ms) hw).1) ⟨by rw [g3.2.2.1]; omega,by rw [g3.2.2.2.1]; omega,by omega,g7⟩ g4 fun t' ms' ht'=>?_
 repeat refine s_nx ?_
 refine s_new fun t43=>?_
 refine zBJ (s:=out) (esz:=10) (us:=outL (tag,⟨0,t',ms',o.mks⟩)) (blk_rd rfl) (fun v hv=>zQw [((tag,⟨0,t',ms',o.mks⟩):OutX)] v (by simpa using hv)) (by simp only; omega) fun out2 hout2=>?_
 refine s_ai ?_
 rw [show X.flatMap outL++outL (tag,⟨0,t',ms',o.mks⟩) = (X++[((tag,⟨0,t',ms',o.mks⟩):OutX)]).flatMap outL by simp only [List.flatMap_append,List.flatMap_cons,List.flatMap_nil,List.append_nil]]
 refine s_end (Δ:=blk o.b (.cells (ordL tag o).toArray zAO (0,0))::SlC zAs 3 o.ms (o.mks.flatMap mkL)::txC o.t (blk b (.cells (entL ⟨b,tag,tx,some o⟩).toArray zBI (0,0))::txO tx::outO (tag,⟨0,t',ms',o.mks⟩)::Sep.stars (X.map outO)::SlC zAO 10 out2 ((X++[((tag,⟨0,t',ms',o.mks⟩):OutX)]).flatMap outL)::blk f (.cells (frL nd ep rg ct s).toArray zBO (0,0))::SlC zA0 1 s (ps.map Value.pointer)::SchR sd st sv::StoreR st n M::Γ)) ?_
 refine zOA ?_
 refine s_end (Δ:=outO (tag,⟨0,t',ms',o.mks⟩)::Sep.stars (X.map outO)::blk b (.cells (entL ⟨b,tag,tx,some o⟩).toArray zBI (0,0))::txO tx::ordO tag (some o)::SlC zAO 10 out2 ((X++[((tag,⟨0,t',ms',o.mks⟩):OutX)]).flatMap outL)::blk f (.cells (frL nd ep rg ct s).toArray zBO (0,0))::SlC zA0 1 s (ps.map Value.pointer)::SchR sd st sv::StoreR st n M::Γ) ?_
 refine s_snoc (F:=outO) ?_
 refine s_end (Δ:=blk b (.cells (entL ⟨b,tag,tx,some o⟩).toArray zBI (0,0))::txO tx::ordO tag (some o)::ordsL out2 s f sd st sv n M nd ep rg ct ps (X++[((tag,⟨0,t',ms',o.mks⟩):OutX)]) Γ) ?_
 refine zFI (e:=⟨b,tag,tx,some o⟩) ?_
 refine h out2 (tag,⟨0,t',ms',o.mks⟩) ⟨rfl,?_,o,rfl,rfl⟩
 obtain ⟨p1,p2,p3,p4,p5⟩:=ht'
 obtain ⟨q1,q2,q3,q4,q5⟩:=g3
 exact ⟨p1.trans q1,p2.trans q2,p3.trans q3,p4.trans q4,p5.trans q5⟩
theorem zMc {Q:Sl→K} (hE:E.length ≤ 64)
  (h:∀ E' out X,F2 (Told n M) E E'→F2 OutIs E' X→HG B (SlC zAO 10 out (X.flatMap outL)::Sep.stars (X.map outO)::FrontR f nd ep rg ct E'::SchR sd st sv::StoreR st n M::Γ) (Q out)) :
  HG B (FrontR f nd ep rg ct E::SchR sd st sv::StoreR st n M::Γ) (zAW.call (some ⟨f,0,none⟩) (some ⟨sd,0,none⟩) Q):=fun w hw=>by
 refine zHb _ _ _ _ ?_
 refine hg hw ?_
 clear hw w
 refine zFv fun s hok=>?_
 refine s_cap s fun a1 a2 a3 a4=>?_
 rw [List.length_map,List.length_map,Nat.mul_one] at a1
 unfold zAW
 repeat refine s_nx ?_
 refine fun w hw=>hg (show Holds B (Sep.stars (([]:List OutX).map outO)::_) w from hw.starsNil) ?_
 clear hw w
 refine fun w hw=>hg (show Holds B (SlC zAO 10 ⟨none,0,0⟩ (([]:List OutX).flatMap outL)::_) w from hw.nilSl _ _) ?_
 clear hw w
 refine s_end (Δ:=Sep.stars (E.map entO)::ordsL ⟨none,0,0⟩ s f sd st sv n M nd ep rg ct (E.map ptrE) [] Γ) ?_
 refine s_loop (α:=Sl×Int) (ι:=Nat×List EntX×List OutX) (fun x i=>x.2 = (i.1:Int)∧i.1 ≤ E.length∧F2 (Told n M) (E.take i.1) i.2.1∧F2 OutIs i.2.1 i.2.2) (fun x i=>Sep.stars ((i.2.1++E.drop i.1).map entO)::ordsL x.1 s f sd st sv n M nd ep rg ct (E.map ptrE) i.2.2 Γ) (fun x i=>E.length - i.1) (0,[],[]) ⟨rfl,Nat.zero_le _,.nil,.nil⟩ ?_
 rintro k' ⟨out,_⟩ ⟨i,D,X⟩ ⟨rfl,hi,hD,hX⟩ hk'
 simp only at hi hD hX hk' ⊢
 have hDl:=f2_len hD
 rw [List.length_take] at hDl
 have hXl:=f2_len hX
 unfold zAW.b1
 refine s_ite (fun hb=>?_) fun hb=>?_
 rotate_left
 ·have hil:i = E.length:=by simp only [decide_eq_false_iff_not] at hb; omega
  rw [hil,List.take_length] at hD
  rw [hil,List.drop_length,List.append_nil,← zSN hD]
  refine s_pick (Sep.stars (D.map entO)) ?_
  refine s_ownS s ?_
  refine s_own f ?_
  refine zDd (fun e he=>?_) (s_end (h D out X hD hX))
  have:∀ {as' bs':List EntX},F2 (Told n M) as' bs'→(∀ e ∈ as',EntOk rg e)→∀ e ∈ bs',EntOk rg e:=by
   intro as' bs' hf
   induction hf with
   | nil=>intro _ e he; cases he
   | cons h1 _ ih =>
    intro ha e he
    rcases List.mem_cons.1 he with rfl | he
    ·exact zPX h1 (ha _ List.mem_cons_self)
    ·exact ih (fun e he=>ha e (List.mem_cons_of_mem _ he)) e he
  exact this hD hok e he
 have hil:i < E.length:=by simp only [decide_eq_true_eq] at hb; omega
 have hge:(E.map ptrE)[i]? = some (ptrE E[i]):=by rw [List.getElem?_map,List.getElem?_eq_getElem hil]; rfl
 have htk:E.take (i + 1) = E.take i++[E[i]]:=List.take_succ_eq_append_getElem hil
 have hmem:E[i] ∈ E:=List.getElem_mem hil
 rw [List.drop_eq_getElem_cons hil]
 generalize E[i] = e at hge htk hmem
 have hoe:=hok e hmem
 have tell:∀ e' o,e'.ord = some o→e'.b = e.b→EntOk rg e'→Told n M e e'→HG B (entO e'::Sep.stars ((D++E.drop (i + 1)).map entO)::ordsL out s f sd st sv n M nd ep rg ct (E.map ptrE) X Γ) (zAW.s2 Q (fun out4_1 t13_1=>k' (out4_1,t13_1)) (some ⟨sd,0,none⟩) out (some ⟨e.b,0,none⟩) s (s.n:Int) (i:Int)):=fun e' o he1 he2 he3 he4=>by
  rw [← he2]
  refine s_end (Δ:=entO e'::ordsL out s f sd st sv n M nd ep rg ct (E.map ptrE) X (Sep.stars ((D++E.drop (i + 1)).map entO)::Γ)) ?_
  refine zTj he1 he3 (by omega) (by omega) fun out' x hx=>?_
  refine s_end (Δ:=entO e'::Sep.stars ((D++E.drop (i + 1)).map entO)::ordsL out' s f sd st sv n M nd ep rg ct (E.map ptrE) (X++[x]) Γ) ?_
  refine zCS ?_
  rw [show D++e'::E.drop (i + 1) = (D++[e'])++E.drop (i + 1) by simp]
  exact hk' (out',(i:Int) + 1) (i + 1,D++[e'],X++[x]) ⟨by simp,hil,by rw [htk]; exact zPW hD he4,zPW hX hx⟩ (by simp only; omega)
 refine s_idx1 (c:=Value.pointer) (fun w hw=>(own_rd (s:=s) hw).1) hge ?_
 refine s_mid ?_
 obtain ⟨b,tag,tx,ord⟩:=e
 cases ord with
 | some o =>
  refine s_ent ?_
  repeat refine s_nx ?_
  refine s_end (Δ:=blk b (.cells (entL ⟨b,tag,tx,some o⟩).toArray zBI (0,0))::txO tx::ordO tag (some o)::Sep.stars ((D++E.drop (i + 1)).map entO)::ordsL out s f sd st sv n M nd ep rg ct (E.map ptrE) X Γ) ?_
  refine zFI (e:=⟨b,tag,tx,some o⟩) ?_
  exact tell ⟨b,tag,tx,some o⟩ o rfl rfl hoe ⟨rfl,rfl,rfl,o,rfl,(hoe.2 o rfl).1,fun h0=>(by cases h0),fun o0 h0=>(by cases h0; rfl)⟩
 | none =>
  have g5:=zF2 hoe.1
  simp only at g5
  have hkl:=zFH (tx.reads++tx.writes)
  rw [List.length_append] at hkl
  have S3:∀ (o7:Nat) (t':TxX) (ms:Sl),TxIs t' tx→HG B (blk o7 (.cells (ordL tag ⟨o7,t',ms,mksOf n M (keysT (tx.reads++tx.writes))⟩).toArray zAO (0,0))::SlC zAs 3 ms ((mksOf n M (keysT (tx.reads++tx.writes))).flatMap mkL)::txC t' (blk b (.cells (entL ⟨b,tag,tx,none⟩).toArray zBI (0,0))::txO tx::Sep.stars ((D++E.drop (i + 1)).map entO)::ordsL out s f sd st sv n M nd ep rg ct (E.map ptrE) X Γ)) (zAW.s3 Q (fun out4_1 t13_1=>k' (out4_1,t13_1)) (some ⟨sd,0,none⟩) out ⟨b,0,none⟩ ⟨o7,0,none⟩ s (s.n:Int) (i:Int)):=fun o7 t' ms ht'=>by
   refine zOA (g:=tag) (o:=⟨o7,t',ms,mksOf n M (keysT (tx.reads++tx.writes))⟩) ?_
   unfold zAW.s3
   repeat refine s_nx ?_
   refine s_end (Δ:=blk b (.cells (entL ⟨b,tag,tx,some ⟨o7,t',ms,mksOf n M (keysT (tx.reads++tx.writes))⟩⟩).toArray zBI (0,0))::txO tx::ordO tag (some ⟨o7,t',ms,mksOf n M (keysT (tx.reads++tx.writes))⟩)::Sep.stars ((D++E.drop (i + 1)).map entO)::ordsL out s f sd st sv n M nd ep rg ct (E.map ptrE) X Γ) ?_
   refine zFI (e:=⟨b,tag,tx,some ⟨o7,t',ms,mksOf n M (keysT (tx.reads++tx.writes))⟩⟩) ?_
   have ht:Told n M ⟨b,tag,tx,none⟩ ⟨b,tag,tx,some ⟨o7,t',ms,mksOf n M (keysT (tx.reads++tx.writes))⟩⟩:=⟨rfl,rfl,rfl,_,rfl,ht',fun _=>rfl,fun o0 h0=>(by cases h0)⟩
   exact tell ⟨b,tag,tx,some ⟨o7,t',ms,mksOf n M (keysT (tx.reads++tx.writes))⟩⟩ _ rfl rfl (zPX ht hoe) ht
  refine s_ent ?_
  repeat refine s_nx ?_
  refine s_all2 ?_ ?_
  ·refine s_end (Δ:=SchR sd st sv::StoreR st n M::blk b (.cells (entL ⟨b,tag,tx,none⟩).toArray zBI (0,0))::txO tx::Sep.stars ((D++E.drop (i + 1)).map entO)::SlC zAO 10 out (X.flatMap outL)::Sep.stars (X.map outO)::blk f (.cells (frL nd ep rg ct s).toArray zBO (0,0))::SlC zA0 1 s ((E.map ptrE).map Value.pointer)::Γ) ?_
   refine zLD (t:=tx) (fun w hw=>txO_rd (Γ:=Γ) hw.drops) ⟨by omega,by omega,by omega,fun x hx=>by have:=g5.2.2.2.2 x hx; omega⟩ (fun x hx=>by have:=g5.2.2.2.1 x hx; omega) fun t' ms ht'=>?_
   refine s_new fun o7=>?_
   repeat refine s_nx ?_
   exact s_end (S3 o7 t' ms ht')
  ·refine s_new fun o7=>?_
   repeat refine s_nx ?_
   refine s_end (Δ:=SchR sd st sv::StoreR st n M::blk o7 (.cells [.int .i64 0,.int .u64 0,.int .u64 0,.int .i64 0,.int .i64 0,Sl.val ⟨none,0,0⟩,Sl.val ⟨none,0,0⟩,Sl.val ⟨none,0,0⟩,.int .i64 0,Sl.val ⟨none,0,0⟩].toArray zAO (0,0))::blk b (.cells (entL ⟨b,tag,tx,none⟩).toArray zBI (0,0))::txO tx::Sep.stars ((D++E.drop (i + 1)).map entO)::SlC zAO 10 out (X.flatMap outL)::Sep.stars (X.map outO)::blk f (.cells (frL nd ep rg ct s).toArray zBO (0,0))::SlC zA0 1 s ((E.map ptrE).map Value.pointer)::Γ) ?_
   refine zLD (t:=tx) (fun w hw=>txO_rd (Γ:=Γ) hw.drops) ⟨by omega,by omega,by omega,fun x hx=>by have:=g5.2.2.2.2 x hx; omega⟩ (fun x hx=>by have:=g5.2.2.2.1 x hx; omega) fun t' ms ht'=>?_
   repeat refine s_nx ?_
   exact s_end (S3 o7 t' ms ht')
end
end Go.Proofs.YtdemfamgieonbaaGreat
namespace Go.Proofs.YtdemfamgieonbaaGreat
open Go Go.Sep Go.Sep.Bt
set_option maxRecDepth 100000
abbrev fiV (b:Nat):Value:=.func (.func 166) #[] #[.pointer (some ⟨b,0,none⟩)]
abbrev repL (g:TagM) (code:Int) (os:Sl):List Value:=[.int .i64 g.node,.int .u64 g.epoch,.int .u64 g.seq,.int .i64 code,os.val]
abbrev noRep:Array Value:=#[.int .i64 0,.int .u64 0,.int .u64 0,.int .i64 0,Sl.val ⟨none,0,0⟩]
abbrev decL (g:TagM) (code:Int) (os:Sl):List Value:=[.int .i64 g.node,.int .u64 g.epoch,.int .u64 g.seq,.int .i64 g.tr,.int .i64 code,os.val]
theorem zTk {α:Type} {p:α→Bool} {A C:List α} {x:α} (hA:∀ y ∈ A,p y = false) (hx:p x = true):idxI ((A++x::C).findIdx? p) = (A.length:Int):=by
 have:(A++x::C).findIdx? p = some A.length:=by
  rw [List.findIdx?_append,List.findIdx?_eq_none_iff.2 hA]
  simp [List.findIdx?_cons,hx]
 rw [this]; rfl
theorem zLG {α:Type} (p:α→Bool):∀ L:List α,(∀ y ∈ L,p y = false)∨∃ A x C,L = A++x::C∧(∀ y ∈ A,p y = false)∧p x = true
 | []=>.inl (by simp)
 | x::L=>by
  cases hx:p x with
  | true=>exact .inr ⟨[],x,L,rfl,by simp,hx⟩
  | false =>
   rcases zLG p L with h | ⟨A,y,C,h1,h2,h3⟩
   ·refine .inl fun z hz=>?_
    rcases List.mem_cons.1 hz with rfl | hz
    ·exact hx
    ·exact h z hz
   ·refine .inr ⟨x::A,y,C,by rw [h1]; rfl,fun z hz=>?_,h3⟩
    rcases List.mem_cons.1 hz with rfl | hz
    ·exact hx
    ·exact h2 z hz
def restart (e:EntX):EntX:=⟨e.b,⟨e.tag.node,e.tag.epoch,e.tag.seq,e.tag.tr + 1⟩,e.tx,none⟩
section
variable {B:World} {Γ Δ:List HProp} {k:K} {f sd st n:Nat} {M:Recs} {nd ep rg ct:Int} {E:List EntX} {g:TagM}
theorem zP6 {s:Sl} {xs:List UInt8} {Q:Sl→K} (hr:∀ w,Holds B Γ w→RdB w s xs) (hl:xs.length ≤ 140737488351232) (h:∀ s',HG B (Bytes zAd s' xs::Γ) (Q s')):HG B Γ (zBS.call s Q):=fun w hw=>by
 refine zFr _ _ _ ?_
 have hrw:=hr w hw
 have hsn:s.n = xs.length:=by have:=hrw.len; simpa using this.symm
 refine hg hw ?_
 clear hw
 unfold zBS
 refine s_ite (fun hb=>?_) fun hb=>?_
 ·have ha:s.a = none:=by cases hs:s.a with
   | none=>rfl
   | some a=>rw [hs] at hb; cases hb
  have hn:s.n = 0:=hrw.nil ha
  have hus:xs = []:=List.length_eq_zero_iff.1 (by omega)
  refine fun w2 hw2=>h ⟨none,0,0⟩ w2 ?_
  rw [hus]
  exact hw2.nilSl zAd 1
 ·refine s_new fun t5=>?_
  refine fun w2 hw2=>?_
  have h1:Holds B (SlC zAd 1 ⟨some ⟨t5,0,none⟩,0,0⟩ []::Γ) w2:=hw2.imp (zDk (vs:=[]) rfl (by simp))
  refine zHo h1 (by kernel_rfl) (by kernel_rfl) (by':=1) (by kernel_rfl) zIT rfl (hr w2 hw2.tail) (zFV _) (by simp only; omega) (by decide) fun s' w' h' _ _=>?_
  rw [List.nil_append] at h'
  exact h s' w' h'
theorem zTl {Q:Int→K} (hE:E.length ≤ 1000) (h:HG B (FrontR f nd ep rg ct E::Γ) (Q (idxI (E.findIdx? (isTry g))))):HG B (FrontR f nd ep rg ct E::Γ) (zC3.call (some ⟨f,0,none⟩) (tagF g).toArray Q):=fun w hw=>by
 refine zIh _ _ _ _ ?_
 refine hg hw ?_
 clear hw w
 refine zFv fun s hok=>?_
 refine s_cap s fun a1 a2 a3 a4=>?_
 rw [List.length_map,List.length_map,Nat.mul_one] at a1
 unfold zC3
 refine s_new fun b=>?_
 repeat refine s_nx ?_
 refine fun w hw=>zD4 _ _ _ _ ?_
 refine hg hw ?_
 clear hw w
 show HG B _ (idxFK Tryz.prog (acc1 Value.pointer) s (fiV b) _)
 refine zGQ (vV:=fun e:EntX=>.pointer (ptrE e)) (L:=E) (isTry g) (by omega) (by omega) (fun i x k hx hk=>?_) (fun e q he hq=>?_) ?_
 ·exact s_idx1 (c:=Value.pointer) (fun w hw=>(own_rd (s:=s) hw).1) (by rw [List.getElem?_map,hx]; rfl) hk
 ·obtain ⟨A,C,rfl⟩:=List.append_of_mem he
  refine zEY (cs:=[.pointer (some ⟨b,0,none⟩)]) ?_
  refine fun w hw=>zHe _ _ _ _ ?_
  refine hg hw ?_
  clear hw w
  unfold zB3 zB3.s1
  refine s_pick (Sep.stars ((A++e::C).map entO)) ?_
  refine s_mid ?_
  refine s_ent ?_
  have back:HG B (blk e.b (.cells (entL e).toArray zBI (0,0))::txO e.tx::ordO e.tag e.ord::Sep.stars ((A++C).map entO)::blk b (.cells (tagF g).toArray zBz (0,0))::blk f (.cells (frL nd ep rg ct s).toArray zBO (0,0))::SlC zA0 1 s (((A++e::C).map ptrE).map Value.pointer)::Γ) (q (isTry g e)):=by
   refine zFI ?_
   refine zCS ?_
   exact s_end hq
  repeat refine s_nx ?_
  refine s_eqS (xs:=tagF e.tag) (ys:=tagF g) (ks:=tagK) (p:=e.tag = g) zIG ?_
  refine s_ite (fun hb=>?_) fun hb=>?_
  ·have hb':e.tag = g:=by simpa using hb
   repeat refine s_nx ?_
   rw [show (!(ptrO e.ord).isNone) = isTry g e by unfold isTry; rw [hb']; cases e.ord <;> simp]
   exact s_end back
  ·have hb':¬ e.tag = g:=by simpa using hb
   rw [show isTry g e = false by unfold isTry; simp [hb']] at back
   exact s_end back
 ·refine s_pick (Sep.stars (E.map entO)) ?_
  refine s_ownS s ?_
  refine s_own f ?_
  exact zDd hok (s_end h)
theorem zQx {A C:List EntX} {e:EntX} {code:Int} {os:Sl} {at':Int} {Q:Array Value→Bool→K} (hat:at' = (A.length:Int)) (hE:(A++e::C).length ≤ 1000) (h:HG B (FrontR f nd ep rg ct (A++C)::Γ) (Q (repL e.tag code os).toArray true)) :
  HG B (FrontR f nd ep rg ct (A++e::C)::Γ) (zCg.call (some ⟨f,0,none⟩) at' #[.int .i64 code,os.val] Q):=fun w hw=>by
 subst hat
 refine zHd _ _ _ _ _ ?_
 refine hg hw ?_
 clear hw w
 refine zFv fun s hok=>?_
 refine s_cap s fun a1 a2 a3 a4=>?_
 rw [List.length_map,List.length_map,Nat.mul_one] at a1
 have hlen:(A++e::C).length = A.length + (C.length + 1):=by simp
 unfold zCg
 refine s_new fun r5=>?_
 refine s_new fun t6=>?_
 repeat refine s_nx ?_
 refine s_idx1 (c:=Value.pointer) (L:=(A++e::C).map ptrE) (j:=A.length) (x:=ptrE e) (fun w hw=>(own_rd (s:=s) hw).1) (by simp) ?_
 refine s_pick (Sep.stars ((A++e::C).map entO)) ?_
 refine s_mid ?_
 refine s_ent ?_
 repeat refine s_nx ?_
 refine s_new fun id8=>?_
 repeat refine s_nx ?_
 refine s_ai ?_
 refine fun w hw=>zEE _ _ _ _ _ ?_
 refine hg hw ?_
 clear hw w
 refine (show ∀ (Γ':List HProp) (Q':Sl→K),HG B Γ' (delK Tryz.prog zIt 0 1 s (A.length:Int) ((A.length:Int) + 1) Q')→HG B Γ' (zBV s (A.length:Int) ((A.length:Int) + 1) Q') from fun _ _ h=>h) _ _ ?_
 refine s_del (s:=s) (E:=zA0) (i:=A.length) (j:=A.length + 1) (by omega) (by omega) (by omega) (by intro v hv; obtain ⟨y,_,rfl⟩:=List.mem_map.1 hv; rfl) (fun s' hs'=>?_) (by kernel_rfl)
 rw [show (((A++e::C).map ptrE).map Value.pointer).take (A.length * 1)++(((A++e::C).map ptrE).map Value.pointer).drop ((A.length + 1) * 1) = ((A++C).map ptrE).map Value.pointer by
  rw [Nat.mul_one,Nat.mul_one,← List.map_take,← List.map_take,← List.map_drop,← List.map_drop,List.take_left,show A++e::C = (A++[e])++C by simp,List.drop_left' (by simp)]; simp]
 repeat refine s_nx ?_
 refine s_pick (Sep.stars ((A++C).map entO)) ?_
 refine s_ownS s' ?_
 refine s_own f ?_
 refine zDd (fun x hx=>hok x ?_) (s_end h)
 rcases List.mem_append.1 hx with hx | hx
 ·exact List.mem_append_left _ hx
 ·exact List.mem_append_right _ (List.mem_cons_of_mem _ hx)
theorem zOk {s:Sl} {L:OX} {Q:Sl→K} (hr:∀ w,Holds B Γ w→RdC w s 2 (L.flatMap oF)) (hl:L.length ≤ 20000000) (h:∀ s',HG B (SlC zAx 2 s' (L.flatMap oF)::Γ) (Q s')):HG B Γ (zBk.call s Q):=fun w hw=>by
 refine zE1 _ _ _ ?_
 refine hg hw ?_
 clear hw w
 unfold zBk
 refine zEj (us:=L.flatMap oF) hr (fun v hv=>?_) (by rw [zAL _ 2 oF_len]; omega) (by omega) fun s' _=>h s'
 obtain ⟨x,_,hx⟩:=List.mem_flatMap.1 hv
 simp only [oF,List.mem_cons,List.not_mem_nil,or_false] at hx
 rcases hx with rfl | rfl <;> rfl
theorem decS1 {A C:List EntX} {e:EntX} {code:Int} {os:Sl} {O:OX} {r8 t4:Nat} {zs:List Value} {Q:Array Value→Bool→K} (hz:zs.length = 5) (hE:(A++e::C).length ≤ 1000) (hO:O.length ≤ 1000000) (hr:∀ w,Holds B Γ w→RdC w os 2 (O.flatMap oF)) (hv:∀ x ∈ O,∀ w,Holds B Γ w→RdB w x.2 x.1.2) (hvl:∀ x ∈ O,x.1.2.length ≤ 140737488351232)
  (h:∀ (os':Sl) (O':OX),O'.map Prod.fst = O.map Prod.fst→HG B (SlC zAx 2 os' (O'.flatMap oF)::Sep.stars (O'.map oB)::FrontR f nd ep rg ct (A++C)::Γ) (Q (repL e.tag code os').toArray true)) :
  HG B (blk r8 (.cells [.int .i64 code,os.val].toArray zA3 (0,0))::blk t4 (.cells zs.toArray zDl (0,0))::FrontR f nd ep rg ct (A++e::C)::Γ) (zAb.s1 Q ⟨f,0,none⟩ ⟨t4,0,none⟩ (A.length:Int) ⟨r8,0,none⟩):=by
 unfold zAb.s1
 repeat refine s_nx ?_
 refine zOk (L:=O) (fun w hw=>hr w hw.drops) (by omega) fun o2=>?_
 repeat refine s_nx ?_
 refine fun w hw=>hg (show Holds B (Sep.stars (([]:OX).map oB)::_) w from hw.starsNil) ?_
 clear hw w
 refine s_cap o2 fun a1 a2 a3 a4=>?_
 rw [zAL _ 2 oF_len] at a1
 refine s_end (Δ:=SlC zAx 2 o2 (O.flatMap oF)::Sep.stars (([]:OX).map oB)::blk r8 (.cells [.int .i64 code,o2.val].toArray zA3 (0,0))::blk t4 (.cells zs.toArray zDl (0,0))::FrontR f nd ep rg ct (A++e::C)::Γ) ?_
 refine s_loop (α:=Int) (ι:=Nat×OX) (fun x i=>x = (i.1:Int)∧i.1 ≤ O.length∧i.2.map Prod.fst = O.map Prod.fst∧i.2.drop i.1 = O.drop i.1)
  (fun x i=>SlC zAx 2 o2 (i.2.flatMap oF)::Sep.stars ((i.2.take i.1).map oB)::blk r8 (.cells [.int .i64 code,o2.val].toArray zA3 (0,0))::blk t4 (.cells zs.toArray zDl (0,0))::FrontR f nd ep rg ct (A++e::C)::Γ)
  (fun x i=>O.length - i.1) (0,O) ⟨rfl,Nat.zero_le _,rfl,rfl⟩ ?_
 rintro k' _ ⟨i,L⟩ ⟨rfl,hi,hm,hd⟩ hk'
 simp only at hi hm hd hk' ⊢
 have hLl:L.length = O.length:=by have:=congrArg List.length hm; simpa using this
 unfold zAb.b2
 refine s_ite (fun hb=>?_) fun hb=>?_
 ·have hil:i < O.length:=by simp only [decide_eq_true_eq] at hb; omega
  have hge:L[i]? = some O[i]:=by
   have:=congrArg (·[0]?) hd
   simp only [List.getElem?_drop,Nat.add_zero] at this
   rw [this,List.getElem?_eq_getElem hil]
  have hmem:O[i] ∈ O:=List.getElem_mem hil
  generalize O[i] = x at hge hmem
  have hvx:=hvl x hmem
  refine s_idxN oF oF_len (fun w hw=>(own_rd (s:=o2) hw).1) hge ?_
  refine s_new fun o10=>?_
  refine s_stN (b:=o10) (l':=[.bool x.1.1,x.2.val]) ?_
  repeat refine s_nx ?_
  refine zP6 (xs:=x.1.2) (fun w hw=>hv x hmem w hw.drops) hvx fun vs=>?_
  repeat refine s_nx ?_
  refine s_idx (s:=o2) (i:=i) ?_
  refine s_stE (s:=o2) ?_ (by rw [zAL _ 2 oF_len]; omega)
  rw [zGF (y:=((x.1,vs):(Bool×List UInt8)×Sl)) oF_len hge (by omega) rfl]
  refine s_ai ?_
  have hA:(L.set i (x.1,vs)).map Prod.fst = O.map Prod.fst:=by
   rw [← hm,List.map_set]
   refine List.ext_getElem? fun j=>?_
   rw [List.getElem?_set]
   split
   ·rename_i hij
    subst hij
    split
    ·simp [hge]
    ·rename_i hj; simp only [List.length_map] at hj; omega
   ·rfl
  have hB:(L.set i (x.1,vs)).drop (i + 1) = O.drop (i + 1):=by
   rw [List.drop_set_of_lt (by omega),← List.drop_drop,hd,List.drop_drop]
  have h3:=hk' ((i:Int) + 1) (i + 1,L.set i (x.1,vs)) ⟨by simp,hil,hA,hB⟩ (by simp only; omega)
  have ht:(L.set i (x.1,vs)).take (i + 1) = L.take i++[((x.1,vs):(Bool×List UInt8)×Sl)]:=by
   have hx:(L.set i (x.1,vs))[i]? = some (x.1,vs):=by rw [List.getElem?_set_self (by omega)]
   rw [List.take_add_one,hx,List.take_set_of_le (Nat.le_refl _)]
   rfl
  simp only at h3
  rw [ht] at h3
  have h4:=s_snoc (F:=oB) (A:=L.take i) (x:=((x.1,vs):(Bool×List UInt8)×Sl)) (Γ:=SlC zAx 2 o2 ((L.set i (x.1,vs)).flatMap oF)::blk r8 (.cells [.int .i64 code,o2.val].toArray zA3 (0,0))::blk t4 (.cells zs.toArray zDl (0,0))::FrontR f nd ep rg ct (A++e::C)::Γ) (s_end h3)
  exact s_end h4
 ·have hil:i = O.length:=by simp only [decide_eq_false_iff_not] at hb; omega
  rw [hil,← hLl,List.take_length]
  repeat refine s_nx ?_
  refine s_own f ?_
  refine zQx rfl hE ?_
  refine s_stN (b:=t4) (l':=repL e.tag code o2) ?_ hz
  repeat refine s_nx ?_
  exact s_end (h o2 L hm)
theorem zQy {code:Int} {os:Sl} {O:OX} {Q:Array Value→Bool→K} (hE:E.length ≤ 1000) (hO:O.length ≤ 1000000) (hr:∀ w,Holds B Γ w→RdC w os 2 (O.flatMap oF)) (hv:∀ x ∈ O,∀ w,Holds B Γ w→RdB w x.2 x.1.2) (hvl:∀ x ∈ O,x.1.2.length ≤ 140737488351232) (htrs:∀ e ∈ E,0 ≤ e.tag.tr∧e.tag.tr ≤ 2)
  (hno:(∀ e ∈ E,isTry g e = false)→HG B (FrontR f nd ep rg ct E::Γ) (Q noRep false))
  (hst:∀ A e C,E = A++e::C→isTry g e = true→(∀ y ∈ A,isTry g y = false)→code = 112→e.tag.tr < 2→HG B (FrontR f nd ep rg ct (A++restart e::C)::Γ) (Q noRep false))
  (hyes:∀ A e C,E = A++e::C→isTry g e = true→(∀ y ∈ A,isTry g y = false)→¬ (code = 112∧e.tag.tr < 2)→∀ (os':Sl) (O':OX),(code = 112→O' = [])→(code ≠ 112→O'.map Prod.fst = O.map Prod.fst)→HG B (SlC zAx 2 os' (O'.flatMap oF)::Sep.stars (O'.map oB)::FrontR f nd ep rg ct (A++C)::Γ) (Q (repL e.tag (if code = 112 then 141 else code) os').toArray true)) :
  HG B (FrontR f nd ep rg ct E::Γ) (zAb.call (some ⟨f,0,none⟩) (decL g code os).toArray Q):=fun w hw=>by
 refine zHc _ _ _ _ ?_
 refine hg hw ?_
 clear hw w
 unfold zAb
 refine s_new fun d3=>?_
 refine s_new fun t4=>?_
 repeat refine s_nx ?_
 refine s_own f ?_
 refine zTl hE ?_
 rcases zLG (isTry g) E with h | ⟨A,e,C,rfl,hA,he⟩
 ·rw [show E.findIdx? (isTry g) = none from List.findIdx?_eq_none_iff.2 h]
  refine s_t ?_
  repeat refine s_nx ?_
  exact s_end (hno h)
 rw [zTk hA he]
 refine s_f ?_ (by simp)
 have het:e.tag = g:=by
  unfold isTry at he
  simp only [Bool.and_eq_true,decide_eq_true_eq] at he
  exact he.1
 refine zFv fun s hok=>?_
 repeat refine s_nx ?_
 refine zFs (fun x:Option Addr=>[Value.pointer x]) (L:=(A++e::C).map ptrE) (j:=A.length) (x:=ptrE e) (fun _=>rfl) (by omega) (fun w hw=>by rw [zG0]; exact (own_rd (s:=s) hw).1) (by simp) (fun t23 ht23=>?_) rfl
 refine zTW (cs:=[Value.pointer (ptrE e)]) (x:=ptrE e) (fun w hw=>ht23 w (by rw [zG0]; exact (own_rd (s:=s) hw).1)) rfl ?_
 repeat refine s_nx ?_
 refine s_new fun r8=>?_
 repeat refine s_nx ?_
 have S1:∀ (c2:Int) (os2:Sl) (O2:OX),¬ (code = 112∧e.tag.tr < 2)→c2 = (if code = 112 then 141 else code)→(code = 112→O2 = []∧os2 = ⟨none,0,0⟩)→(code ≠ 112→O2 = O∧os2 = os)→HG B (blk r8 (.cells [.int .i64 c2,os2.val].toArray zA3 (0,0))::blk f (.cells (frL nd ep rg ct s).toArray zBO (0,0))::SlC zA0 1 s (((A++e::C).map ptrE).map Value.pointer)::Sep.stars ((A++e::C).map entO)::blk t4 (.cells [.int .i64 0,.int .u64 0,.int .u64 0,.int .i64 0,Sl.val ⟨none,0,0⟩].toArray zDl (0,0))::Γ) (zAb.s1 Q ⟨f,0,none⟩ ⟨t4,0,none⟩ (A.length:Int) ⟨r8,0,none⟩):=fun c2 os2 O2 hn hc2 h1 h2=>by
  refine s_pick (Sep.stars ((A++e::C).map entO)) ?_
  refine s_ownS s ?_
  refine s_own f ?_
  refine zDd hok ?_
  refine s_end (Δ:=blk r8 (.cells [.int .i64 c2,os2.val].toArray zA3 (0,0))::blk t4 (.cells [.int .i64 0,.int .u64 0,.int .u64 0,.int .i64 0,Sl.val ⟨none,0,0⟩].toArray zDl (0,0))::FrontR f nd ep rg ct (A++e::C)::Γ) ?_
  by_cases hc:code = 112
  ·obtain ⟨rfl,rfl⟩:=h1 hc
   refine decS1 (O:=[]) rfl hE (by simp) (fun w hw=>RdC.none') (by simp) (by simp) fun os' O' hO'=>?_
   rw [hc2]
   exact hyes A e C rfl he hA hn os' O' (fun _=>by simpa using hO') (fun h=>absurd hc h)
  ·obtain ⟨rfl,rfl⟩:=h2 hc
   refine decS1 (O:=O2) rfl hE hO hr hv hvl fun os' O' hO'=>?_
   rw [hc2]
   exact hyes A e C rfl he hA hn os' O' (fun h=>absurd h hc) (fun _=>hO')
 refine s_ite (fun hb=>?_) fun hb=>?_
 ·have hc:code = 112:=by simpa using hb
  refine s_pick (Sep.stars ((A++e::C).map entO)) ?_
  refine s_mid ?_
  refine s_ent ?_
  repeat refine s_nx ?_
  unfold zAb.s3
  by_cases htr:e.tag.tr < 2
  ·rw [show decide (e.tag.tr < 2) = true by simpa using htr]
   refine s_t ?_
   repeat refine s_nx ?_
   refine s_ar (e':=e.tag.tr + 1) (by have:=htrs e (by simp); rw [wrap64 (by omega) (by omega)]) ?_
   repeat refine s_nx ?_
   refine s_ordN (g:=⟨e.tag.node,e.tag.epoch,e.tag.seq,e.tag.tr + 1⟩) ?_
   refine s_end (Δ:=blk e.b (.cells (entL ⟨e.b,⟨e.tag.node,e.tag.epoch,e.tag.seq,e.tag.tr + 1⟩,e.tx,none⟩).toArray zBI (0,0))::txO e.tx::ordO ⟨e.tag.node,e.tag.epoch,e.tag.seq,e.tag.tr + 1⟩ none::Sep.stars ((A++C).map entO)::blk f (.cells (frL nd ep rg ct s).toArray zBO (0,0))::SlC zA0 1 s (((A++e::C).map ptrE).map Value.pointer)::Γ) ?_
   refine zFI (e:=restart e) ?_
   refine zCS ?_
   rw [show ((A++e::C).map ptrE) = ((A++restart e::C).map ptrE) by simp [restart]]
   refine s_pick (Sep.stars ((A++restart e::C).map entO)) ?_
   refine s_ownS s ?_
   refine s_own f ?_
   refine zDd (fun x hx=>?_) (hst A e C rfl he hA hc htr)
   rcases List.mem_append.1 hx with hx | hx
   ·exact hok x (List.mem_append_left _ hx)
   ·rcases List.mem_cons.1 hx with rfl | hx
    ·exact ⟨(hok e (by simp)).1,fun o ho=>by cases ho⟩
    ·exact hok x (List.mem_append_right _ (List.mem_cons_of_mem _ hx))
  ·rw [show decide (e.tag.tr < 2) = false by simpa using htr]
   refine s_f ?_
   repeat refine s_nx ?_
   refine s_t ?_
   repeat refine s_nx ?_
   refine s_end (Δ:=blk e.b (.cells (entL e).toArray zBI (0,0))::txO e.tx::ordO e.tag e.ord::Sep.stars ((A++C).map entO)::blk r8 (.cells [.int .i64 141,Sl.val ⟨none,0,0⟩].toArray zA3 (0,0))::blk f (.cells (frL nd ep rg ct s).toArray zBO (0,0))::SlC zA0 1 s (((A++e::C).map ptrE).map Value.pointer)::blk t4 (.cells [.int .i64 0,.int .u64 0,.int .u64 0,.int .i64 0,Sl.val ⟨none,0,0⟩].toArray zDl (0,0))::Γ) ?_
   refine zFI ?_
   refine zCS ?_
   exact s_end (S1 141 ⟨none,0,0⟩ [] (fun h=>htr h.2) (by rw [if_pos hc]) (fun _=>⟨rfl,rfl⟩) (fun h=>absurd hc h))
 ·have hc:¬ code = 112:=by simpa using hb
  unfold zAb.s3
  refine s_f ?_
  repeat refine s_nx ?_
  refine s_f ?_ (by simpa using hc)
  exact s_end (S1 code os O (fun h=>hc h.1) (by rw [if_neg hc]) (fun h=>absurd h hc) (fun _=>⟨rfl,rfl⟩))
end
end Go.Proofs.YtdemfamgieonbaaGreat
namespace Go.Proofs.YtdemfamgieonbaaGreat
open Go Go.Sep
set_option maxRecDepth 100000
set_option maxHeartbeats 4000000
attribute [local irreducible] G Gp Cx Tx Ex Sx Dx Ox Ax Lx Rx Fx Bx Bj Al Do Ld LdN St StN New CallF Ar DoU Rd Rd2 Pu Cd Ite Fv CallV CallY Ans0 Ans1 Ans2 Ans3 Ans4 Ans5 Ext Dead Dr WithS Sv LdS LdNS RdS Rd2S Nn Idx IdxA IdxS Fld Bld Slc SlcS Cat All LoopK RangeF RangeJ TakeD
namespace F_IRLaw21
instance at_106:AT Tryz.prog 106 15:=⟨by kernel_rfl⟩
instance at_156:AT Tryz.prog 156 5:=⟨by kernel_rfl⟩
instance at_180:AT Tryz.prog 180 2:=⟨by kernel_rfl⟩
instance at_25:AT Tryz.prog 25 5:=⟨by kernel_rfl⟩
instance at_35:AT Tryz.prog 35 3:=⟨by kernel_rfl⟩
instance at_37:AT Tryz.prog 37 4:=⟨by kernel_rfl⟩
instance at_40:AT Tryz.prog 40 10:=⟨by kernel_rfl⟩
instance at_48:AT Tryz.prog 48 12:=⟨by kernel_rfl⟩
instance at_51:AT Tryz.prog 51 2:=⟨by kernel_rfl⟩
instance cb_11:CB Tryz.prog 11:=⟨by kernel_rfl⟩
instance cb_12:CB Tryz.prog 12:=⟨by kernel_rfl⟩
instance cb_15:CB Tryz.prog 15:=⟨by kernel_rfl⟩
instance cb_19:CB Tryz.prog 19:=⟨by kernel_rfl⟩
instance cb_20:CB Tryz.prog 20:=⟨by kernel_rfl⟩
instance cb_21:CB Tryz.prog 21:=⟨by kernel_rfl⟩
instance cb_22:CB Tryz.prog 22:=⟨by kernel_rfl⟩
instance cb_24:CB Tryz.prog 24:=⟨by kernel_rfl⟩
instance cb_32:CB Tryz.prog 32:=⟨by kernel_rfl⟩
instance cb_64:CB Tryz.prog 64:=⟨by kernel_rfl⟩
instance cb_77:CB Tryz.prog 77:=⟨by kernel_rfl⟩
instance cb_78:CB Tryz.prog 78:=⟨by kernel_rfl⟩
instance cb_79:CB Tryz.prog 79:=⟨by kernel_rfl⟩
instance cb_80:CB Tryz.prog 80:=⟨by kernel_rfl⟩
instance cb_81:CB Tryz.prog 81:=⟨by kernel_rfl⟩
instance cb_82:CB Tryz.prog 82:=⟨by kernel_rfl⟩
instance cb_83:CB Tryz.prog 83:=⟨by kernel_rfl⟩
instance cb_9:CB Tryz.prog 9:=⟨by kernel_rfl⟩
instance ct_3:CT Tryz.prog 3:=⟨by kernel_rfl⟩
instance ct_30:CT Tryz.prog 30:=⟨by kernel_rfl⟩
instance ct_49:CT Tryz.prog 49:=⟨by kernel_rfl⟩
instance ct_85:CT Tryz.prog 85:=⟨by kernel_rfl⟩
instance ct_9:CT Tryz.prog 9:=⟨by kernel_rfl⟩
instance zU5:FT Tryz.prog 106 0 0 1:=⟨by kernel_rfl⟩
instance zU6:FT Tryz.prog 106 2 2 1:=⟨by kernel_rfl⟩
instance zU7:FT Tryz.prog 106 3 3 5:=⟨by kernel_rfl⟩
instance zU8:FT Tryz.prog 106 5 12 2:=⟨by kernel_rfl⟩
instance zU9:FT Tryz.prog 106 6 14 1:=⟨by kernel_rfl⟩
instance zVA:FT Tryz.prog 156 0 0 3:=⟨by kernel_rfl⟩
instance zVB:FT Tryz.prog 156 1 3 2:=⟨by kernel_rfl⟩
instance zN8:FT Tryz.prog 180 1 1 1:=⟨by kernel_rfl⟩
instance zL0:FT Tryz.prog 37 1 3 1:=⟨by kernel_rfl⟩
instance zHS:FT Tryz.prog 40 0 0 4:=⟨by kernel_rfl⟩
instance zJq:FT Tryz.prog 51 0 0 1:=⟨by kernel_rfl⟩
instance zPU:FT Tryz.prog 51 1 1 1:=⟨by kernel_rfl⟩
instance in_3:INT Tryz.prog 3 .i64:=⟨by kernel_rfl⟩
instance in_33:INT Tryz.prog 33 .u64:=⟨by kernel_rfl⟩
instance mx:MX Tryz.prog:=⟨mixed⟩
instance pl_25:PLT Tryz.prog 25 [(0,1),(1,1),(2,1),(3,1),(4,1)]:=⟨_,Tryz.underlying25,by kernel_rfl⟩
instance pl_35:PLT Tryz.prog 35 [(0,1),(1,1),(2,1)]:=⟨_,Tryz.underlying35,by kernel_rfl⟩
instance pl_37:PLT Tryz.prog 37 [(0,3),(3,1)]:=⟨_,Tryz.underlying37,by kernel_rfl⟩
instance pl_48:PLT Tryz.prog 48 [(0,1),(1,1),(2,10)]:=⟨_,Tryz.underlying48,by kernel_rfl⟩
instance pl_51:PLT Tryz.prog 51 [(0,1),(1,1)]:=⟨_,Tryz.underlying51,by kernel_rfl⟩
instance pl_53:PLT Tryz.prog 53 [(0,4),(4,2)]:=⟨_,Tryz.underlying53,by kernel_rfl⟩
instance sl_22:SLT Tryz.prog 22 9 1:=⟨by kernel_rfl⟩
instance sl_49:SLT Tryz.prog 49 180 2:=⟨by kernel_rfl⟩
instance sl_63:SLT Tryz.prog 63 40 10:=⟨by kernel_rfl⟩
instance sl_67:SLT Tryz.prog 67 35 3:=⟨by kernel_rfl⟩
instance sl_85:SLT Tryz.prog 85 5 1:=⟨by kernel_rfl⟩
instance sl_97:SLT Tryz.prog 97 106 15:=⟨by kernel_rfl⟩
instance st_9:STT Tryz.prog 9:=⟨by kernel_rfl⟩
instance sz_106:SZ Tryz.prog 106 15:=⟨by kernel_rfl⟩
instance sz_156:SZ Tryz.prog 156 5:=⟨by kernel_rfl⟩
instance sz_180:SZ Tryz.prog 180 2:=⟨by kernel_rfl⟩
instance sz_25:SZ Tryz.prog 25 5:=⟨by kernel_rfl⟩
instance sz_35:SZ Tryz.prog 35 3:=⟨by kernel_rfl⟩
instance sz_48:SZ Tryz.prog 48 12:=⟨by kernel_rfl⟩
instance un_29:UN Tryz.prog 29 (.pointer 135):=⟨Tryz.underlying29⟩
instance un_4:UN Tryz.prog 4 .bool:=⟨Tryz.underlying4⟩
instance un_59:UN Tryz.prog 59 (.pointer 161):=⟨Tryz.underlying59⟩
instance zt_106:ZT Tryz.prog 106 (.agg #[(.int .i64 0),(.int .i64 0),(.int .i64 0),(.int .i64 0),(Sl.val ⟨none,0,0⟩),(Sl.val ⟨none,0,0⟩),(Sl.val ⟨none,0,0⟩),(.int .i64 0),(.int .i64 0),(.int .u64 0),(.int .u64 0),(.int .i64 0),(.int .i64 0),(Sl.val ⟨none,0,0⟩),(.string ⟨#[]⟩)]):=⟨Tryz.t106,by kernel_rfl,by kernel_rfl⟩
instance zt_156:ZT Tryz.prog 156 (.agg #[(.int .i64 0),(.int .u64 0),(.int .u64 0),(.int .i64 0),(Sl.val ⟨none,0,0⟩)]):=⟨Tryz.t156,by kernel_rfl,by kernel_rfl⟩
instance zt_180:ZT Tryz.prog 180 (.agg #[(.bool false),(Sl.val ⟨none,0,0⟩)]):=⟨Tryz.t180,by kernel_rfl,by kernel_rfl⟩
instance zt_25:ZT Tryz.prog 25 (.agg #[(.int .i64 0),(Sl.val ⟨none,0,0⟩),(Sl.val ⟨none,0,0⟩),(Sl.val ⟨none,0,0⟩),(.int .i64 0)]):=⟨Tryz.t25,by kernel_rfl,by kernel_rfl⟩
instance zt_35:ZT Tryz.prog 35 (.agg #[(.int .i64 0),(.int .u64 0),(.int .u64 0)]):=⟨Tryz.t35,by kernel_rfl,by kernel_rfl⟩
instance zt_37:ZT Tryz.prog 37 (.agg #[(.int .i64 0),(.int .u64 0),(.int .u64 0),(.int .i64 0)]):=⟨Tryz.t37,by kernel_rfl,by kernel_rfl⟩
instance zt_48:ZT Tryz.prog 48 (.agg #[(.int .i64 0),(.int .i64 0),(.int .i64 0),(.int .u64 0),(.int .u64 0),(.int .i64 0),(.int .i64 0),(Sl.val ⟨none,0,0⟩),(Sl.val ⟨none,0,0⟩),(Sl.val ⟨none,0,0⟩),(.int .i64 0),(Sl.val ⟨none,0,0⟩)]):=⟨Tryz.t48,by kernel_rfl,by kernel_rfl⟩
instance zt_51:ZT Tryz.prog 51 (.agg #[(.int .i64 0),(Sl.val ⟨none,0,0⟩)]):=⟨Tryz.t51,by kernel_rfl,by kernel_rfl⟩
instance zt_53:ZT Tryz.prog 53 (.agg #[(.int .i64 0),(.int .u64 0),(.int .u64 0),(.int .i64 0),(.int .i64 0),(Sl.val ⟨none,0,0⟩)]):=⟨Tryz.t53,by kernel_rfl,by kernel_rfl⟩
instance zt_9:ZT Tryz.prog 9 (.string ⟨#[]⟩):=⟨Tryz.t9,by kernel_rfl,by kernel_rfl⟩
end F_IRLaw21
def zAm.s5 (Q:Bool→K) (X3:Int→K) (f1_5:(Option Addr)) (s2_5:(Option Addr)) (i6_5:Int) (t77_5:Bool):K :=
 Ite t77_5
  (Q false)
  (Ar (IntKind.wrap .i64 (i6_5 + 1)) fun t38 =>
  X3 t38)
def zAm.s4 (Q:Bool→K) (X3:Int→K) (f1_4:(Option Addr)) (s2_4:(Option Addr)) (i6_4:Int) (o7_4:Sl) (t53_4:Bool):K :=
 Ite t53_4
  (Q false)
  (Idx o7_4 0 10 fun t57 =>
  LdN t57 4 fun t59 =>
  Bld #[(.int .i64 0),(.int .u64 0),(.int .u64 0),(.int .i64 0),(.int .i64 0),(Sl.val ⟨none,0,0⟩)] ([(0,4),(4,2)][·]?) [(0,(.agg t59)),(1,(.agg #[(.int .i64 112),(Sl.val ⟨none,0,0⟩)]))] fun t61 =>
  zAb.call f1_4 t61 fun t62x0 t62x1 =>
  New 156 #[(.int .i64 0),(.int .u64 0),(.int .u64 0),(.int .i64 0),(Sl.val ⟨none,0,0⟩)] fun r8 =>
  StN r8 5 t62x0 <|
  Ite (!(t62x1 == (decide (i6_4 = 2))))
   (zAm.s5 Q X3 f1_4 s2_4 i6_4 true)
   (Ite t62x1
    (Ld (r8.add 3) (Value.int .i64) fun t74 =>
    zAm.s5 Q X3 f1_4 s2_4 i6_4 (decide (t74 ≠ 141)))
    (zAm.s5 Q X3 f1_4 s2_4 i6_4 false)))
def zAm.b3 (Q:Bool→K)  (X3:Int→K) (f1_3:(Option Addr)) (s2_3:(Option Addr)) (i6_3:Int):K :=
 Ite (decide (i6_3 < 3))
  (zAW.call f1_3 s2_3 fun t41 =>
  Ite (decide ((t41.n:Int) ≠ 1))
   (zAm.s4 Q X3 f1_3 s2_3 i6_3 t41 true)
   (Idx t41 0 10 fun t47 =>
   Ld (t47.add 3) (Value.int .i64) fun t50 =>
   zAm.s4 Q X3 f1_3 s2_3 i6_3 t41 (decide (t50 ≠ i6_3))))
  (zBu.call f1_3 fun t79 =>
  Q (decide ((t79.n:Int) = 0)))
def zAm.s2 (Q:Bool→K)  (f1_2:(Option Addr)) (s2_2:(Option Addr)) (t34_2:Bool):K :=
 Ite t34_2
  (Q false)
  (LoopK (α:=Int) (fun X x=>zAm.b3 Q X f1_2 s2_2 x) 0)
def zAm.s1 (Q:Bool→K)  (f1_1:(Option Addr)) (s2_1:(Option Addr)) (t20_1:Bool):K :=
 Ite t20_1
  (Q false)
  (New 9 #[(.string ⟨#[97]⟩)] fun t23 =>
  zCA.call f1_1 #[(.int .i64 1),(Sl.val ⟨none,0,0⟩),(Sl.val (Sl.mk (some t23) 1 1)),(Sl.val ⟨none,0,0⟩),(.int .i64 0)] fun t25x0 t25x1 =>
  New 35 #[(.int .i64 0),(.int .u64 0),(.int .u64 0)] fun id4 =>
  StN id4 3 t25x0 <|
  Ite (decide (t25x1 ≠ 0))
   (zAm.s2 Q f1_1 s2_1 true)
   (LdN id4 3 fun t31 =>
   Pu Tryz.prog (do eqGuard .neq 35 (.tmp 31) (.tmp 32) (.agg t31) (.agg #[(.int .i64 2),(.int .u64 7),(.int .u64 1)]); binOp .neq 35 (.agg t31) (.agg #[(.int .i64 2),(.int .u64 7),(.int .u64 1)]):Sem Value) Value.bool fun t33 =>
   zAm.s2 Q f1_1 s2_1 t33))
def zAm  (Q:Bool→K):K :=
 zEa.call 2 7 1 fun t10 =>
 zBZ.call 1 fun t12x0 t12x1 =>
 Ite ((t10).isNone)
  (zAm.s1 Q t10 t12x0 true)
  (zAm.s1 Q t10 t12x0 ((t12x0).isNone))
theorem zLH  (Q:Bool→K) (w:World) (h:zAm  Q w):zAm.call  Q w:=by
 have hJ16:∀ (X3:Int→K),XH 9 X3→JH 16 fun D=>∃ (f1_5:(Option Addr)) (s2_5:(Option Addr)) (i6_5:Int),D [(1,(.pointer f1_5)),(2,(.pointer s2_5)),(6,(.int .i64 i6_5))] (fun C=>∀ (t77_5:Bool),C [(1,(.pointer f1_5)),(2,(.pointer s2_5)),(6,(.int .i64 i6_5)),(77,(.bool t77_5))] (zAm.s5 Q X3 f1_5 s2_5 i6_5 t77_5)):=by intros; exact ⟨fun _ ⟨_,_,_,h⟩=>⟨_,_,h⟩⟩
 have hJ13:∀ (X3:Int→K),XH 9 X3→JH 13 fun D=>∃ (f1_4:(Option Addr)) (s2_4:(Option Addr)) (i6_4:Int) (o7_4:Sl),D [(1,(.pointer f1_4)),(2,(.pointer s2_4)),(6,(.int .i64 i6_4)),(7,(Sl.val o7_4))] (fun C=>∀ (t53_4:Bool),C [(1,(.pointer f1_4)),(2,(.pointer s2_4)),(6,(.int .i64 i6_4)),(7,(Sl.val o7_4)),(53,(.bool t53_4))] (zAm.s4 Q X3 f1_4 s2_4 i6_4 o7_4 t53_4)):=by intros; exact ⟨fun _ ⟨_,_,_,_,h⟩=>⟨_,_,h⟩⟩
 have hL9:∀ (f1_3:(Option Addr)) (s2_3:(Option Addr)),LH 9 (fun x:Int=>[(1,(.pointer f1_3)),(2,(.pointer s2_3)),(6,(.int .i64 x))]) (fun X x=>zAm.b3 Q X f1_3 s2_3 x):=by intros; exact ⟨⟩
 have hJ7:JH 7 fun D=>∃ (f1_2:(Option Addr)) (s2_2:(Option Addr)),D [(1,(.pointer f1_2)),(2,(.pointer s2_2))] (fun C=>∀ (t34_2:Bool),C [(1,(.pointer f1_2)),(2,(.pointer s2_2)),(34,(.bool t34_2))] (zAm.s2 Q f1_2 s2_2 t34_2)):=by intros; exact ⟨fun _ ⟨_,_,h⟩=>⟨_,_,h⟩⟩
 have hJ4:JH 4 fun D=>∃ (f1_1:(Option Addr)) (s2_1:(Option Addr)),D [(1,(.pointer f1_1)),(2,(.pointer s2_1))] (fun C=>∀ (t20_1:Bool),C [(1,(.pointer f1_1)),(2,(.pointer s2_1)),(20,(.bool t20_1))] (zAm.s1 Q f1_1 s2_1 t20_1)):=by intros; exact ⟨fun _ ⟨_,_,h⟩=>⟨_,_,h⟩⟩
 exact g_walk 82 h Tryz.func18
def zDX.b3 (Q:Bool→K) (X1:Int→K) (X3:Int→K) (t10_3:Sl) (t11_3:Int) (t12_3:Int) (t34_3:Sl) (t35_3:Int) (t36_3:Int):K :=
 Ite (decide (t36_3 < t35_3))
  (Idx t34_3 t36_3 2 fun t38 =>
  LdN t38 2 fun t39 =>
  New 180 #[(.bool false),(Sl.val ⟨none,0,0⟩)] fun x6 =>
  StN x6 2 t39 <|
  Ld (x6.add 1) Sl.val fun t41 =>
  Ite (decide ((200:Int) < (t41.n:Int)))
   (Q true)
   (Ar (IntKind.wrap .i64 (t36_3 + 1)) fun t44 =>
   X3 t44))
  (Ar (IntKind.wrap .i64 (t12_3 + 1)) fun t45 =>
  X1 t45)
def zDX.s2 (Q:Bool→K) (X1:Int→K) (o4_2:Addr) (t10_2:Sl) (t11_2:Int) (t12_2:Int) (t31_2:Bool):K :=
 Ite t31_2
  (Q true)
  (Ld ((o4_2.add 12).add 1) Sl.val fun t34 =>
  LoopK (α:=Int) (fun X x=>zDX.b3 Q X1 X t10_2 t11_2 t12_2 t34 (t34.n:Int) x) 0)
def zDX.b1 (Q:Bool→K)  (X1:Int→K) (t10_1:Sl) (t11_1:Int) (t12_1:Int):K :=
 Ite (decide (t12_1 < t11_1))
  (Idx t10_1 t12_1 15 fun t14 =>
  LdN t14 15 fun t15 =>
  New 106 #[(.int .i64 0),(.int .i64 0),(.int .i64 0),(.int .i64 0),(Sl.val ⟨none,0,0⟩),(Sl.val ⟨none,0,0⟩),(Sl.val ⟨none,0,0⟩),(.int .i64 0),(.int .i64 0),(.int .u64 0),(.int .u64 0),(.int .i64 0),(.int .i64 0),(Sl.val ⟨none,0,0⟩),(.string ⟨#[]⟩)] fun o4 =>
  StN o4 15 t15 <|
  LdN (o4.add 3) 5 fun t17 =>
  zAo.call t17 fun t18 =>
  Ite t18
   (zDX.s2 Q X1 o4 t10_1 t11_1 t12_1 true)
   (Ld ((o4.add 12).add 1) Sl.val fun t22 =>
   Ite (decide ((20:Int) < (t22.n:Int)))
    (zDX.s2 Q X1 o4 t10_1 t11_1 t12_1 true)
    (Ld (o4.add 14) Value.string fun t28 =>
    zDX.s2 Q X1 o4 t10_1 t11_1 t12_1 (decide ((16:Int) < (t28.size:Int))))))
  (Q false)
def zDX (script0:Sl) (Q:Bool→K):K :=
 Ite (decide ((100:Int) < (script0.n:Int)))
  (Q true)
  (LoopK (α:=Int) (fun X x=>zDX.b1 Q X script0 (script0.n:Int) x) 0)
def zGb.b1 (Q:Bool→K)  (X1:Int→K) (a0_1:Sl) (b1_1:Sl) (t12_1:Int) (t13_1:Int):K :=
 Ite (decide (t13_1 < t12_1))
  (Dr <|
  Idx a0_1 t13_1 10 fun t18 =>
  Idx b1_1 t13_1 10 fun t22 =>
  LdN t18 10 fun t19 =>
  LdN t22 10 fun t23 =>
  zB1.call t19 t23 fun t24 =>
  Ite (!t24)
   (Q false)
   (Ar (IntKind.wrap .i64 (t13_1 + 1)) fun t26 =>
   X1 t26))
  (Q true)
def zGb (a0:Sl) (b1:Sl) (Q:Bool→K):K :=
 Ite (decide ((a0.n:Int) ≠ (b1.n:Int)))
  (Q false)
  (LoopK (α:=Int) (fun X x=>zGb.b1 Q X a0 b1 (a0.n:Int) x) 0)
def zH6.b1 (Q:K)  (X1:Int→K) (s0_1:(Option Addr)) (t1_1:(Option Addr)) (i9_1:Addr) (r10_1:Int):K :=
 Ite (decide (r10_1 < 2))
  (LdN i9_1 12 fun t34 =>
  zAF.call s0_1 r10_1 t34 fun t35 =>
  LdN i9_1 12 fun t38 =>
  zKN.call t1_1 r10_1 t38 fun t39 =>
  Ar (IntKind.wrap .i64 (r10_1 + 1)) fun t31 =>
  X1 t31)
  (Q)
def zH6 (s0:(Option Addr)) (t1:(Option Addr)) (o2:(Array Value)) (n3:Int) (Q:K):K :=
 New 106 o2 fun o6 =>
 Ld (o6.add 14) Value.string fun t12 =>
 New 9 #[(.string t12)] fun t13 =>
 Ld (o6.add 2) (Value.int .i64) fun t15 =>
 Ar (bitsOf .and .i64 t15 1) fun t16 =>
 New 25 #[(.int .i64 0),(Sl.val ⟨none,0,0⟩),(Sl.val ⟨none,0,0⟩),(Sl.val ⟨none,0,0⟩),(.int .i64 0)] fun x8 =>
 StN x8 5 #[(.int .i64 2),(Sl.val ⟨none,0,0⟩),(Sl.val (Sl.mk (some t13) 1 1)),(Sl.val ⟨none,0,0⟩),(.int .i64 t16)] <|
 Ar (IntKind.wrap .i64 (n3 + 1)) fun t21 =>
 Ar (IntKind.wrap .u64 t21) fun t22 =>
 Bld #[(.int .i64 0),(.int .u64 0),(.int .u64 0),(.int .i64 0)] ([(0,3),(3,1)][·]?) [(0,(.agg #[(.int .i64 0),(.int .u64 9),(.int .u64 t22)]))] fun t24 =>
 LdN x8 5 fun t25 =>
 zBb.call s0 t24 t25 fun t26 =>
 Bld #[(.int .i64 0),(.int .i64 0),(.int .i64 0),(.int .u64 0),(.int .u64 0),(.int .i64 0),(.int .i64 0),(Sl.val ⟨none,0,0⟩),(Sl.val ⟨none,0,0⟩),(Sl.val ⟨none,0,0⟩),(.int .i64 0),(Sl.val ⟨none,0,0⟩)] ([(0,1),(1,1),(2,10)][·]?) [(0,(.int .i64 2)),(1,(.int .i64 n3)),(2,(.agg t26))] fun t27 =>
 New 48 #[(.int .i64 0),(.int .i64 0),(.int .i64 0),(.int .u64 0),(.int .u64 0),(.int .i64 0),(.int .i64 0),(Sl.val ⟨none,0,0⟩),(Sl.val ⟨none,0,0⟩),(Sl.val ⟨none,0,0⟩),(.int .i64 0),(Sl.val ⟨none,0,0⟩)] fun i9 =>
 StN i9 12 t27 <|
 LoopK (α:=Int) (fun X x=>zH6.b1 Q X s0 t1 i9 x) 0
def zCo.s2 (Q:Bool→K)  (t8_2:Bool):K :=
 Q t8_2
def zCo.s3 (Q:Bool→K)  (t8_3:Bool):K :=
 Q t8_3
def zCo.s4 (Q:Bool→K)  (t8_4:Bool):K :=
 Q t8_4
def zCo.s1 (Q:Bool→K)  (f0_1:(Option Addr)) (m1_1:(Option Addr)) (o6_1:Addr) (tag7_1:Addr) (t23_1:Int) (t24_1:Bool):K :=
 Ite t24_1
  (LdN tag7_1 4 fun t29 =>
  LdN (o6_1.add 12) 2 fun t31 =>
  Bld #[(.int .i64 0),(.int .u64 0),(.int .u64 0),(.int .i64 0),(.int .i64 0),(Sl.val ⟨none,0,0⟩)] ([(0,4),(4,2)][·]?) [(0,(.agg t29)),(1,(.agg t31))] fun t32 =>
  zAb.call f0_1 t32 fun t33x0 t33x1 =>
  New 156 #[(.int .i64 0),(.int .u64 0),(.int .u64 0),(.int .i64 0),(Sl.val ⟨none,0,0⟩)] fun a9 =>
  StN a9 5 t33x0 <|
  LdN tag7_1 4 fun t38 =>
  LdN (o6_1.add 12) 2 fun t40 =>
  Bld #[(.int .i64 0),(.int .u64 0),(.int .u64 0),(.int .i64 0),(.int .i64 0),(Sl.val ⟨none,0,0⟩)] ([(0,4),(4,2)][·]?) [(0,(.agg t38)),(1,(.agg t40))] fun t41 =>
  zIv.call m1_1 t41 fun t42x0 t42x1 =>
  New 156 #[(.int .i64 0),(.int .u64 0),(.int .u64 0),(.int .i64 0),(Sl.val ⟨none,0,0⟩)] fun b11 =>
  StN b11 5 t42x0 <|
  Ite (t33x1 == t42x1)
   (LdN a9 5 fun t49 =>
   LdN b11 5 fun t50 =>
   zDz.call t49 t50 fun t51 =>
   zCo.s2 Q t51)
   (zCo.s2 Q false))
  (Ite (decide (t23_1 = 4))
   (LdN tag7_1 4 fun t57 =>
   zGe.call f0_1 t57 fun t58x0 t58x1 =>
   New 156 #[(.int .i64 0),(.int .u64 0),(.int .u64 0),(.int .i64 0),(Sl.val ⟨none,0,0⟩)] fun a13 =>
   StN a13 5 t58x0 <|
   LdN tag7_1 4 fun t63 =>
   zKO.call m1_1 t63 fun t64x0 t64x1 =>
   New 156 #[(.int .i64 0),(.int .u64 0),(.int .u64 0),(.int .i64 0),(Sl.val ⟨none,0,0⟩)] fun b15 =>
   StN b15 5 t64x0 <|
   Ite (t58x1 == t64x1)
    (LdN a13 5 fun t71 =>
    LdN b15 5 fun t72 =>
    zDz.call t71 t72 fun t73 =>
    zCo.s3 Q t73)
    (zCo.s3 Q false))
   (LdN (o6_1.add 3) 5 fun t78 =>
   zBi.call t78 fun t79 =>
   zCA.call f0_1 t79 fun t80x0 t80x1 =>
   New 35 #[(.int .i64 0),(.int .u64 0),(.int .u64 0)] fun a17 =>
   StN a17 3 t80x0 <|
   LdN (o6_1.add 3) 5 fun t86 =>
   zIw.call m1_1 t86 fun t87x0 t87x1 =>
   New 35 #[(.int .i64 0),(.int .u64 0),(.int .u64 0)] fun b19 =>
   StN b19 3 t87x0 <|
   LdN a17 3 fun t90 =>
   LdN b19 3 fun t91 =>
   Pu Tryz.prog (do eqGuard .eql 35 (.tmp 90) (.tmp 91) (.agg t90) (.agg t91); binOp .eql 35 (.agg t90) (.agg t91):Sem Value) Value.bool fun t92 =>
   Ite t92
    (zCo.s4 Q (decide (t80x1 = t87x1)))
    (zCo.s4 Q false)))
def zCo (f0:(Option Addr)) (m1:(Option Addr)) (o2:(Array Value)) (tag3:(Array Value)) (Q:Bool→K):K :=
 New 106 o2 fun o6 =>
 New 37 tag3 fun tag7 =>
 Ld o6 (Value.int .i64) fun t22 =>
 Ar (bitsOf .and .i64 t22 7) fun t23 =>
 Ite (decide (t23 = 2))
  (zCo.s1 Q f0 m1 o6 tag7 t23 (decide (t23 = 2)))
  (zCo.s1 Q f0 m1 o6 tag7 t23 (decide (t23 = 3)))
def zDz.s1 (Q:Bool→K)  (t4_1:Bool):K :=
 Q t4_1
def zDz (a0:(Array Value)) (b1:(Array Value)) (Q:Bool→K):K :=
 New 156 a0 fun a2 =>
 New 156 b1 fun b3 =>
 LdN a2 3 fun t6 =>
 LdN b3 3 fun t8 =>
 Pu Tryz.prog (do eqGuard .eql 35 (.tmp 6) (.tmp 8) (.agg t6) (.agg t8); binOp .eql 35 (.agg t6) (.agg t8):Sem Value) Value.bool fun t9 =>
 Ite t9
  (LdN (a2.add 3) 2 fun t12 =>
  LdN (b3.add 3) 2 fun t14 =>
  zDW.call t12 t14 fun t15 =>
  zDz.s1 Q t15)
  (zDz.s1 Q false)
end Go.Proofs.YtdemfamgieonbaaGreat
namespace Go.Proofs.YtdemfamgieonbaaGreat
open Go Go.Sep Go.Sep.Bt
set_option maxRecDepth 100000
abbrev idF (g:TagM):List Value:=[.int .i64 g.node,.int .u64 g.epoch,.int .u64 g.seq]
abbrev idK:List Ck:=[.int .i64,.int .u64,.int .u64]
theorem zTm {B:World} {Γ:List HProp} {α:Type} (f:α→List Value) {esz m:Nat} {L:List α} {s:Sl} {j:Nat} {jj:Int} {x:α} {k:Array Value→K} {us:List Value} (hf:∀ x,(f x).length = esz) (hm:m ≤ esz) (he:0 < esz) (hr:∀ w,Holds B Γ w→RdC w s esz (L.flatMap f)) (hx:L[j]? = some x) (h:HG B Γ (k us.toArray)) (hu:(f x).take m = us:=by rfl) (hj:jj = (j:Int):=by first | rfl | omega) :
  HG B Γ (Idx s jj esz fun t=>LdN t m k) :=
 zFs f hf he hr hx (fun t ht w hw=>⟨us.toArray,by rw [← hu]; simp [hf]; omega,fun i hi=>by
  have hl:us.length = min m esz:=by rw [← hu,List.length_take,hf]
  simp only [List.size_toArray] at hi
  have:=ht w (hr w hw) i (by simp only [List.size_toArray,hf]; omega)
  rw [this]
  have e:(f x)[i]? = us[i]?:=by rw [← hu,List.getElem?_take,if_pos (by omega)]
  simpa using e,h w hw⟩) hj
theorem f2_one {α β:Type} {R:α→β→Prop} {a:α} {l:List β} (h:F2 R [a] l):∃ b,l = [b]∧R a b:=by
 cases h with
 | cons h1 h2 =>
  cases h2
  exact ⟨_,rfl,h1⟩
section
variable {B:World} {Γ Δ:List HProp}
theorem speaks21 {q:Bool→K} (h:HG B Γ (q true)):HG B Γ (zAm.call q):=fun w hw=>by
 refine zLH _ _ ?_
 refine hg hw ?_
 clear hw w
 unfold zAm
 refine zKG fun f=>?_
 refine zOi (n:=1) (by omega) (by omega) fun sd st sv=>?_
 refine s_f ?_
 unfold zAm.s1
 refine s_f ?_
 refine s_new fun t23=>?_
 refine s_own f ?_
 have hrt:∀ s,rightT 1 ⟨1,[],[[97]],[],0,⟨none,0,0⟩,s,⟨none,0,0⟩⟩ = true:=fun s=>by
  unfold rightT
  rw [if_neg (by simp [headBad]),if_neg (by simp [keysBad]),if_neg (by simp),if_neg (by simp)]
  rfl
 refine zMb (t:=⟨1,[],[[97]],[],0,⟨none,0,0⟩,⟨some ⟨t23,0,none⟩,1,1⟩,⟨none,0,0⟩⟩) (fun w hw=>⟨RdC.none',?_,RdC.none',by simp⟩) (by simp) (by omega) (fun hb=>?_) (fun hb=>by simp at hb) fun _ _ b t' ht'=>?_
 ·exact RdC.of_blk (E:=zBy) (b:=t23) (vs:=[strV [97]]) (cs:=#[strV [97]]) hw (by simp) rfl rfl 1
 ·rw [hrt] at hb; cases hb
 refine s_new fun id4=>?_
 repeat refine s_nx ?_
 refine s_f ?_ (by simp)
 refine s_ldN (b:=id4) (l':=[.int .i64 2,.int .u64 7,.int .u64 (0 + 1)]) ?_
 refine s_neS (xs:=[.int .i64 2,.int .u64 7,.int .u64 (0 + 1)]) (ys:=[.int .i64 2,.int .u64 7,.int .u64 1]) (ks:=idK) (p:=True) (by simp) ?_
 unfold zAm.s2
 refine s_f ?_ (by simp)
 refine s_end (Δ:=FrontR f 2 7 1 (0 + 1) ([]++[⟨b,⟨2,7,0 + 1,0⟩,t',none⟩])::SchR sd st sv::StoreR st 1 []::Γ) ?_
 refine s_loop (α:=Int) (ι:=Nat×List EntX) (fun x i=>x = (i.1:Int)∧i.1 ≤ 3∧(i.1 < 3→∃ e,i.2 = [e]∧e.tag = ⟨2,7,1,(i.1:Int)⟩)∧(i.1 = 3→i.2 = [])) (fun x i=>FrontR f 2 7 1 (0 + 1) i.2::SchR sd st sv::StoreR st 1 []::Γ) (fun x i=>3 - i.1) (0,[⟨b,⟨2,7,0 + 1,0⟩,t',none⟩]) ⟨rfl,by simp,fun _=>⟨_,rfl,by simp⟩,fun h0=>by simp at h0⟩ ?_
 rintro k' _ ⟨i,E⟩ ⟨rfl,hi,hE1,hE3⟩ hk'
 simp only at hi hE1 hE3 hk' ⊢
 unfold zAm.b3
 refine s_ite (fun hb=>?_) fun hb=>?_
 rotate_left
 ·have hi3:i = 3:=by simp only [decide_eq_false_iff_not] at hb; omega
  rw [hE3 hi3]
  refine zPV (by simp) fun s hs=>?_
  rw [show decide ((s.n:Int) = 0) = true by simp; simpa using hs]
  exact s_end h
 have hi3:i < 3:=by simp only [decide_eq_true_eq] at hb; omega
 obtain ⟨e,rfl,het⟩:=hE1 hi3
 refine zMc (by simp) fun E' out X hT hX=>?_
 obtain ⟨e',rfl,hT1⟩:=f2_one hT
 obtain ⟨x,rfl,hX1⟩:=f2_one hX
 obtain ⟨t1,t2,t3,o,t4,t5,t6,t7⟩:=hT1
 obtain ⟨x1,x2,x3⟩:=hX1
 refine s_cap out fun a1 a2 a3 a4=>?_
 rw [zAL _ 10 zD8] at a1
 simp only [List.length_cons,List.length_nil] at a1
 have hon:out.n = 1:=by omega
 have hxt:x.1 = ⟨2,7,1,(i:Int)⟩:=by rw [x1,t2,het]
 have het':e'.tag = ⟨2,7,1,(i:Int)⟩:=by rw [t2,het]
 refine s_f ?_ (by simp; omega)
 refine zGS outL (off:=3) (L:=[x]) (j:=0) (c:=Value.int .i64) (x:=x) (v:=x.1.tr) zD8 (fun w hw=>(own_rd (s:=out) hw).1) rfl rfl ?_
 rw [hxt]
 unfold zAm.s4
 refine s_f ?_ (by simp)
 refine zTm outL (m:=4) (L:=[x]) (j:=0) (x:=x) (us:=tagF x.1) zD8 (by omega) (by omega) (fun w hw=>(own_rd (s:=out) hw).1) rfl ?_
 rw [hxt]
 repeat refine s_nx ?_
 refine s_own f ?_
 have htry:isTry ⟨2,7,1,(i:Int)⟩ e' = true:=by unfold isTry; rw [het',t4]; simp
 refine zQy (g:=⟨2,7,1,(i:Int)⟩) (code:=112) (os:=⟨none,0,0⟩) (O:=[]) (by simp) (by simp) (fun w hw=>RdC.none') (by simp) (by simp) (fun y hy=>?_) (fun hno=>?_) (fun A y C hA hy _ _ htr=>?_) fun A y C hA hy _ hno os' O' _ _=>?_
 ·rw [List.mem_singleton.1 hy,het']; simp only; omega
 ·have:=hno e' (by simp)
  rw [htry] at this; cases this
 ·have hAe:A = []∧y = e'∧C = []:=by
   cases A with
   | nil=>simp at hA; exact ⟨rfl,hA.1.symm,hA.2⟩
   | cons a A=>simp at hA
  obtain ⟨rfl,rfl,rfl⟩:=hAe
  rw [het'] at htr
  simp only at htr
  refine s_new fun r8=>?_
  refine s_stN (b:=r8) (l':=[.int .i64 0,.int .u64 0,.int .u64 0,.int .i64 0,Sl.val ⟨none,0,0⟩]) ?_
  refine s_f ?_ (by simp; omega)
  repeat refine s_nx ?_
  unfold zAm.s5
  repeat refine s_nx ?_
  refine s_ai ?_
  have hfin:=hk' ((i:Int) + 1) (i + 1,[restart y]) ⟨by simp,hi3,fun _=>⟨_,rfl,by simp [restart,het']⟩,fun h3=>by omega⟩ (by simp only; omega)
  rw [List.nil_append]
  exact s_end hfin
 ·have hAe:A = []∧y = e'∧C = []:=by
   cases A with
   | nil=>simp at hA; exact ⟨rfl,hA.1.symm,hA.2⟩
   | cons a A=>simp at hA
  obtain ⟨rfl,rfl,rfl⟩:=hAe
  rw [het'] at hno
  simp only [true_and] at hno
  have hi2:i = 2:=by omega
  subst hi2
  refine s_new fun r8=>?_
  refine s_stN (b:=r8) (l':=repL y.tag 141 os') ?_
  refine s_f ?_ (by simp)
  repeat refine s_nx ?_
  unfold zAm.s5
  refine s_f ?_ (by simp)
  refine s_ai ?_
  have hfin:=hk' (((2:Nat):Int) + 1) (3,[]) ⟨by simp,by simp,fun h3=>by simp at h3,fun _=>rfl⟩ (by simp)
  rw [List.nil_append]
  exact s_end hfin
end
end Go.Proofs.YtdemfamgieonbaaGreat
namespace Go.Proofs.YtdemfamgieonbaaGreat
open Go Go.Sep Go.Sep.Bt
set_option maxRecDepth 100000
section
variable {B:World} {Γ Δ:List HProp}
theorem zOl {st t n:Nat} {X:List RecX} {k:ByteArray} {r:Rec} {s:Sl} {q:Array Value→Bool→K} (hok:∀ x ∈ X.map recM,x.2.ok) (hr:r.ok) (h1:1 ≤ n) (h3:n ≤ 3) (hL:X.length < 1000000000)
  (h:∀ a b,HG B (StoreR st n (putM (X.map recM) k r)::Γ) (q a b)) :
  HG B (blk st (.cells [.int .i64 n,.pointer (some ⟨t,0,none⟩)].toArray zBP (0,0))::TreeR btS cmpS t (X.map recI)::Sep.stars (X.map recB)::Bytes zAd s r.val::Γ) (zAE.call (some ⟨t,0,none⟩) k (recA r s) q):=by
 refine s_own t ?_
 refine zKW fun hs=>?_
 refine zP4 (v:=recC (r,s)) (by simpa using hL) fun L' old had hp=>?_
 have hput:∀ x ∈ putM (X.map recM) k r,x.2.ok:=fun x hx=>by
  rcases zSF hx with rfl | hx
  ·exact hr
  ·exact hok x hx
 rcases hp with ⟨A,C,e,rfl,rfl⟩ | ⟨A,C,e,hA,hC,rfl,rfl,rfl⟩
 ·obtain ⟨XA,r0,XC,rfl,rfl,rfl,rfl⟩:=zI7 e
  have hlt:=zI8 hs
  have e2:putM ((XA++(k,r0)::XC).map recM) k r = (XA++(k,(r,s))::XC).map recM:=by
   rw [List.map_append,List.map_cons]
   rw [show recM (k,r0) = (k,r0.1) from rfl,zSH (fun x hx=>by
    obtain ⟨y,hy,rfl⟩:=List.mem_map.1 hx
    exact hlt y hy)]
   simp
  rw [e2] at h hput
  refine s_pick (Sep.stars ((XA++(k,r0)::XC).map recB)) ?_
  refine s_mid ?_
  have e3:XA.map recI++((k,recC (r,s)):btS.It)::XC.map recI = (XA++(k,(r,s))::XC).map recI:=by simp
  refine s_end (Δ:=recB (k,(r,s))::Sep.stars ((XA++XC).map recB)::blk st (.cells [.int .i64 n,.pointer (some ⟨t,0,none⟩)].toArray zBP (0,0))::TreeR btS cmpS t (XA.map recI++((k,recC (r,s)):btS.It)::XC.map recI)::Γ) ?_
  refine zCS ?_
  rw [e3]
  refine s_end (Δ:=blk st (.cells [.int .i64 n,.pointer (some ⟨t,0,none⟩)].toArray zBP (0,0))::TreeR btS cmpS t ((XA++(k,(r,s))::XC).map recI)::Sep.stars ((XA++(k,(r,s))::XC).map recB)::Γ) ?_
  exact zD5 hput h1 h3 (h _ _)
 ·obtain ⟨XA,XC,rfl,rfl,rfl⟩:=zMa e
  have e2:putM ((XA++XC).map recM) k r = (XA++(k,(r,s))::XC).map recM:=by
   rw [List.map_append,zSI (fun x hx=>by
    obtain ⟨y,hy,rfl⟩:=List.mem_map.1 hx
    exact hA (recI y) (List.mem_map.2 ⟨y,hy,rfl⟩)) (fun x hx=>by
    obtain ⟨y,hy,rfl⟩:=List.mem_map.1 hx
    exact hC (recI y) (List.mem_map.2 ⟨y,hy,rfl⟩))]
   simp
  rw [e2] at h hput
  have e3:XA.map recI++((k,recC (r,s)):btS.It)::XC.map recI = (XA++(k,(r,s))::XC).map recI:=by simp
  refine s_end (Δ:=recB (k,(r,s))::Sep.stars ((XA++XC).map recB)::blk st (.cells [.int .i64 n,.pointer (some ⟨t,0,none⟩)].toArray zBP (0,0))::TreeR btS cmpS t (XA.map recI++((k,recC (r,s)):btS.It)::XC.map recI)::Γ) ?_
  refine zCS ?_
  rw [e3]
  refine s_end (Δ:=blk st (.cells [.int .i64 n,.pointer (some ⟨t,0,none⟩)].toArray zBP (0,0))::TreeR btS cmpS t ((XA++(k,(r,s))::XC).map recI)::Sep.stars ((XA++(k,(r,s))::XC).map recB)::Γ) ?_
  exact zD5 hput h1 h3 (h _ _)
theorem zIY {st n:Nat} {M:Recs} {k:ByteArray} {r:Rec} {s:Sl} {q:K} (hr:r.ok) (hne:r.has = true∨r.cnt ≠ 0) (hL:M.length < 1000000000) (h:HG B (StoreR st n (putM M k r)::Γ) q):HG B (StoreR st n M::Bytes zAd s r.val::Γ) (zBH.call (some ⟨st,0,none⟩) k (recA r s) q):=fun w hw=>by
 refine zGB _ _ _ _ _ ?_
 refine hg hw ?_
 clear hw w
 refine zHR fun t X hM hok h1 h3=>?_
 subst hM
 unfold zBH
 refine s_new fun r5=>?_
 refine s_ld (b:=r5) (x:=r.has) ?_
 have key:HG B (blk r5 (.cells (recL r s).toArray zA9 (0,0))::blk st (.cells [.int .i64 n,.pointer (some ⟨t,0,none⟩)].toArray zBP (0,0))::TreeR btS cmpS t (X.map recI)::Sep.stars (X.map recB)::Bytes zAd s r.val::Γ) (zBH.s1 q (some ⟨st,0,none⟩) k ⟨r5,0,none⟩ false):=by
  unfold zBH.s1
  refine s_f ?_
  refine s_dr ?_
  refine s_nn ?_
  refine s_ld (b:=st) (x:=some ⟨t,0,none⟩) ?_
  refine s_ldN (b:=r5) ?_
  refine s_end (Δ:=blk st (.cells [.int .i64 n,.pointer (some ⟨t,0,none⟩)].toArray zBP (0,0))::TreeR btS cmpS t (X.map recI)::Sep.stars (X.map recB)::Bytes zAd s r.val::Γ) ?_
  exact zOl hok hr h1 h3 (by simpa using hL) fun _ _=>h
 refine s_ite (fun hb=>?_) fun hb=>key
 refine s_ld (b:=r5) (x:=r.cnt) ?_
 have hc:r.cnt ≠ 0:=hne.resolve_left (by simpa using hb)
 rw [show decide (r.cnt = 0) = false by simpa using hc]
 exact key
theorem zL5 {st n:Nat} {M:Recs} {k:ByteArray} {to:Int} {q:Int→K} (hk:k.size < 1000000000000) (hL:M.length < 1000000000) (h:HG B (StoreR st n (sMove n M k to).1::Γ) (q (sMove n M k to).2)):HG B (StoreR st n M::Γ) (zBe.call (some ⟨st,0,none⟩) k to q):=fun w hw=>by
 refine zIb _ _ _ _ _ ?_
 refine hg hw ?_
 clear hw w
 unfold zBe
 refine zDP hk fun s hok=>?_
 generalize hR:sGet n M k = r at *
 refine s_new fun r7=>?_
 refine s_stN (b:=r7) (l':=recL r s) ?_
 have bad:to < 0∨(n:Int) ≤ to→∀ s0,HG B (blk r7 (.cells (recL r s).toArray zA9 (0,0))::Bytes zAd s r.val::StoreR st n M::Γ) (zBe.s1 q s0 k to ⟨r7,0,none⟩ true):=fun hb s0=>by
  unfold zBe.s1
  refine s_t ?_
  have e:sMove n M k to = (M,1):=by unfold sMove; rw [if_pos hb]
  rw [e] at h
  exact s_end h
 refine s_ite (fun hb=>bad (.inl (by simpa using hb)) _) fun hb=>?_
 refine s_nn ?_
 refine s_own st ?_
 refine zHR fun t X hM hok2 h1 h3=>?_
 refine s_ld (b:=st) (x:=(n:Int)) ?_
 subst hM
 refine zD5 hok2 h1 h3 ?_
 refine s_end (Δ:=blk r7 (.cells (recL r s).toArray zA9 (0,0))::Bytes zAd s r.val::StoreR st n (X.map recM)::Γ) ?_
 by_cases hb2:(n:Int) ≤ to
 ·rw [show decide ((n:Int) ≤ to) = true by simpa using hb2]
  exact bad (.inr hb2) _
 rw [show decide ((n:Int) ≤ to) = false by simpa using hb2]
 have hnb:¬ (to < 0∨(n:Int) ≤ to):=by
  simp only [decide_eq_false_iff_not] at hb
  omega
 unfold zBe.s1
 refine s_f ?_
 refine s_ld (b:=r7) (x:=r.cnt) ?_
 refine s_ite (fun hc=>?_) fun hc=>?_
 ·have e:sMove n (X.map recM) k to = (X.map recM,111):=by unfold sMove; rw [if_neg hnb,hR,if_pos (by simpa using hc)]
  rw [e] at h
  exact s_end h
 have hc':r.cnt ≠ 18446744073709551615:=by simpa using hc
 obtain ⟨o1,o2,o3⟩:=hok
 refine s_st (b:=r7) ?_
 refine s_ld (b:=r7) (x:=r.cnt) ?_
 refine s_ar (wrapU64 (by omega) (by omega)) ?_
 refine s_st (b:=r7) ?_
 refine s_ldN (b:=r7) (l':=recL { r with home:=to,cnt:=r.cnt + 1 } s) ?_
 refine s_end (Δ:=StoreR st n (X.map recM)::Bytes zAd s r.val::Γ) ?_
 refine zIY (r:={ r with home:=to,cnt:=r.cnt + 1 }) ⟨by simp only; omega,by simp only; omega,o3⟩ (.inr (by simp only; omega)) hL ?_
 have e:sMove n (X.map recM) k to = (putM (X.map recM) k { r with home:=to,cnt:=r.cnt + 1 },0):=by unfold sMove; rw [if_neg hnb,hR,if_neg hc']
 rw [e] at h
 exact h
end
end Go.Proofs.YtdemfamgieonbaaGreat
namespace Go.Proofs.YtdemfamgieonbaaGreat
open Go Go.Sep
def zHf:Sh:=(.sl .str 1)
theorem sh_22:mkSh Tryz.prog 9 22 = zHf:=by kernel_rfl
def zM9:Sh:=(.fld 0 1 (.int .i64) (.fld 1 1 (.sl .str 1) (.fld 2 1 (.sl .str 1) (.fld 3 1 (.sl (.fld 0 1 (.int .i64) (.fld 1 1 .str (.fld 2 1 (.sl (.int .u8) 1) (.fld 3 1 (.int .i64) .nil)))) 4) (.fld 4 1 (.int .i64) .nil)))))
def zG1:Sh:=(.sl (.fld 0 1 (.int .i64) (.fld 1 1 (.sl .str 1) (.fld 2 1 (.sl .str 1) (.fld 3 1 (.sl (.fld 0 1 (.int .i64) (.fld 1 1 .str (.fld 2 1 (.sl (.int .u8) 1) (.fld 3 1 (.int .i64) .nil)))) 4) (.fld 4 1 (.int .i64) .nil))))) 5)
theorem sh_58:mkSh Tryz.prog 9 58 = zG1:=by kernel_rfl
end Go.Proofs.YtdemfamgieonbaaGreat
namespace Go.Proofs.YtdemfamgieonbaaGreat
open Go Go.Sep Go.Sep.Bt
set_option maxRecDepth 100000
def lookS (cnt mc home mh:Int):Int:=if cnt < mc then 1 else if mc = cnt∧mh = home then 0 else 2
structure Mv where
 key:ByteArray
 to:Int
section
variable {B:World} {Γ Δ:List HProp}
theorem lookHg {hs:Bool} {vl:Sl} {home cnt:Int} {key:ByteArray} {mh mc:Int} {q:Int→K} (h:HG B Γ (q (lookS cnt mc home mh))) :
  HG B Γ (zCO.call #[.bool hs,vl.val,.int .i64 home,.int .u64 cnt] #[.string key,.int .i64 mh,.int .u64 mc] q):=fun w hw=>by
 refine zM6 _ _ _ _ ?_
 refine hg hw ?_
 clear hw w
 unfold zCO
 refine s_new fun r=>?_
 refine s_new fun m=>?_
 refine s_end (Δ:=blk m (.cells [.string key,.int .i64 mh,.int .u64 mc].toArray zAs (0,0))::blk r (.cells [.bool hs,vl.val,.int .i64 home,.int .u64 cnt].toArray zA9 (0,0))::Γ) ?_
 refine s_ld (b:=m) (x:=mc) ?_
 refine s_ld (b:=r) (x:=cnt) ?_
 refine s_ite (fun hb=>?_) fun hb=>?_
 ·have e:lookS cnt mc home mh = 1:=by unfold lookS; rw [if_pos (by simpa using hb)]
  rw [e] at h; exact s_end h
 have hb':¬ cnt < mc:=by simpa using hb
 refine s_ld (b:=m) (x:=mc) ?_
 refine s_ld (b:=r) (x:=cnt) ?_
 refine s_ite (fun hc=>?_) fun hc=>?_
 ·have hc':mc = cnt:=by simpa using hc
  refine s_ld (b:=m) (x:=mh) ?_
  refine s_ld (b:=r) (x:=home) ?_
  unfold zCO.s1
  refine s_ite (fun hd=>?_) fun hd=>?_
  ·have e:lookS cnt mc home mh = 0:=by unfold lookS; rw [if_neg hb',if_pos ⟨hc',by simpa using hd⟩]
   rw [e] at h; exact s_end h
  ·have e:lookS cnt mc home mh = 2:=by unfold lookS; rw [if_neg hb',if_neg fun x=>by simp [x.2] at hd]
   rw [e] at h; exact s_end h
 ·unfold zCO.s1
  refine s_f ?_
  have e:lookS cnt mc home mh = 2:=by unfold lookS; rw [if_neg hb',if_neg fun x=>by simp [x.1] at hc]
  rw [e] at h; exact s_end h
end
end Go.Proofs.YtdemfamgieonbaaGreat
namespace Go.Proofs.YtdemfamgieonbaaGreat
open Go Go.Sep Go.RowKit
end Go.Proofs.YtdemfamgieonbaaGreat
namespace Go.Proofs.YtdemfamgieonbaaGreat
open Go Go.Sep
set_option maxRecDepth 100000
set_option maxHeartbeats 4000000
attribute [local irreducible] G Gp Cx Tx Ex Sx Dx Ox Ax Lx Rx Fx Bx Bj Al Do Ld LdN St StN New CallF Ar DoU Rd Rd2 Pu Cd Ite Fv CallV CallY Ans0 Ans1 Ans2 Ans3 Ans4 Ans5 Ext Dead Dr WithS Sv LdS LdNS RdS Rd2S Nn Idx IdxA IdxS Fld Bld Slc SlcS Cat All LoopK RangeF RangeJ TakeD
namespace F_IRLibMaps
instance ct_319:CT Tryz.prog 319:=⟨by kernel_rfl⟩
instance mx:MX Tryz.prog:=⟨mixed⟩
end F_IRLibMaps
def zAv (m0:(Option Nat)) (Q:Value→K):K :=
 New 319 #[(.map m0)] fun m1 =>
 Q (.func (.func 228) #[] #[(.pointer (some m1))])
theorem zDi (m0:(Option Nat)) (Q:Value→K) (w:World) (h:zAv m0 Q w):zAv.call m0 Q w:=by
 exact g_walk 4 h Tryz.func196
def zAa.b1 (Q:K)  (X1:K) (yield0_1:Value) (t5_1:(Option Addr)) :K :=
 Do Tryz.prog (Instr.next (.pointer t5_1) false 0) id fun t6 =>
 Ext t6 0 Value.bool fun t7 =>
 Ite t7
  (Do Tryz.prog (Instr.entry (.pointer t5_1)) id fun t8 =>
  Ext t8 0 Value.string fun t9 =>
  CallY Tryz.prog yield0_1 [(.string t9)] <| Ans1 (fun (t12:Bool)=>Value.bool t12) fun t12 =>
  Ite (!t12)
   (Q)
   (X1))
  (Q)
def zAa (yield0:Value) (t1:Addr) (Q:K):K :=
 Ld t1 Value.map fun t4 =>
 Do Tryz.prog (Instr.range 319 (.map t4)) Value.pointer fun t5 =>
 LoopK (α:=Unit) (fun X x=>zAa.b1 Q (X ()) yield0 t5) ()
theorem zDe (yield0:Value) (t1:Addr) (Q:K) (w:World) (h:zAa yield0 t1 Q w):zAa.call yield0 t1 Q w:=by
 have hL1:∀ (yield0_1:Value) (t5_1:(Option Addr)),LH 1 (fun x:Unit=>[(0,yield0_1),(5,(.pointer t5_1))]) (fun X x=>zAa.b1 Q (X ()) yield0_1 t5_1):=by intros; exact ⟨⟩
 exact g_walk 14 h Tryz.func228
end Go.Proofs.YtdemfamgieonbaaGreat
namespace Go.Proofs.YtdemfamgieonbaaGreat
open Go Go.Sep
set_option maxRecDepth 100000
theorem mapFL:mapIs Tryz.prog zEJ .string zCu:=⟨zBy,by kernel_rfl,by kernel_rfl⟩
section
variable {B w:World} {Γ:List HProp} {β:Type} {cV:β→Value}
end
end Go.Proofs.YtdemfamgieonbaaGreat
namespace Go.Proofs.YtdemfamgieonbaaGreat
open Go Go.Sep Go.Sep.Bt
set_option maxRecDepth 100000
structure MarkM where
 key:List UInt8
 home:Int
 cnt:Int
deriving DecidableEq
abbrev markF (m:MarkM):List Value:=[strV m.key,.int .i64 m.home,.int .u64 m.cnt]
abbrev Claim:=TagM×MarkM
abbrev clF (c:Claim):List Value:=[.int .i64 c.1.node,.int .u64 c.1.epoch,.int .u64 c.1.seq,.int .i64 c.1.tr,strV c.2.key,.int .i64 c.2.home,.int .u64 c.2.cnt]
theorem zFJ (c:Claim):(clF c).length = 7:=rfl
theorem zMd (c:MarkM):(markF c).length = 3:=rfl
theorem clF_fl (L:List Claim):∀ v ∈ L.flatMap clF,flatV v = true:=fun v hv=>by
 obtain ⟨x,_,hx⟩:=List.mem_flatMap.1 hv
 simp only [clF,List.mem_cons,List.not_mem_nil,or_false] at hx
 rcases hx with rfl | rfl | rfl | rfl | rfl | rfl | rfl <;> rfl
theorem mapFD:Tryz.prog.underlying zEZ = some (.map zBz ty_int):=by kernel_rfl
theorem zEI:KeyS Tryz.prog zBz tagF:=⟨by kernel_rfl,⟨tagK,by kernel_rfl,fun _=>rfl⟩,fun a b h=>zIG.1 h,fun a=>by simp [Instr.sameBits]⟩
abbrev GM:=List (List UInt8×(List Claim×List Claim))
abbrev DM:=TagM→Bool
abbrev KeysU {ν:Type} (W:List (List UInt8×ν)):Prop:=(W.map Prod.fst).Nodup
def gateM (k:List UInt8) (M:GM):GM:=if (mget k M).isNone then M++[(k,([],[]))] else M
def atM (k:List UInt8) (M:GM):List Claim×List Claim:=(mget k M).getD ([],[])
def hasT (tag:TagM) (L:List Claim):Bool:=L.any fun c=>decide (c.1 = tag)
def dset (dm:DM) (tag:TagM) (b:Bool):DM:=fun t=>if t = tag then b else dm t
def markLook (n:Nat) (S:Recs) (m:MarkM):Int:=lookS (sGet n S (bs m.key)).cnt m.cnt (sGet n S (bs m.key)).home m.home
def enter1 (n:Nat) (S:Recs) (tag:TagM) (x:GM×DM) (m:MarkM):GM×DM :=
 if hasT tag (atM m.key x.1).1 || hasT tag (atM m.key x.1).2 then (gateM m.key x.1,x.2)
 else if markLook n S m = 0 then (mset m.key ((atM m.key x.1).1++[(tag,m)],(atM m.key x.1).2) (gateM m.key x.1),x.2)
 else if markLook n S m = 1 then (mset m.key ((atM m.key x.1).1,(atM m.key x.1).2++[(tag,m)]) (gateM m.key x.1),x.2)
 else (gateM m.key x.1,dset x.2 tag true)
def enterM (n:Nat) (S:Recs) (tag:TagM) (ms:List MarkM) (x:GM×DM):GM×DM:=ms.foldl (enter1 n S tag) x
def noT (tag:TagM) (L:List Claim):List Claim:=L.filter fun c=>!decide (c.1 = tag)
def leaveM (tag:TagM) (x:GM×DM):GM×DM:=(x.1.map fun p=>(p.1,(noT tag p.2.1,noT tag p.2.2)),dset x.2 tag false)
def gsz (M:GM) (N:Nat):Prop:=M.length ≤ N∧∀ p ∈ M,p.2.1.length ≤ N∧p.2.2.length ≤ N
theorem gsz_le {M:GM} {a b:Nat} (h:gsz M a) (hab:a ≤ b):gsz M b:=⟨by have:=h.1; omega,fun p hp=>by have:=h.2 p hp; omega⟩
theorem gsz_at {M:GM} {k:List UInt8} {N:Nat} (h:gsz M N):(atM k M).1.length ≤ N∧(atM k M).2.length ≤ N:=by
 unfold atM
 cases hm:mget k M with
 | none=>simp
 | some v=>exact h.2 _ (zF6 hm)
theorem zSO {M:GM} {k:List UInt8} {N:Nat} (h:gsz M N):gsz (gateM k M) (N + 1):=by
 unfold gateM
 split
 ·refine ⟨by simp; exact h.1,fun p hp=>?_⟩
  rcases List.mem_append.1 hp with hp | hp
  ·have:=h.2 p hp; omega
  ·rw [List.mem_singleton.1 hp]; simp
 ·exact gsz_le h (by omega)
theorem zG2 {M:GM} {k:List UInt8} {v:List Claim×List Claim} (h:(mget k M).isSome = true):(mset k v M).length = M.length:=by
 rcases mfind k M with ⟨h1,_⟩ | ⟨j,x,hj,_,_,_,h2,_⟩
 ·rw [h1] at h; cases h
 ·rw [h2]; simp
theorem zFK {M:GM} {k:List UInt8}:(mget k (gateM k M)).isSome = true:=by
 unfold gateM
 split
 ·rename_i h
  have h':mget k M = none:=by simpa using h
  have:=zGp (v:=([],[])) h'
  rw [← this,zF4]; simp
 ·rename_i h; simpa [Option.isNone_iff_eq_none,Option.isSome_iff_ne_none] using h
theorem zOB {ν:Type} {M:List (List UInt8×ν)} {k:List UInt8} {v:ν} {p:List UInt8×ν} (h:p ∈ mset k v M):p = (k,v)∨p ∈ M:=by
 rcases mfind k M with ⟨_,h2,_⟩ | ⟨j,x,hj,_,_,_,h2,_⟩
 ·rw [h2] at h
  rcases List.mem_append.1 h with h | h
  ·exact .inr h
  ·exact .inl (List.mem_singleton.1 h)
 ·rw [h2] at h
  rcases List.mem_or_eq_of_mem_set h with h | h
  ·exact .inr h
  ·exact .inl h
theorem zOC {M:GM} {k:List UInt8} {v:List Claim×List Claim} {N:Nat} (h:gsz M N) (hs:(mget k M).isSome = true) (h1:v.1.length ≤ N) (h2:v.2.length ≤ N):gsz (mset k v M) N :=
 ⟨by rw [zG2 hs]; exact h.1,fun p hp=>by
  rcases zOB hp with rfl | hp
  ·exact ⟨h1,h2⟩
  ·exact h.2 p hp⟩
theorem zQz {n:Nat} {S:Recs} {tag:TagM} {x:GM×DM} {m:MarkM} {N:Nat} (h:gsz x.1 N):gsz (enter1 n S tag x m).1 (N + 1):=by
 have h1:=zSO (k:=m.key) h
 have h2:=gsz_at (k:=m.key) h
 unfold enter1
 split
 ·exact h1
 ·split
  ·exact zOC h1 zFK (by simp; omega) (by simp only; omega)
  ·split
   ·exact zOC h1 zFK (by simp only; omega) (by simp; omega)
   ·exact h1
theorem zQ0 {ν:Type} {M:List (List UInt8×ν)} {k:List UInt8} {v:ν} (h:KeysU M) (hk:mget k M = none):KeysU (M++[(k,v)]):=by
 have e:=zGp (v:=v) hk
 have h2:=zF5 M k v
 unfold KeysU
 rw [← e,h2]
 split
 ·exact h
 ·rename_i hk
  refine List.nodup_append.2 ⟨h,by simp,fun a ha b hb=>?_⟩
  rw [List.mem_singleton.1 hb]
  exact fun e=>hk (e ▸ ha)
theorem zP7 {ν:Type} {M:List (List UInt8×ν)} {k:List UInt8} {v:ν} (h:mget k M = some v):∃ A C,M = A++(k,v)::C:=by
 induction M with
 | nil=>cases h
 | cons p M ih =>
  unfold mget at h
  split at h
  ·rename_i e; injection h with h; exact ⟨[],M,by rw [e,← h]; rfl⟩
  ·obtain ⟨A,C,rfl⟩:=ih h; exact ⟨p::A,C,rfl⟩
theorem zKZ {ν:Type} {A C:List (List UInt8×ν)} {k:List UInt8} {v:ν} (h:KeysU (A++(k,v)::C)):(∀ p ∈ A,p.1 ≠ k)∧∀ p ∈ C,p.1 ≠ k:=by
 unfold KeysU at h
 rw [List.map_append,List.map_cons] at h
 obtain ⟨_,h2,h3⟩:=List.nodup_append.1 h
 refine ⟨fun p hp=>h3 _ (List.mem_map.2 ⟨p,hp,rfl⟩) _ List.mem_cons_self,fun p hp e=>(List.nodup_cons.1 h2).1 (e ▸ List.mem_map.2 ⟨p,hp,rfl⟩)⟩
theorem zSP {ν:Type} {A C:List (List UInt8×ν)} {k:List UInt8} {v:ν} (h:∀ p ∈ A,p.1 ≠ k):mget k (A++(k,v)::C) = some v:=by
 induction A with
 | nil=>simp [mget]
 | cons p A ih =>
  rw [List.cons_append,mget,if_neg (fun e=>h p List.mem_cons_self e.symm)]
  exact ih fun q hq=>h q (List.mem_cons_of_mem _ hq)
theorem zSQ {ν:Type} {A C:List (List UInt8×ν)} {k:List UInt8} {v v':ν} (h:∀ p ∈ A,p.1 ≠ k):mset k v' (A++(k,v)::C) = A++(k,v')::C:=by
 induction A with
 | nil=>simp [mset]
 | cons p A ih =>
  rw [List.cons_append,mset,if_neg (fun e=>h p List.mem_cons_self e.symm),ih fun q hq=>h q (List.mem_cons_of_mem _ hq)]
  rfl
structure GateX where
 b:Nat
 ls:Sl
 ps:Sl
 line:List Claim
 park:List Claim
abbrev gV (g:GateX):Value:=.pointer (some ⟨g.b,0,none⟩)
abbrev gL (g:GateX) (Γ:List HProp):List HProp:=blk g.b (.cells [g.ls.val,g.ps.val].toArray zDM (0,0))::SlC zBQ 7 g.ls (g.line.flatMap clF)::SlC zBQ 7 g.ps (g.park.flatMap clF)::Γ
abbrev gB (x:List UInt8×GateX):HProp:=Sep.stars (gL x.2 [])
abbrev GX:=List (List UInt8×GateX)
abbrev modG (X:GX):GM:=X.map fun p=>(p.1,(p.2.line,p.2.park))
abbrev lockF (l gm db:Nat) (X Y:GX) (D:List (TagM×Int)) (Γ:List HProp):List HProp :=
 blk l (.cells [.map (some gm),.map (some db)].toArray zCn (0,0))::MapR strV gV gm X::Sep.stars (Y.map gB)::MapR (kyS tagF) (Value.int .i64) db D::Γ
structure LF (M:GM) (dm:DM) (X:GX) (D:List (TagM×Int)):Prop where
 mod:modG X = M
 once:KeysU X
 doom:∀ t,dm t = decide (0 < (mget t D).getD 0)
 nd:(D.map Prod.fst).Nodup
def LocksR (l:Nat) (M:GM) (dm:DM):HProp:=ex fun gm=>ex fun db=>ex fun X:GX=>ex fun D=>Sep.stars (pur (LF M dm X D)::lockF l gm db X X D [])
section
variable {B:World} {Γ Δ:List HProp} {k:K} {l gm db st n:Nat} {M:GM} {dm:DM} {X:GX} {D:List (TagM×Int)} {S:Recs} {tag:TagM}
instance (priority:=high) zUQ:Sep.Own l (LocksR l M dm::Γ) (LocksR l M dm) Γ:=⟨.refl _⟩
theorem zJs (h:∀ gm db X D,LF M dm X D→HG B (lockF l gm db X X D Γ) k):HG B (LocksR l M dm::Γ) k :=
 s_ex fun gm=>s_ex fun db=>s_ex fun X=>s_ex fun D=>s_flat <| s_pur fun h1=>h gm db X D h1
theorem zFL (h1:LF M dm X D) (h:HG B (LocksR l M dm::Γ) k):HG B (lockF l gm db X X D Γ) k:=fun w hw=>by
 refine h w ?_
 have h3:Holds B (Sep.stars (pur (LF M dm X D)::lockF l gm db X X D [])::Γ) w:=Holds.flat.2 (Holds.pur.2 ⟨h1,hw⟩)
 exact h3.imp fun g hg=>⟨gm,db,X,D,hg⟩
theorem zMe {α β:Type} [DecidableEq α] {enc:α→Value} {cV:β→Value} {b:Nat} {m m':List (α×β)} (h:(m.map fun p=>(enc p.1,cV p.2)) = m'.map fun p=>(enc p.1,cV p.2)):∀ g,MapR enc cV b m g→MapR enc cV b m' g:=fun g hg=>by
 obtain ⟨es,c,⟨h1,h2⟩,h3⟩:=hg
 exact ⟨es,c,⟨by unfold mrel at h1 ⊢; rw [h1,h],h2⟩,h3⟩
theorem s_gate {A C:GX} {key:List UInt8} {g:GateX} (hX:X = A++(key,g)::C) (h:HG B (gL g (lockF l gm db X (A++C) D Γ)) k):HG B (lockF l gm db X X D Γ) k:=by
 refine s_pick (Sep.stars (X.map gB)) ?_
 rw [show Sep.stars (X.map gB) = Sep.stars ((A++(key,g)::C).map gB) by rw [hX]]
 refine s_mid ?_
 refine s_flat ?_
 show HG B (gL g (_::_::_::_::Γ)) k
 exact s_end h
theorem zOD {A C:GX} {key:List UInt8} {g g':GateX} {dm':DM} {D':List (TagM×Int)} (hX:X = A++(key,g)::C) (hb:g'.b = g.b) (hf:LF M dm X D) (hd:(∀ t,dm' t = decide (0 < (mget t D').getD 0))∧(D'.map Prod.fst).Nodup)
  (h:HG B (LocksR l (mset key (g'.line,g'.park) M) dm'::Γ) k):HG B (gL g' (lockF l gm db X (A++C) D' Γ)) k:=by
 have ho:=hf.once
 rw [hX] at ho
 have hA:=(zKZ ho).1
 refine zFj (Δ:=gL g' []) ?_
 refine s_pick (Sep.stars ((A++C).map gB)) ?_
 refine s_pick (Sep.stars (gL g' [])) ?_
 refine zCS (F:=gB) (x:=(key,g')) ?_
 refine s_pick (MapR strV gV gm X) ?_
 refine s_conv (zMe (m':=A++(key,g')::C) ?_) ?_
 ·rw [hX]; simp [gV,hb]
 refine s_pick (MapR (kyS tagF) (Value.int .i64) db D') ?_
 refine s_pick (Sep.stars ((A++(key,g')::C).map gB)) ?_
 refine s_pick (MapR strV gV gm (A++(key,g')::C)) ?_
 refine s_own l ?_
 refine zFL ⟨?_,?_,hd.1,hd.2⟩ h
 ·rw [← hf.mod,hX]
  simp only [modG,List.map_append,List.map_cons]
  rw [zSQ]
  intro p hp
  obtain ⟨q,hq,rfl⟩:=List.mem_map.1 hp
  exact hA q hq
 ·unfold KeysU at ho ⊢
  simpa using ho
theorem lf_at {A C:GX} {key:List UInt8} {g:GateX} (hX:X = A++(key,g)::C) (hf:LF M dm X D):atM key M = (g.line,g.park):=by
 have ho:=hf.once
 rw [hX] at ho
 unfold atM
 rw [← hf.mod,hX]
 simp only [modG,List.map_append,List.map_cons]
 rw [zSP]; rfl
 intro p hp
 obtain ⟨q,hq,rfl⟩:=List.mem_map.1 hp
 exact (zKZ ho).1 q hq
abbrev g0 (gb:Nat):GateX:=⟨gb,⟨none,0,0⟩,⟨none,0,0⟩,[],[]⟩
theorem zQ1:zeroT Tryz.prog zCu (.pointer none):=zH5
theorem zPY {key:List UInt8} {Q:Option Addr→K} (h:∀ gm db X D A g C,LF (gateM key M) dm X D→X = A++(key,g)::C→HG B (gL g (lockF l gm db X (A++C) D Γ)) (Q (some ⟨g.b,0,none⟩))) :
  HG B (LocksR l M dm::Γ) (zBc.call (some ⟨l,0,none⟩) (bs key) Q):=by
 refine fun w hw=>zIf _ _ _ _ ?_
 refine hg hw ?_
 clear hw w
 refine zJs fun gm db X D hf=>?_
 unfold zBc
 repeat refine s_nx ?_
 have hl:∀ {Γ:List HProp} {q:Option Addr→K} {X:GX} {Δ:List HProp} [p:Sep.Own gm Γ (MapR strV gV gm X) Δ],HG B Γ (q ((mget key X).map fun g=>⟨g.b,0,none⟩))→HG B Γ (Rd Tryz.prog (Instr.lookup zEJ (.map (some gm)) (strV key) false) Value.pointer q):=fun {Γ q X Δ p} h w hw=>by
  obtain ⟨es,c,⟨hr,hst⟩,h1⟩:=MapR.opens (hw.perm p.perm)
  have:=zQf (a:=key) mapFL zFp zQ1 h1.block hr false
  refine ⟨(mget key X).map fun g=>⟨g.b,0,none⟩,?_,h w hw⟩
  rw [this]
  cases mget key X <;> rfl
 have fin:∀ {Γ:List HProp} (M2:GM) (X:GX) (g:GateX),mget key X = some g→LF M2 dm X D→(∀ A C,X = A++(key,g)::C→HG B (gL g (lockF l gm db X (A++C) D Γ)) (Q (some ⟨g.b,0,none⟩)))→HG B (lockF l gm db X X D Γ) (zBc.s1 Q (some ⟨l,0,none⟩) (bs key)):=fun M2 X g hg hf hk=>by
  unfold zBc.s1
  repeat refine s_nx ?_
  refine hl (X:=X) ?_
  rw [hg]
  obtain ⟨A,C,hX⟩:=zP7 hg
  exact s_gate hX (hk A C hX)
 refine hl (X:=X) ?_
 have hmm:mget key M = (mget key X).map fun g=>(g.line,g.park):=by rw [← hf.mod]; exact zFk (fun g:GateX=>(g.line,g.park)) key X
 cases hm:mget key X with
 | none =>
  rw [hm] at hmm
  have hgm:gateM key M = M++[(key,([],[]))]:=by unfold gateM; rw [hmm]; rfl
  rw [hgm] at h
  refine s_t ?_
  repeat refine s_nx ?_
  refine s_new fun gb=>?_
  refine s_upd (cG:=Value.bool) (b:=gm) (enc:=strV) (cV:=gV) (v:=g0 gb) rfl mapFL zFp ?_
  have hms:=zGp (v:=g0 gb) hm
  rw [hms]
  refine fun w hw=>?_
  refine hg (show Holds B (SlC zBQ 7 ⟨none,0,0⟩ []::_) w from hw.nilSl _ _) ?_
  clear hw w
  refine fun w hw=>?_
  refine hg (show Holds B (SlC zBQ 7 ⟨none,0,0⟩ []::_) w from hw.nilSl _ _) ?_
  clear hw w
  refine s_own gb ?_
  show HG B (gL (g0 gb) (MapR strV gV gm (X++[(key,g0 gb)])::blk l (.cells [.map (some gm),.map (some db)].toArray zCn (0,0))::Sep.stars (X.map gB)::MapR (kyS tagF) (Value.int .i64) db D::Γ)) _
  refine zFj (Δ:=gL (g0 gb) []) ?_
  refine s_pick (Sep.stars (X.map gB)) ?_
  refine s_pick (Sep.stars (gL (g0 gb) [])) ?_
  rw [show Sep.stars (X.map gB) = Sep.stars ((X++[]).map gB) by rw [List.append_nil]]
  refine zCS (F:=gB) (x:=(key,g0 gb)) ?_
  refine s_own db ?_
  refine s_pick (Sep.stars ((X++[(key,g0 gb)]).map gB)) ?_
  refine s_own gm ?_
  refine s_own l ?_
  have hf':LF (M++[(key,([],[]))]) dm (X++[(key,g0 gb)]) D:=⟨by simp [modG,← hf.mod],zQ0 hf.once hm,hf.doom,hf.nd⟩
  refine fin _ _ (g0 gb) ?_ hf' fun A C hX=>h gm db _ D A _ C hf' hX
  rw [← hms,zF4]; simp
 | some g =>
  rw [hm] at hmm
  have hgm:gateM key M = M:=by unfold gateM; rw [hmm]; rfl
  rw [hgm] at h
  refine s_f ?_
  exact fin M X g hm hf fun A C hX=>h gm db X D A g C hf hX
abbrev ofV (b:Nat):Value:=.func (.func 160) #[] #[.pointer (some ⟨b,0,none⟩)]
theorem zFM {Q:Value→K} (h:∀ b,HG B (blk b (.cells (tagF tag).toArray zBz (0,0))::Γ) (Q (ofV b))):HG B Γ (zDn.call (tagF tag).toArray Q):=by
 refine fun w hw=>zOh _ _ _ ?_
 refine hg hw ?_
 clear hw w
 unfold zDn
 exact s_new fun b=>h b
theorem of_hg {b:Nat} {c:Claim} {q:Bool→K} (h:HG B Γ (q (decide (c.1 = tag)))) [p:Sep.Own b Γ (blk b (.cells (tagF tag).toArray zBz (0,0))) Δ] :
  HG B Γ (CallV Tryz.prog (ofV b) [.agg (clF c).toArray] (Ans1 (fun (t:Bool)=>Value.bool t) q)):=by
 refine zEY (cs:=[.pointer (some ⟨b,0,none⟩)]) ?_
 refine fun w hw=>zM7 _ _ _ _ ?_
 refine hg hw ?_
 clear hw w
 unfold zGI
 refine s_new fun c2=>?_
 repeat refine s_nx ?_
 refine s_eqS (xs:=tagF c.1) (ys:=tagF tag) (ks:=tagK) zIG ?_
 exact s_end h
theorem indexC {s:Sl} {L:List Claim} {b:Nat} {Δ2:List HProp} {Q:Int→K} (hL:L.length < 1000000000) (h:HG B Γ (Q (idxI (L.findIdx? fun c=>decide (c.1 = tag))))) [o:OwnS s Γ (SlC zBQ 7 s (L.flatMap clF)) Δ2] [p:Sep.Own b Γ (blk b (.cells (tagF tag).toArray zBz (0,0))) Δ] :
  HG B Γ (zAM.call s (ofV b) Q):=by
 refine s_cap s fun a1 a2 a3 a4=>?_
 rw [zAL _ 7 zFJ] at a1
 refine fun w hw=>zB4 _ _ _ _ ?_
 refine hg hw ?_
 clear hw w
 show HG B Γ (idxFK Tryz.prog (accN 7) s (ofV b) Q)
 exact zGQ (vV:=fun c=>.agg (clF c).toArray) (L:=L) (fun c=>decide (c.1 = tag)) (by omega) hL (fun i x k hx hk=>zPJ (s:=s) zFJ (by omega) hx hk) (fun x q _ hq=>of_hg hq) h
theorem containsC {s:Sl} {L:List Claim} {b:Nat} {Δ2:List HProp} {Q:Bool→K} (hL:L.length < 1000000000) (h:HG B Γ (Q (hasT tag L))) [o:OwnS s Γ (SlC zBQ 7 s (L.flatMap clF)) Δ2] [p:Sep.Own b Γ (blk b (.cells (tagF tag).toArray zBz (0,0))) Δ] :
  HG B Γ (zAl.call s (ofV b) Q):=by
 refine fun w hw=>zDp _ _ _ _ ?_
 refine hg hw ?_
 clear hw w
 unfold zAl
 refine indexC (tag:=tag) (L:=L) hL ?_
 rw [zHA,zLk]
 exact h
theorem deleteC {s:Sl} {L:List Claim} {b:Nat} {Q:Sl→K} (hL:L.length < 1000000000) (h:∀ s',HG B (SlC zBQ 7 s' ((noT tag L).flatMap clF)::Γ) (Q s')) [p:Sep.Own b Γ (blk b (.cells (tagF tag).toArray zBz (0,0))) Δ] :
  HG B (SlC zBQ 7 s (L.flatMap clF)::Γ) (zAC.call s (ofV b) Q):=by
 refine fun w hw=>zCt _ _ _ _ ?_
 refine hg hw ?_
 clear hw w
 show HG B _ (delFN Tryz.prog zAM.call zBQ zGa 0 7 [(.int .i64 0),(.int .u64 0),(.int .u64 0),(.int .i64 0),(.string ⟨#[]⟩),(.int .i64 0),(.int .u64 0)] s (ofV b) Q)
 refine zPK (R:=fun _=>Γ) (L:=L) (f:=clF) (fun (_:Unit) c=>decide (c.1 = tag)) (fun _ _=>()) () (fun _ _=>True) trivial (fun _ _ _ _=>trivial) (fun s fv Q w h=>zB4 _ _ _ _ h) zFJ (by omega) (fun _=>rfl) rfl hL (fun Ξ g x C q _ _ hq=>of_hg hq) fun s' _=>?_
 rw [zIz]
 exact h s'
theorem zKH {Q:Option Addr→K} (h:∀ l,HG B (LocksR l [] (fun _=>false)::Γ) (Q (some ⟨l,0,none⟩))):HG B Γ (zD1.call Q):=by
 refine fun w hw=>zJA _ _ ?_
 refine hg hw ?_
 clear hw w
 unfold zD1
 refine zFl (enc:=strV) (cV:=gV) fun gm=>?_
 refine zFl (enc:=kyS tagF) (cV:=Value.int .i64) fun db=>?_
 refine s_new fun l=>?_
 refine fun w hw=>?_
 refine hg (show Holds B (Sep.stars (([]:GX).map gB)::_) w from Holds.flat.2 hw) ?_
 clear hw w
 refine s_own db ?_
 refine s_pick (Sep.stars (([]:GX).map gB)) ?_
 refine s_own gm ?_
 refine s_own l ?_
 exact zFL ⟨rfl,by simp [KeysU],fun t=>by simp [mget],by simp⟩ (h l)
theorem zKa (hf:∀ t,dm t = decide (0 < (mget t D).getD 0)):∀ t,dset dm tag true t = decide (0 < (mget t (mset tag 1 D)).getD 0):=fun t=>by
 rw [zF4]
 unfold dset
 split
 ·simp
 ·exact hf t
theorem nd_set {v:Int} (h:(D.map Prod.fst).Nodup):((mset tag v D).map Prod.fst).Nodup:=by
 rw [zF5]
 split
 ·exact h
 ·rename_i hk
  refine List.nodup_append.2 ⟨h,by simp,fun a ha b hb=>?_⟩
  rw [List.mem_singleton.1 hb]
  exact fun e=>hk (e ▸ ha)
theorem zQ2 {ν:Type} {M:List (List UInt8×ν)} {key:List UInt8} {v:ν} (h:mget key M = some v):mset key v M = M:=by
 induction M with
 | nil=>cases h
 | cons p M ih =>
  unfold mget at h
  unfold mset
  split
  ·rename_i e
   rw [if_pos e] at h
   injection h with h
   rw [e,← h]
  ·rename_i e
   rw [if_neg e] at h
   rw [ih h]
theorem zL6 {key:List UInt8}:atM key (gateM key M) = atM key M:=by
 unfold gateM
 split
 ·rename_i h
  have h':mget key M = none:=by simpa using h
  unfold atM
  rw [h',← zGp (v:=([],[])) h',zF4]; simp
 ·rfl
theorem zPZ {key:List UInt8}:mset key (atM key M) (gateM key M) = gateM key M:=by
 refine zQ2 ?_
 have h:=zFK (M:=M) (k:=key)
 rw [← zL6]
 unfold atM
 cases hm:mget key (gateM key M) with
 | none=>rw [hm] at h; cases h
 | some v=>rfl
theorem zSR {ms:Sl} {L:List MarkM} {N:Nat} {Q:K} (hr:∀ w,Holds B Γ w→RdC w ms 3 (L.flatMap markF)) (hk:∀ m ∈ L,m.key.length < 1000000000) (hN:gsz M N) (hNl:N + L.length ≤ 1000000)
  (h:HG B (LocksR l (enterM n S tag L (M,dm)).1 (enterM n S tag L (M,dm)).2::StoreR st n S::Γ) Q) :
  HG B (LocksR l M dm::StoreR st n S::Γ) (zAh.call (some ⟨l,0,none⟩) (some ⟨st,0,none⟩) (tagF tag).toArray ms Q):=fun w hw=>by
 refine zII _ _ _ _ _ _ ?_
 have hlen:ms.n = L.length:=rd_len zMd (by omega) (hr w hw.tail.tail)
 refine hg hw ?_
 clear hw w
 unfold zAh
 refine s_new fun t6=>?_
 refine s_loop (α:=Int) (ι:=(GM×DM)×Nat) (fun x i=>x = (i.2:Int)∧i.2 ≤ L.length∧gsz i.1.1 (N + i.2)∧enterM n S tag (L.drop i.2) i.1 = enterM n S tag L (M,dm))
  (fun x i=>blk t6 (.cells (tagF tag).toArray zBz (0,0))::LocksR l i.1.1 i.1.2::StoreR st n S::Γ) (fun x i=>L.length - i.2) ((M,dm),0) ⟨rfl,Nat.zero_le _,hN,rfl⟩ ?_
 rintro k' _ ⟨⟨M1,d1⟩,j⟩ ⟨rfl,hj,hz,he⟩ hk'
 simp only at hj hz he hk' ⊢
 unfold zAh.b1
 refine s_ite (fun hb=>?_) fun hb=>?_
 ·have hjl:j < L.length:=by simp only [decide_eq_true_eq] at hb; omega
  have hge:L[j]? = some L[j]:=List.getElem?_eq_getElem hjl
  have hmem:L[j] ∈ L:=List.getElem_mem hjl
  rw [List.drop_eq_getElem_cons hjl] at he
  generalize L[j] = m at hge hmem he
  have hkl:=hk m hmem
  have hz2:=zQz (n:=n) (S:=S) (tag:=tag) (x:=(M1,d1)) (m:=m) hz
  have he2:enterM n S tag (L.drop (j + 1)) (enter1 n S tag (M1,d1) m) = enterM n S tag L (M,dm):=he
  refine s_idxN markF zMd (fun w hw=>hr w hw.drops) hge ?_
  refine s_new fun m9=>?_
  repeat refine s_nx ?_
  refine s_own l ?_
  refine zPY fun gm db X D A g C hf hX=>?_
  have hat:=lf_at hX hf
  rw [zL6] at hat
  have hgz:=gsz_at (k:=m.key) hz
  rw [hat] at hgz
  simp only at hgz
  refine s_cap g.ls fun c1 c2 c3 c4=>?_
  refine s_cap g.ps fun e1 e2 e3 e4=>?_
  rw [zAL _ 7 zFJ] at c1 e1
  have fin:∀ {Δ:List HProp} {g':GateX} {d':DM} {D':List (TagM×Int)},enter1 n S tag (M1,d1) m = (mset m.key (g'.line,g'.park) (gateM m.key M1),d')→g'.b = g.b→((∀ t,d' t = decide (0 < (mget t D').getD 0))∧(D'.map Prod.fst).Nodup)→HG B (gL g' (lockF l gm db X (A++C) D' (blk t6 (.cells (tagF tag).toArray zBz (0,0))::StoreR st n S::Γ))) (zAh.s2 Q k' (some ⟨l,0,none⟩) (some ⟨st,0,none⟩) ⟨t6,0,none⟩ ms (ms.n:Int) (j:Int)):=fun {Δ g' d' D'} e1 e2 e3=>by
   refine zOD hX e2 hf e3 ?_
   unfold zAh.s2
   refine s_ai ?_
   have h:=hk' ((j:Int) + 1) (enter1 n S tag (M1,d1) m,j + 1) ⟨by simp,hjl,hz2,he2⟩ (by simp only; omega)
   rw [e1] at h
   exact s_end h
  have keep:(hasT tag g.line || hasT tag g.park) = true→enter1 n S tag (M1,d1) m = (mset m.key (g.line,g.park) (gateM m.key M1),d1):=fun hh=>by
   unfold enter1
   rw [hat,if_pos hh,show (g.line,g.park) = atM m.key M1 from hat.symm,zPZ]
  repeat refine s_nx ?_
  refine zFM fun b1=>?_
  repeat refine s_nx ?_
  refine containsC (tag:=tag) (L:=g.line) (by omega) ?_
  repeat refine s_nx ?_
  have rest:∀ (b:Nat) (hh:Bool),hh = (hasT tag g.line || hasT tag g.park)→HG B (gL g (lockF l gm db X (A++C) D (blk m9 (.cells (markF m).toArray zAs (0,0))::blk t6 (.cells (tagF tag).toArray zBz (0,0))::StoreR st n S::Γ))) (zAh.s3 Q k' (some ⟨l,0,none⟩) (some ⟨st,0,none⟩) ⟨t6,0,none⟩ ⟨m9,0,none⟩ (some ⟨g.b,0,none⟩) ms (ms.n:Int) (j:Int) hh):=fun b hh hhe=>by
   unfold zAh.s3
   refine s_ite (fun hb2=>?_) fun hb2=>?_
   ·exact s_end (fin (Δ:=Γ) (keep (by rw [← hhe]; exact hb2)) rfl ⟨hf.doom,hf.nd⟩)
   rw [hb2] at hhe
   have hno:¬ (hasT tag g.line || hasT tag g.park) = true:=by rw [← hhe]; simp
   repeat refine s_nx ?_
   refine s_own st ?_
   refine zDP (k:=bs m.key) (by show m.key.length < _; omega) fun s _=>?_
   repeat refine s_nx ?_
   refine lookHg ?_
   have hlk:lookS (sGet n S (bs m.key)).cnt m.cnt (sGet n S (bs m.key)).home m.home = markLook n S m:=rfl
   rw [hlk]
   refine s_ite (fun h0=>?_) fun h0=>?_
   ·have h0':markLook n S m = 0:=by simpa using h0
    repeat refine s_nx ?_
    refine s_new fun t=>?_
    repeat refine s_nx ?_
    refine zBJ (s:=g.ls) (esz:=7) (us:=clF (tag,m)) (blk_rd rfl) (by intro v hv; exact clF_fl [(tag,m)] v (by simpa using hv)) (by simp only; omega) fun ls' _=>?_
    rw [show g.line.flatMap clF++clF (tag,m) = (g.line++[(tag,m)]).flatMap clF by simp]
    repeat refine s_nx ?_
    refine s_end (fin (Δ:=Γ) (g':={ g with ls:=ls',line:=g.line++[(tag,m)] }) ?_ rfl ⟨hf.doom,hf.nd⟩)
    unfold enter1
    rw [hat,if_neg hno,if_pos h0']
   ·have h0':¬ markLook n S m = 0:=by simpa using h0
    refine s_ite (fun h1=>?_) fun h1=>?_
    ·have h1':markLook n S m = 1:=by simpa using h1
     repeat refine s_nx ?_
     refine s_new fun t=>?_
     repeat refine s_nx ?_
     refine zBJ (s:=g.ps) (esz:=7) (us:=clF (tag,m)) (blk_rd rfl) (by intro v hv; exact clF_fl [(tag,m)] v (by simpa using hv)) (by simp only; omega) fun ps' _=>?_
     rw [show g.park.flatMap clF++clF (tag,m) = (g.park++[(tag,m)]).flatMap clF by simp]
     repeat refine s_nx ?_
     refine s_end (fin (Δ:=Γ) (g':={ g with ps:=ps',park:=g.park++[(tag,m)] }) ?_ rfl ⟨hf.doom,hf.nd⟩)
     unfold enter1
     rw [hat,if_neg hno,if_neg h0',if_pos h1']
    ·have h1':¬ markLook n S m = 1:=by simpa using h1
     repeat refine s_nx ?_
     refine s_updS (b:=db) (cel:=tagF) (a:=tag) (v:=1) zEI rfl ?_ mapFD
     refine s_end (fin (Δ:=Γ) (g':=g) (d':=dset d1 tag true) ?_ rfl ⟨zKa hf.doom,nd_set hf.nd⟩)
     unfold enter1
     rw [hat,if_neg hno,if_neg h0',if_neg h1',show (g.line,g.park) = atM m.key M1 from hat.symm,zPZ]
  refine s_ite (fun hb2=>?_) fun hb2=>?_
  ·exact s_end (rest b1 true (by rw [hb2]; rfl))
  repeat refine s_nx ?_
  refine zFM fun b2=>?_
  repeat refine s_nx ?_
  refine containsC (tag:=tag) (L:=g.park) (by omega) ?_
  exact s_end (rest b2 _ (by rw [hb2]; rfl))
 ·have hjl:j = L.length:=by simp only [decide_eq_false_iff_not] at hb; omega
  rw [hjl,List.drop_length] at he
  have he':(M1,d1) = enterM n S tag L (M,dm):=he
  rw [← he'] at h
  exact s_end h
end
end Go.Proofs.YtdemfamgieonbaaGreat
namespace Go.Proofs.YtdemfamgieonbaaGreat
open Go Go.Sep Go.Sep.Bt
set_option maxRecDepth 100000
section
variable {B:World} {Γ Δ:List HProp} {k:K} {l gm db st n:Nat} {M:GM} {dm:DM} {X:GX} {D:List (TagM×Int)} {S:Recs} {tag:TagM}
theorem zMf {Q:Bool→K} (h:HG B (LocksR l M dm::Γ) (Q (dm tag))):HG B (LocksR l M dm::Γ) (zCf.call (some ⟨l,0,none⟩) (tagF tag).toArray Q):=by
 refine fun w hw=>zHY _ _ _ _ ?_
 refine hg hw ?_
 clear hw w
 refine zJs fun gm db X D hf=>?_
 unfold zCf
 refine s_new fun t3=>?_
 repeat refine s_nx ?_
 refine zKT (b:=db) (cel:=tagF) (a:=tag) (z:=0) zEI zE0 ?_ mapFD
 rw [← hf.doom]
 refine s_own db ?_
 refine s_pick (Sep.stars (X.map gB)) ?_
 refine s_own gm ?_
 refine s_own l ?_
 exact zFL hf (s_end h)
theorem zSS {m:List (TagM×Int)} {a b:TagM} (h:(m.map Prod.fst).Nodup):mget b (mdel a m) = if b = a then none else mget b m:=by
 induction m with
 | nil=>simp [mdel,mget]
 | cons p m ih =>
  have h1:=List.nodup_cons.1 (show (p.1::m.map Prod.fst).Nodup from h)
  unfold mdel
  split
  ·rename_i e
   split
   ·rename_i e2
    have hn:∀ m:List (TagM×Int),p.1 ∉ m.map Prod.fst→mget p.1 m = none:=fun m=>by
     induction m with
     | nil=>intro _; rfl
     | cons q m ih=>intro hq; simp only [List.map_cons,List.mem_cons,not_or] at hq; unfold mget; rw [if_neg hq.1]; exact ih hq.2
    rw [e2,e]; exact hn m h1.1
   ·rename_i e2
    simp only [mget]
    rw [if_neg (fun e3=>e2 (by rw [e3,e]))]
  ·rename_i e
   by_cases h2:b = p.1
   ·have h3:¬ b = a:=fun h4=>e (by rw [← h4,h2])
    simp only [mget,h2,if_true]
    rw [if_neg (by rw [← h2]; exact h3)]
   ·simp only [mget,h2,if_false]
    exact ih h1.2
theorem nd_del {m:List (TagM×Int)} (h:(m.map Prod.fst).Nodup):((mdel tag m).map Prod.fst).Nodup:=by
 rcases mfind tag m with ⟨_,_,h3,_⟩ | ⟨j,x,_,_,_,_,_,h3⟩
 ·rw [h3]; exact h
 ·rw [h3]
  exact List.Pairwise.sublist ((List.eraseIdx_sublist m j).map Prod.fst) h
theorem zP8 {X Y:GX} {A C:GX} {p:List UInt8×GateX} (hY:(Y.map fun q=>(q.1,q.2.b)) = X.map fun q=>(q.1,q.2.b)) (hX:X = A++p::C):∃ A' g C',Y = A'++(p.1,g)::C'∧g.b = p.2.b∧A'.length = A.length∧(A'.map Prod.fst) = A.map Prod.fst∧C'.map Prod.fst = C.map Prod.fst:=by
 rw [hX,List.map_append,List.map_cons] at hY
 obtain ⟨A',Y2,rfl,h1,h2⟩:=List.map_eq_append_iff.1 hY
 obtain ⟨⟨k,g⟩,C',rfl,h3,h4⟩:=List.map_eq_cons_iff.1 h2
 simp only [Prod.mk.injEq] at h3
 obtain ⟨rfl,h5⟩:=h3
 refine ⟨A',g,C',rfl,h5,by simpa using congrArg List.length h1,?_,?_⟩
 ·have:=congrArg (List.map Prod.fst) h1; simpa [Function.comp_def] using this
 ·have:=congrArg (List.map Prod.fst) h4; simpa [Function.comp_def] using this
theorem zPa {Y A' C':GX} {key:List UInt8} {g:GateX} (hY:Y = A'++(key,g)::C') (h:HG B (gL g (Sep.stars ((A'++C').map gB)::Γ)) k):HG B (Sep.stars (Y.map gB)::Γ) k:=by
 rw [hY]
 refine s_mid ?_
 refine s_flat ?_
 exact h
theorem zMg {A' C':GX} {key:List UInt8} {g:GateX} (h:HG B (Sep.stars ((A'++(key,g)::C').map gB)::Γ) k):HG B (gL g (Sep.stars ((A'++C').map gB)::Γ)) k:=by
 refine zFj (Δ:=gL g []) ?_
 exact zCS (F:=gB) (x:=(key,g)) h
theorem zMh {N:Nat} {Q:K} (hN:gsz M N) (hNl:N ≤ 1000000) (h:HG B (LocksR l (leaveM tag (M,dm)).1 (leaveM tag (M,dm)).2::Γ) Q) :
  HG B (LocksR l M dm::Γ) (zAz (some ⟨l,0,none⟩) (tagF tag).toArray Q):=by
 refine zJs fun gm db X D hf=>?_
 have hsz:∀ p ∈ X,p.2.line.length ≤ N∧p.2.park.length ≤ N:=fun p hp=>hN.2 (p.1,(p.2.line,p.2.park)) (by rw [← hf.mod]; exact List.mem_map.2 ⟨p,hp,rfl⟩)
 unfold zAz
 refine s_new fun t3=>?_
 repeat refine s_nx ?_
 refine zPH mapFL fun r=>?_
 let cl:List (List UInt8)→List UInt8×(List Claim×List Claim)→List UInt8×(List Claim×List Claim):=fun ks p=>if p.1 ∈ ks then p else (p.1,(noT tag p.2.1,noT tag p.2.2))
 refine s_loop (α:=Unit) (ι:=GX×GX×Option (List UInt8×GateX)) (fun _ i=>(i.1.map fun q=>(q.1,q.2.b)) = (X.map fun q=>(q.1,q.2.b))∧modG i.1 = (modG X).map (cl (i.2.1.map Prod.fst))∧(i.2.1.map Prod.fst).Nodup)
  (fun _ i=>MapIt strV gV gm r X i.2.1 i.2.2::Sep.stars (i.1.map gB)::blk t3 (.cells (tagF tag).toArray zBz (0,0))::blk l (.cells [.map (some gm),.map (some db)].toArray zCn (0,0))::MapR (kyS tagF) (Value.int .i64) db D::Γ)
  (fun _ i=>i.2.1.length) (X,X,none) ⟨rfl,?_,hf.once⟩ ?_ |> fun h=>s_end h
 ·simp only
  rw [List.map_congr_left (g:=id)]
  ·simp
  ·intro p hp
   simp only [cl,id]
   rw [if_pos]
   obtain ⟨q,hq,rfl⟩:=List.mem_map.1 hp
   exact List.mem_map.2 ⟨q,hq,rfl⟩
 rintro k' _ ⟨Y,left,cur⟩ ⟨hYb,hYm,hnd⟩ hk'
 simp only at hYb hYm hnd hk' ⊢
 unfold zAz.b1
 refine s_next (r:=r) (fun hl0=>?_) fun l1 p l2 hl1 hp=>?_
 ·repeat refine s_nx ?_
  refine zPx (b:=db) (cel:=tagF) (a:=tag) zEI ?_ mapFD
  subst hl0
  refine s_own gm ?_
  refine s_conv (zMe (m':=Y) ?_) ?_
  ·have:=congrArg (List.map fun q:List UInt8×Nat=>(strV q.1,Value.pointer (some ⟨q.2,0,none⟩))) hYb
   simpa [gV,Function.comp_def] using this.symm
  refine s_own db ?_
  refine s_pick (Sep.stars (Y.map gB)) ?_
  refine s_own gm ?_
  refine s_own l ?_
  refine zFL (M:=(leaveM tag (M,dm)).1) (dm:=(leaveM tag (M,dm)).2) ⟨?_,?_,fun t=>?_,nd_del hf.nd⟩ (s_end h)
  ·rw [hYm,hf.mod]
   simp [leaveM,cl]
  ·unfold KeysU
   have:=congrArg (List.map Prod.fst) hYb
   simp only [List.map_map,Function.comp_def] at this
   rw [this]; exact hf.once
  ·show dset dm tag false t = _
   unfold dset
   rw [zSS hf.nd]
   split
   ·simp
   ·exact hf.doom t
 ·obtain ⟨A,C,hX⟩:=List.append_of_mem hp
  obtain ⟨A',g,C',hY,hgb,_,hA1,hC1⟩:=zP8 hYb hX
  have hpl:p.1 ∈ left.map Prod.fst:=by rw [hl1]; simp
  have hXo:=hf.once
  rw [hX] at hXo
  have hmid:=zKZ (v:=p.2) hXo
  have hgm2:(g.line,g.park) = (p.2.line,p.2.park):=by
   rw [hY,hX] at hYm
   simp only [modG,List.map_append,List.map_cons] at hYm
   have hlen:(A'.map fun p:List UInt8×GateX=>(p.1,(p.2.line,p.2.park))).length = ((A.map fun p:List UInt8×GateX=>(p.1,(p.2.line,p.2.park))).map (cl (left.map Prod.fst))).length:=by
    have:=congrArg List.length hA1; simpa using this
   have h2:=(List.append_inj hYm hlen).2
   simp only [List.cons.injEq,cl] at h2
   rw [if_pos hpl] at h2
   exact (Prod.mk.inj h2.1).2
  simp only [Prod.mk.injEq] at hgm2
  have hps:=hsz p hp
  repeat refine s_nx ?_
  refine zPI (r:=r) (q:=p) ?_
  refine s_nx ?_
  refine s_pick (Sep.stars (Y.map gB)) ?_
  refine zPa hY ?_
  rw [← hgb]
  repeat refine s_nx ?_
  refine zFM fun b1=>?_
  repeat refine s_nx ?_
  refine s_ownS g.ls ?_
  refine deleteC (tag:=tag) (L:=g.line) (b:=b1) (by rw [hgm2.1]; omega) fun ls'=>?_
  repeat refine s_nx ?_
  refine zFM fun b2=>?_
  repeat refine s_nx ?_
  refine s_ownS g.ps ?_
  refine deleteC (tag:=tag) (L:=g.park) (b:=b2) (by rw [hgm2.2]; omega) fun ps'=>?_
  repeat refine s_nx ?_
  refine s_pick (Sep.stars ((A'++C').map gB)) ?_
  refine s_ownS ps' ?_
  refine s_ownS ls' ?_
  refine s_own g.b ?_
  refine zMg (key:=p.1) (g:=⟨g.b,ls',ps',noT tag g.line,noT tag g.park⟩) ?_
  refine s_end (hk' () (A'++(p.1,⟨g.b,ls',ps',noT tag g.line,noT tag g.park⟩)::C',l1++l2,some p) ⟨?_,?_,?_⟩ (by rw [hl1]; simp))
  ·rw [← hYb,hY]; simp
  ·simp only
   have hne:∀ q:List UInt8,q ≠ p.1→(q ∈ l1.map Prod.fst++l2.map Prod.fst ↔ q ∈ left.map Prod.fst):=fun q hq=>by
    rw [hl1]; simp only [List.map_append,List.map_cons,List.mem_append,List.mem_cons]
    constructor
    ·rintro (h | h)
     ·exact .inl h
     ·exact .inr (.inr h)
    ·rintro (h | h | h)
     ·exact .inl h
     ·exact absurd h hq
     ·exact .inr h
   have hpn:p.1 ∉ l1.map Prod.fst++l2.map Prod.fst:=fun h5=>by
    rw [hl1,List.map_append,List.map_cons] at hnd
    obtain ⟨_,h6,h7⟩:=List.nodup_append.1 hnd
    rcases List.mem_append.1 h5 with h5 | h5
    ·exact h7 _ h5 _ List.mem_cons_self rfl
    ·exact (List.nodup_cons.1 h6).1 h5
   rw [hY,hX] at hYm
   rw [hX]
   simp only [modG,List.map_append,List.map_cons] at hYm ⊢
   have hlen:(A'.map fun p:List UInt8×GateX=>(p.1,(p.2.line,p.2.park))).length = ((A.map fun p:List UInt8×GateX=>(p.1,(p.2.line,p.2.park))).map (cl (left.map Prod.fst))).length:=by
    have:=congrArg List.length hA1; simpa using this
   obtain ⟨h8,h9⟩:=List.append_inj hYm hlen
   simp only [List.cons.injEq] at h9
   rw [h8,h9.2]
   congr 1
   ·refine List.map_congr_left fun q hq=>?_
    obtain ⟨q,hq',rfl⟩:=List.mem_map.1 hq
    have hq2:=hmid.1 q hq'
    simp only [cl]
    by_cases h10:q.1 ∈ left.map Prod.fst
    ·rw [if_pos h10,if_pos ((hne _ hq2).2 h10)]
    ·rw [if_neg h10,if_neg fun h11=>h10 ((hne _ hq2).1 h11)]
   ·congr 1
    ·simp only [cl]
     rw [if_neg hpn,hgm2.1,hgm2.2]
    ·refine List.map_congr_left fun q hq=>?_
     obtain ⟨q,hq',rfl⟩:=List.mem_map.1 hq
     have hq2:=hmid.2 q hq'
     simp only [cl]
     by_cases h10:q.1 ∈ left.map Prod.fst
     ·rw [if_pos h10,if_pos ((hne _ hq2).2 h10)]
     ·rw [if_neg h10,if_neg fun h11=>h10 ((hne _ hq2).1 h11)]
  ·rw [hl1,List.map_append,List.map_cons] at hnd
   rw [List.map_append]
   obtain ⟨h5,h6,h7⟩:=List.nodup_append.1 hnd
   exact List.nodup_append.2 ⟨h5,(List.nodup_cons.1 h6).2,fun a ha b hb=>h7 a ha b (List.mem_cons_of_mem _ hb)⟩
theorem zST {N:Nat} {Q:K} (hN:gsz M N) (hNl:N ≤ 1000000) (h:HG B (LocksR l (leaveM tag (M,dm)).1 (leaveM tag (M,dm)).2::Γ) Q) :
  HG B (LocksR l M dm::Γ) (zAz.call (some ⟨l,0,none⟩) (tagF tag).toArray Q):=fun w hw=>zIK _ _ _ _ (zMh hN hNl h w hw)
def readyG (tag:TagM) (p:List Claim×List Claim):Bool:=!hasT tag p.2 && !decide (0 < idxI (p.1.findIdx? fun c=>decide (c.1 = tag)))
def readyM (tag:TagM) (M:GM):Bool:=M.all fun p=>readyG tag p.2
theorem zSU {N:Nat} {Q:Bool→K} (hN:gsz M N) (hNl:N ≤ 1000000) (h:HG B (LocksR l M dm::Γ) (Q (readyM tag M))):HG B (LocksR l M dm::Γ) (zBB.call (some ⟨l,0,none⟩) (tagF tag).toArray Q):=by
 refine fun w hw=>zIJ _ _ _ _ ?_
 refine hg hw ?_
 clear hw w
 refine zJs fun gm db X D hf=>?_
 have hsz:∀ p ∈ X,p.2.line.length ≤ N∧p.2.park.length ≤ N:=fun p hp=>hN.2 (p.1,(p.2.line,p.2.park)) (by rw [← hf.mod]; exact List.mem_map.2 ⟨p,hp,rfl⟩)
 have hrm:readyM tag M = X.all fun p=>readyG tag (p.2.line,p.2.park):=by unfold readyM; rw [← hf.mod]; simp [modG,Function.comp_def]
 unfold zBB
 refine s_new fun t3=>?_
 repeat refine s_nx ?_
 refine zPH mapFL fun r=>?_
 refine s_loop (α:=Unit) (ι:=GX×Option (List UInt8×GateX)) (fun _ i=>(∀ p ∈ X,p ∈ i.1∨readyG tag (p.2.line,p.2.park) = true))
  (fun _ i=>MapIt strV gV gm r X i.1 i.2::Sep.stars (X.map gB)::blk t3 (.cells (tagF tag).toArray zBz (0,0))::blk l (.cells [.map (some gm),.map (some db)].toArray zCn (0,0))::MapR (kyS tagF) (Value.int .i64) db D::Γ)
  (fun _ i=>i.1.length) (X,none) (fun p hp=>.inl hp) ?_ |> fun h=>s_end h
 rintro k' _ ⟨left,cur⟩ hJ hk'
 simp only at hJ hk' ⊢
 unfold zBB.b1
 refine s_next (r:=r) (fun hl0=>?_) fun l1 p l2 hl1 hp=>?_
 ·repeat refine s_nx ?_
  subst hl0
  have e:readyM tag M = true:=by
   rw [hrm,List.all_eq_true]
   intro p hp
   rcases hJ p hp with h1 | h1
   ·cases h1
   ·exact h1
  rw [e] at h
  refine s_own db ?_
  refine s_pick (Sep.stars (X.map gB)) ?_
  refine s_own gm ?_
  refine s_own l ?_
  exact zFL hf (s_end h)
 ·obtain ⟨A,C,hX⟩:=List.append_of_mem hp
  have hps:=hsz p hp
  repeat refine s_nx ?_
  refine zPI (r:=r) (q:=p) ?_
  refine s_nx ?_
  have bad:readyG tag (p.2.line,p.2.park) = false→HG B (MapIt strV gV gm r X (l1++l2) (some p)::Sep.stars (X.map gB)::blk t3 (.cells (tagF tag).toArray zBz (0,0))::blk l (.cells [.map (some gm),.map (some db)].toArray zCn (0,0))::MapR (kyS tagF) (Value.int .i64) db D::Γ) (Q false):=fun hb=>by
   have e:readyM tag M = false:=by
    rw [hrm,List.all_eq_false]
    exact ⟨p,hp,by simp [hb]⟩
   rw [e] at h
   refine zTT (r:=r) ?_
   refine s_own db ?_
   refine s_pick (Sep.stars (X.map gB)) ?_
   refine s_own gm ?_
   refine s_own l ?_
   exact zFL hf (s_end h)
  refine s_pick (Sep.stars (X.map gB)) ?_
  refine zPa (key:=p.1) (g:=p.2) hX ?_
  have back:∀ (b:Bool),readyG tag (p.2.line,p.2.park) = !b→HG B (gL p.2 (Sep.stars ((A++C).map gB)::MapIt strV gV gm r X (l1++l2) (some p)::blk t3 (.cells (tagF tag).toArray zBz (0,0))::blk l (.cells [.map (some gm),.map (some db)].toArray zCn (0,0))::MapR (kyS tagF) (Value.int .i64) db D::Γ)) (zBB.s2 Q (k' ()) ⟨t3,0,none⟩ (some ⟨r,0,none⟩) b):=fun b hb=>by
   refine zMg (key:=p.1) ?_
   rw [show A++(p.1,p.2)::C = X from hX.symm]
   unfold zBB.s2
   refine s_ite (fun h2=>?_) fun h2=>?_
   ·exact s_end (bad (by rw [hb,h2]; rfl))
   ·refine s_end (hk' () (l1++l2,some p) (fun q hq=>?_) (by rw [hl1]; simp))
    rcases hJ q hq with h3 | h3
    ·rw [hl1] at h3
     rcases List.mem_append.1 h3 with h3 | h3
     ·exact .inl (List.mem_append_left _ h3)
     ·rcases List.mem_cons.1 h3 with rfl | h3
      ·exact .inr (by rw [hb,h2]; rfl)
      ·exact .inl (List.mem_append_right _ h3)
    ·exact .inr h3
  repeat refine s_nx ?_
  refine zFM fun b1=>?_
  repeat refine s_nx ?_
  refine containsC (tag:=tag) (L:=p.2.park) (by omega) ?_
  repeat refine s_nx ?_
  refine s_ite (fun h2=>?_) fun h2=>?_
  ·exact s_end (back true (by unfold readyG; rw [h2]; rfl))
  repeat refine s_nx ?_
  refine zFM fun b2=>?_
  repeat refine s_nx ?_
  refine indexC (tag:=tag) (L:=p.2.line) (by omega) ?_
  exact s_end (back _ (by unfold readyG; rw [h2]; rfl))
end
end Go.Proofs.YtdemfamgieonbaaGreat
namespace Go.Proofs.YtdemfamgieonbaaGreat
open Go Go.Sep Go.Sep.Bt
set_option maxRecDepth 100000
section
variable {B:World} {Γ Δ:List HProp} {k:K} {l gm db st n:Nat} {M:GM} {dm:DM} {X:GX} {D:List (TagM×Int)} {S:Recs} {tag:TagM}
def clLook (r:Rec) (c:Claim):Int:=lookS r.cnt c.2.cnt r.home c.2.home
def doomL (r:Rec) (L:List Claim) (dm:DM):DM:=L.foldl (fun d c=>if clLook r c ≠ 0 then dset d c.1 true else d) dm
def mvP (r:Rec) (_:List Claim×DM) (c:Claim):Bool:=decide (clLook r c ≠ 1)
def mvS (r:Rec) (x:List Claim×DM) (c:Claim):List Claim×DM:=if clLook r c = 0 then (x.1++[c],x.2) else if clLook r c = 2 then (x.1,dset x.2 c.1 true) else x
def movedM (n:Nat) (S:Recs) (key:List UInt8) (x:GM×DM):GM×DM :=
 (mset key ((delG (mvP (sGet n S (bs key))) (mvS (sGet n S (bs key))) ((atM key x.1).1,doomL (sGet n S (bs key)) (atM key x.1).1 x.2) (atM key x.1).2).1.1,(delG (mvP (sGet n S (bs key))) (mvS (sGet n S (bs key))) ((atM key x.1).1,doomL (sGet n S (bs key)) (atM key x.1).1 x.2) (atM key x.1).2).2) (gateM key x.1),
  (delG (mvP (sGet n S (bs key))) (mvS (sGet n S (bs key))) ((atM key x.1).1,doomL (sGet n S (bs key)) (atM key x.1).1 x.2) (atM key x.1).2).1.2)
theorem s_wsX {ι:Type} {k:(World→Prop)→K} (Γ0:ι→List HProp) (i:ι) (h:HG B Γ (k fun w=>∃ i,Holds B (Γ0 i) w)) [d:Drops Γ (Γ0 i)]:HG B Γ (WithS k):=fun w hw=>⟨_,⟨i,hw.drops⟩,h w hw⟩
theorem s_ldSX {ι:Type} {Γ0:ι→List HProp} {α:Type} {a:Addr} {c:α→Value} {x:α} {k:α→K} (h0:∀ i w,Holds B (Γ0 i) w→w.cell? a = some (c x)) (h:HG B Γ (k x)):HG B Γ (LdS (fun w=>∃ i,Holds B (Γ0 i) w) a c k):=fun w hw=>⟨x,fun w ⟨i,hi⟩=>h0 i w hi,h w hw⟩
theorem s_svX {ι:Type} {Γ0:ι→List HProp} (i:ι) (h:HG B Γ k) [d:Drops Γ (Γ0 i)]:HG B Γ (Sv (fun w=>∃ i,Holds B (Γ0 i) w) k):=fun w hw=>⟨⟨i,hw.drops⟩,h w hw⟩
abbrev doomB (db:Nat) (d:DM):HProp:=ex fun D:List (TagM×Int)=>Sep.stars [pur ((∀ t,d t = decide (0 < (mget t D).getD 0))∧(D.map Prod.fst).Nodup),MapR (kyS tagF) (Value.int .i64) db D]
theorem zL7 {d:DM} (h:∀ D,(∀ t,d t = decide (0 < (mget t D).getD 0))→(D.map Prod.fst).Nodup→HG B (MapR (kyS tagF) (Value.int .i64) db D::Γ) k):HG B (doomB db d::Γ) k :=
 s_ex fun D=>s_flat <| s_pur fun ⟨h1,h2⟩=>h D h1 h2
theorem zKb {d:DM} {D:List (TagM×Int)} (h1:∀ t,d t = decide (0 < (mget t D).getD 0)) (h2:(D.map Prod.fst).Nodup) (h:HG B (doomB db d::Γ) k):HG B (MapR (kyS tagF) (Value.int .i64) db D::Γ) k:=fun w hw=>by
 refine h w ?_
 have h3:Holds B (Sep.stars [pur ((∀ t,d t = decide (0 < (mget t D).getD 0))∧(D.map Prod.fst).Nodup),MapR (kyS tagF) (Value.int .i64) db D]::Γ) w:=Holds.flat.2 (Holds.pur.2 ⟨⟨h1,h2⟩,hw⟩)
 exact h3.imp fun g hg=>⟨D,hg⟩
abbrev lineB (gb:Nat) (ps:Sl) (L:List Claim):HProp:=ex fun ls:Sl=>Sep.stars [blk gb (.cells [ls.val,ps.val].toArray zDM (0,0)),SlC zBQ 7 ls (L.flatMap clF)]
theorem zPb {gb:Nat} {ps:Sl} {L:List Claim} (h:∀ ls,HG B (blk gb (.cells [ls.val,ps.val].toArray zDM (0,0))::SlC zBQ 7 ls (L.flatMap clF)::Γ) k):HG B (lineB gb ps L::Γ) k :=
 s_ex fun ls=>s_flat (h ls)
theorem zOE {gb:Nat} {ls ps:Sl} {L:List Claim} (h:HG B (lineB gb ps L::Γ) k):HG B (blk gb (.cells [ls.val,ps.val].toArray zDM (0,0))::SlC zBQ 7 ls (L.flatMap clF)::Γ) k :=
 zFj (Δ:=[blk gb (.cells [ls.val,ps.val].toArray zDM (0,0)),SlC zBQ 7 ls (L.flatMap clF)]) (s_toEx (F:=fun ls:Sl=>Sep.stars [blk gb (.cells [ls.val,ps.val].toArray zDM (0,0)),SlC zBQ 7 ls (L.flatMap clF)]) ls h)
theorem zL8 (r:Rec) (x:List Claim×DM) (c:Claim):(mvS r x c).1.length ≤ x.1.length + 1:=by
 unfold mvS
 repeat' split
 all_goals simp
theorem zOF (r:Rec):∀ (L:List Claim) (x:List Claim×DM),(delG (mvP r) (mvS r) x L).1.1.length ≤ x.1.length + L.length∧(delG (mvP r) (mvS r) x L).2.length ≤ L.length
 | [],x=>by simp [delG]
 | c::L,x=>by
  rw [zFG]
  have h1:=zOF r L (mvS r x c)
  have h2:=zL8 r x c
  refine ⟨by simp only [List.length_cons]; omega,?_⟩
  simp only
  split
  ·simp; omega
  ·simp; exact h1.2
theorem zTn {s:Sl} {fv:Value} {Q:Sl→K} (h:HG B Γ (delFN Tryz.prog zAM.call zBQ zGa 0 7 [(.int .i64 0),(.int .u64 0),(.int .u64 0),(.int .i64 0),(.string ⟨#[]⟩),(.int .i64 0),(.int .u64 0)] s fv Q)):HG B Γ (zAC.call s fv Q):=fun w hw =>
 zCt _ _ _ _ (h w hw)
theorem zSV {key:List UInt8} {N:Nat} {Q:K} (hk:key.length < 1000000000) (hN:gsz M N) (hNl:N ≤ 1000000) (h:HG B (LocksR l (movedM n S key (M,dm)).1 (movedM n S key (M,dm)).2::StoreR st n S::Γ) Q) :
  HG B (LocksR l M dm::StoreR st n S::Γ) (zBG.call (some ⟨l,0,none⟩) (some ⟨st,0,none⟩) (bs key) Q):=by
 refine fun w hw=>zIL _ _ _ _ _ ?_
 refine hg hw ?_
 clear hw w
 unfold zBG
 refine s_new fun l3=>?_
 repeat refine s_nx ?_
 refine s_own l ?_
 refine zPY fun gm db X D A g C hf hX=>?_
 have hat:=lf_at hX hf
 rw [zL6] at hat
 have hz:=gsz_at (k:=key) hN
 rw [hat] at hz
 simp only at hz
 refine s_own st ?_
 refine zDP (k:=bs key) (by show key.length < _; omega) fun s hok=>?_
 have hmv:movedM n S key (M,dm) = movedM n S key (M,dm):=rfl
 conv at hmv=>rhs; unfold movedM
 simp only [hat] at hmv
 rw [hmv] at h
 generalize sGet n S (bs key) = r at *
 refine s_new fun g6=>?_
 refine s_new fun r7=>?_
 repeat refine s_nx ?_
 have hcl:∀ c:Claim,lookS r.cnt c.2.cnt r.home c.2.home = clLook r c:=fun c=>rfl
 refine s_cap g.ls fun a1 a2 a3 a4=>?_
 refine s_cap g.ps fun b1 b2 b3 b4=>?_
 rw [zAL _ 7 zFJ] at a1 b1
 refine s_own db ?_
 refine zKb (d:=doomL r (g.line.take 0) dm) hf.doom hf.nd ?_
 refine s_loop (α:=Int) (ι:=Nat) (fun x i=>x = (i:Int)∧i ≤ g.line.length)
  (fun x i=>doomB db (doomL r (g.line.take i) dm)::blk r7 (.cells (recL r s).toArray zA9 (0,0))::blk g6 (.cells [.pointer (some ⟨g.b,0,none⟩)].toArray zCu (0,0))::blk l3 (.cells [.pointer (some ⟨l,0,none⟩)].toArray zE9 (0,0))::StoreR st n S::gL g (blk l (.cells [.map (some gm),.map (some db)].toArray zCn (0,0))::MapR strV gV gm X::Sep.stars ((A++C).map gB)::Γ)) (fun x i=>g.line.length - i) 0 ⟨rfl,Nat.zero_le _⟩ ?_ |> fun h=>s_end h
 rintro k' _ i ⟨rfl,hi⟩ hk'
 unfold zBG.b1
 refine s_ite (fun hb=>?_) fun hb=>?_
 ·have hil:i < g.line.length:=by simp only [decide_eq_true_eq] at hb; omega
  have hge:g.line[i]? = some g.line[i]:=List.getElem?_eq_getElem hil
  have htk:g.line.take (i + 1) = g.line.take i++[g.line[i]]:=List.take_succ_eq_append_getElem hil
  generalize g.line[i] = c at hge htk
  have hdm:doomL r (g.line.take (i + 1)) dm = if clLook r c ≠ 0 then dset (doomL r (g.line.take i) dm) c.1 true else doomL r (g.line.take i) dm:=by
   rw [htk]; unfold doomL; rw [List.foldl_append]; rfl
  refine s_idxN clF zFJ (fun w hw=>(own_rd (s:=g.ls) hw).1) hge ?_
  refine s_new fun c9=>?_
  repeat refine s_nx ?_
  refine lookHg ?_
  rw [hcl]
  unfold zBG.s2
  have h5:=hk' ((i:Int) + 1) (i + 1) ⟨by simp,hil⟩ (by omega)
  rw [hdm] at h5
  refine s_ite (fun h0=>?_) fun h0=>?_
  ·rw [if_pos (by simpa using h0)] at h5
   refine s_pick (doomB db (doomL r (g.line.take i) dm)) ?_
   refine zL7 fun D1 hd1 hd2=>?_
   repeat refine s_nx ?_
   refine s_updS (b:=db) (cel:=tagF) (a:=c.1) (v:=1) zEI rfl ?_ mapFD
   refine zKb (zKa hd1) (nd_set hd2) ?_
   refine s_ai ?_
   exact s_end h5
  ·rw [if_neg (by simpa using h0)] at h5
   refine s_ai ?_
   exact s_end h5
 have hil:i = g.line.length:=by simp only [decide_eq_false_iff_not] at hb; omega
 rw [hil,List.take_length]
 clear hk' hb hi hil
 have hlen:=zOF r g.park (g.line,doomL r g.line dm)
 refine s_dr ?_
 refine s_wsX (fun ls:Sl=>[blk g6 (.cells [.pointer (some ⟨g.b,0,none⟩)].toArray zCu (0,0)),blk g.b (.cells [ls.val,g.ps.val].toArray zDM (0,0))]) g.ls ?_
 refine s_ldSX (x:=some ⟨g.b,0,none⟩) (fun ls w hw=>zBr (zDj (b:=g6) hw) rfl) ?_
 refine s_ldSX (x:=some ⟨g.b,0,none⟩) (fun ls w hw=>zBr (zDj (b:=g6) hw) rfl) ?_
 refine s_nn ?_
 refine s_ldSX (x:=g.ps) (fun ls w hw=>?_) ?_
 ·rw [add_mk]
  exact zBr (zDj (b:=g.b) hw) rfl
 refine s_ownS g.ls ?_
 refine s_own g.b ?_
 refine zOE ?_
 refine zTn ?_
 refine s_own l3 ?_
 refine s_own g6 ?_
 refine s_own r7 ?_
 refine s_pick (doomB db (doomL r g.line dm)) ?_
 refine s_pick (lineB g.b g.ps g.line) ?_
 refine s_ownS g.ps ?_
 refine s_end (Δ:=SlC zBQ 7 g.ps (g.park.flatMap clF)::lineB g.b g.ps g.line::doomB db (doomL r g.line dm)::blk r7 (.cells (recL r s).toArray zA9 (0,0))::blk g6 (.cells [.pointer (some ⟨g.b,0,none⟩)].toArray zCu (0,0))::blk l3 (.cells [.pointer (some ⟨l,0,none⟩)].toArray zE9 (0,0))::blk l (.cells [.map (some gm),.map (some db)].toArray zCn (0,0))::StoreR st n S::MapR strV gV gm X::Sep.stars ((A++C).map gB)::Γ) ?_
 refine zPK (γ:=List Claim×DM) (R:=fun x=>lineB g.b g.ps x.1::doomB db x.2::blk r7 (.cells (recL r s).toArray zA9 (0,0))::blk g6 (.cells [.pointer (some ⟨g.b,0,none⟩)].toArray zCu (0,0))::blk l3 (.cells [.pointer (some ⟨l,0,none⟩)].toArray zE9 (0,0))::blk l (.cells [.map (some gm),.map (some db)].toArray zCn (0,0))::StoreR st n S::MapR strV gV gm X::Sep.stars ((A++C).map gB)::Γ)
  (L:=g.park) (f:=clF) (mvP r) (mvS r) (g.line,doomL r g.line dm) (fun x C=>x.1.length + C.length ≤ 2000000) (by simp only; omega) (fun x c C h=>by have:=zL8 r x c; simp only [List.length_cons] at h; omega) (fun s fv Q w h=>zB4 _ _ _ _ h) zFJ (by omega) (fun _=>rfl) rfl (by omega) (fun Ξ x c C2 q hc hIx hq=>?_) (fun ps' _=>?_)
 ·refine zEY (cs:=[.pointer (some ⟨r7,0,none⟩),.pointer (some ⟨g6,0,none⟩),.pointer (some ⟨l3,0,none⟩)]) ?_
  refine fun w hw=>zHD _ _ _ _ _ _ ?_
  refine hg hw ?_
  clear hw w
  unfold zBR
  refine s_new fun c4=>?_
  repeat refine s_nx ?_
  refine lookHg ?_
  rw [hcl]
  have e1:mvP r x c = decide (clLook r c ≠ 1):=rfl
  rw [e1] at hq
  refine s_ite (fun h0=>?_) fun h0=>?_
  ·have h0':clLook r c = 0:=by simpa using h0
   rw [show mvS r x c = (x.1++[c],x.2) by unfold mvS; rw [if_pos h0']] at hq
   refine s_pick (lineB g.b g.ps x.1) ?_
   refine zPb fun ls=>?_
   refine s_cap ls fun d1 d2 d3 d4=>?_
   rw [zAL _ 7 zFJ] at d1
   refine s_dr ?_
   refine s_wsD [blk g.b (.cells [ls.val,g.ps.val].toArray zDM (0,0)),blk g6 (.cells [.pointer (some ⟨g.b,0,none⟩)].toArray zCu (0,0)),blk c4 (.cells (clF c).toArray zBQ (0,0))] ?_
   repeat refine s_nx ?_
   refine s_new fun t=>?_
   repeat refine s_nx ?_
   refine zBJ (s:=ls) (esz:=7) (us:=clF c) (blk_rd rfl) (by intro v hv; exact clF_fl [c] v (by simpa using hv)) (by simp only; omega) fun ls' _=>?_
   rw [show x.1.flatMap clF++clF c = (x.1++[c]).flatMap clF by simp only [List.flatMap_append,List.flatMap_cons,List.flatMap_nil,List.append_nil]]
   repeat refine s_nx ?_
   refine s_ownS ls' ?_
   refine s_own g.b ?_
   refine zOE ?_
   unfold zBR.s1
   exact s_end hq
  ·have h0':¬ clLook r c = 0:=by simpa using h0
   refine s_ite (fun h2=>?_) fun h2=>?_
   ·have h2':clLook r c = 2:=by simpa using h2
    rw [show mvS r x c = (x.1,dset x.2 c.1 true) by unfold mvS; rw [if_neg h0',if_pos h2']] at hq
    refine s_pick (doomB db x.2) ?_
    refine zL7 fun D1 hd1 hd2=>?_
    repeat refine s_nx ?_
    refine s_updS (b:=db) (cel:=tagF) (a:=c.1) (v:=1) zEI rfl ?_ mapFD
    refine zKb (zKa hd1) (nd_set hd2) ?_
    unfold zBR.s1
    exact s_end hq
   ·have h2':¬ clLook r c = 2:=by simpa using h2
    rw [show mvS r x c = x by unfold mvS; rw [if_neg h0',if_neg h2']] at hq
    unfold zBR.s1
    exact s_end hq
 ·generalize (delG (mvP r) (mvS r) (g.line,doomL r g.line dm) g.park) = y at *
  obtain ⟨⟨y1,y2⟩,y3⟩:=y
  simp only at h hlen ⊢
  refine s_pick (lineB g.b g.ps y1) ?_
  refine zPb fun ls'=>?_
  refine s_svX ls' ?_
  refine s_nn ?_
  repeat refine s_nx ?_
  refine s_pick (doomB db y2) ?_
  refine zL7 fun D1 hd1 hd2=>?_
  refine s_end (Δ:=gL ⟨g.b,ls',ps',y1,y3⟩ (lockF l gm db X (A++C) D1 (StoreR st n S::Γ))) ?_
  exact zOD hX rfl hf ⟨hd1,hd2⟩ h
end
end Go.Proofs.YtdemfamgieonbaaGreat
namespace Go.Proofs.YtdemfamgieonbaaGreat
open Go Go.Sep Go.Sep.Bt
set_option maxRecDepth 100000
theorem gs_at {M:GM} {k:List UInt8} {T:Nat} (h:∀ p ∈ M,p.2.1.length + p.2.2.length ≤ T):(atM k M).1.length + (atM k M).2.length ≤ T:=by
 unfold atM
 rcases mfind k M with ⟨h1,_⟩ | ⟨j,v,_,h0,_,h1,_⟩
 ·rw [h1]; simp
 ·rw [h1]; exact h _ (List.mem_of_getElem? h0)
theorem zPc {M:GM} {k:List UInt8} {T:Nat} (h:∀ p ∈ M,p.2.1.length + p.2.2.length ≤ T):∀ p ∈ gateM k M,p.2.1.length + p.2.2.length ≤ T:=fun p hp=>by
 unfold gateM at hp
 split at hp
 ·rcases List.mem_append.1 hp with hp | hp
  ·exact h p hp
  ·rw [List.mem_singleton.1 hp]; simp
 ·exact h p hp
theorem gs_set {M:GM} {k:List UInt8} {v:List Claim×List Claim} {T:Nat} (h:∀ p ∈ M,p.2.1.length + p.2.2.length ≤ T) (hv:v.1.length + v.2.length ≤ T):∀ p ∈ mset k v M,p.2.1.length + p.2.2.length ≤ T:=fun p hp=>by
 rcases zOB hp with rfl | hp
 ·exact hv
 ·exact h p hp
theorem zOG {M:GM} {k:List UInt8}:(gateM k M).length ≤ M.length + 1:=by
 unfold gateM
 split <;> simp
theorem gs_up {M:GM} {T T':Nat} (h:∀ p ∈ M,p.2.1.length + p.2.2.length ≤ T) (ht:T ≤ T'):∀ p ∈ M,p.2.1.length + p.2.2.length ≤ T':=fun p hp=>Nat.le_trans (h p hp) ht
theorem zSW {n:Nat} {S:Recs} {tag:TagM} {x:GM×DM} {m:MarkM} {T:Nat} (hl:x.1.length ≤ T) (h:∀ p ∈ x.1,p.2.1.length + p.2.2.length ≤ T):(enter1 n S tag x m).1.length ≤ T + 1∧∀ p ∈ (enter1 n S tag x m).1,p.2.1.length + p.2.2.length ≤ T + 1:=by
 have g1:(gateM m.key x.1).length ≤ T + 1:=Nat.le_trans zOG (by omega)
 have g2:=gs_up (zPc (k:=m.key) h) (Nat.le_succ T)
 have g3:=gs_at (k:=m.key) h
 unfold enter1
 split
 ·exact ⟨g1,g2⟩
 split
 ·exact ⟨by rw [zG2 zFK]; exact g1,gs_set g2 (by simp only [List.length_append,List.length_cons,List.length_nil]; omega)⟩
 split
 ·exact ⟨by rw [zG2 zFK]; exact g1,gs_set g2 (by simp only [List.length_append,List.length_cons,List.length_nil]; omega)⟩
 ·exact ⟨g1,g2⟩
theorem zMi {n:Nat} {S:Recs} {tag:TagM}:∀ (L:List MarkM) {x:GM×DM} {T:Nat},x.1.length ≤ T→(∀ p ∈ x.1,p.2.1.length + p.2.2.length ≤ T)→(enterM n S tag L x).1.length ≤ T + L.length∧∀ p ∈ (enterM n S tag L x).1,p.2.1.length + p.2.2.length ≤ T + L.length
 | [],x,T,h1,h2=>⟨h1,h2⟩
 | m::L,x,T,h1,h2=>by
  obtain ⟨a1,a2⟩:=zSW (n:=n) (S:=S) (tag:=tag) (m:=m) h1 h2
  obtain ⟨b1,b2⟩:=zMi (n:=n) (S:=S) (tag:=tag) L a1 a2
  rw [List.length_cons]
  exact ⟨by show (enterM n S tag L (enter1 n S tag x m)).1.length ≤ _; omega,gs_up (T:=T + 1 + L.length) b2 (by omega)⟩
theorem zOH (r:Rec):∀ (L:List Claim) (x:List Claim×DM),(delG (mvP r) (mvS r) x L).1.1.length + (delG (mvP r) (mvS r) x L).2.length ≤ x.1.length + L.length
 | [],x=>by simp [delG]
 | c::L,x=>by
  rw [zFG]
  have h1:=zOH r L (mvS r x c)
  simp only [List.length_cons]
  by_cases h0:clLook r c = 1
  ·rw [show mvP r x c = false by simp [mvP,h0]]
   rw [show mvS r x c = x by simp [mvS,h0]] at h1 ⊢
   simp only [Bool.false_eq_true,if_false,List.length_cons]
   omega
  ·rw [show mvP r x c = true by simp [mvP,h0]]
   have h2:=zL8 r x c
   simp only [if_true]
   omega
theorem zSX {n:Nat} {S:Recs} {key:List UInt8} {x:GM×DM} {T:Nat} (hl:x.1.length ≤ T) (h:∀ p ∈ x.1,p.2.1.length + p.2.2.length ≤ T):(movedM n S key x).1.length ≤ T + 1∧∀ p ∈ (movedM n S key x).1,p.2.1.length + p.2.2.length ≤ T:=by
 have g1:(gateM key x.1).length ≤ T + 1:=Nat.le_trans zOG (by omega)
 have g3:=gs_at (k:=key) h
 unfold movedM
 refine ⟨by simp only; rw [zG2 zFK]; exact g1,gs_set (zPc h) ?_⟩
 have:=zOH (sGet n S (bs key)) (atM key x.1).2 ((atM key x.1).1,doomL (sGet n S (bs key)) (atM key x.1).1 x.2)
 simp only at this ⊢
 omega
theorem zSY {tag:TagM} {x:GM×DM} {T:Nat} (hl:x.1.length ≤ T) (h:∀ p ∈ x.1,p.2.1.length + p.2.2.length ≤ T):(leaveM tag x).1.length ≤ T∧∀ p ∈ (leaveM tag x).1,p.2.1.length + p.2.2.length ≤ T:=by
 refine ⟨by simpa [leaveM] using hl,fun p hp=>?_⟩
 obtain ⟨q,hq,rfl⟩:=List.mem_map.1 hp
 have h1:=h q hq
 have h2:(noT tag q.2.1).length ≤ q.2.1.length:=List.length_filter_le _ _
 have h3:(noT tag q.2.2).length ≤ q.2.2.length:=List.length_filter_le _ _
 simp only
 omega
end Go.Proofs.YtdemfamgieonbaaGreat
namespace Go.Proofs.YtdemfamgieonbaaGreat
open Go Go.Sep
set_option maxRecDepth 100000
theorem mapFR:mapIs Tryz.prog zCc .string zA9:=⟨9,by kernel_rfl,by kernel_rfl⟩
section
variable {B w:World} {Γ:List HProp} {β:Type} {cV:β→Value}
theorem zIM {mb t1:Nat} {m:List (List UInt8×β)} {k:Sl→K} (hm:m.length ≤ 1000000) (h:Holds B (blk t1 (.cells #[.map (some mb)] zCc (0,0))::MapR strV cV mb m::Γ) w)
  (hk:∀ s ss w,ss.Perm (m.map Prod.fst)→Holds B (SlS s ss::MapR strV cV mb m::Γ) w→k s w):zCZ.call (.func (.func 228) #[] #[.pointer (some ⟨t1,0,none⟩)]) k w:=by
 refine zGg _ _ _ ?_
 unfold zCZ
 refine zEp _ _ _ _ ?_
 unfold zBv
 refine r_new h ?_
 clear h
 intro s2 w h
 try simp only [add_mk,Nat.zero_add,Nat.reduceAdd]
 refine zRq h rfl (by kernel_rfl) fun D l r w hr1 hr2 h hy=>?_
 refine zRr (zDe (yv l) ⟨t1,0,none⟩ (fun w3=>∃ Δ,Holds B (blk l (.loop r)::Δ) w3∧∀ w,Holds B Δ w→(Ld ⟨s2,0,none⟩ Sl.val fun t12=>TakeD D (k t12)) w) w ?_) fun v w h=>h.2
 unfold zAa
 refine r_ld (x:=(some mb)) h rfl (by first | with_reducible exact M0 | with_reducible exact M1 | with_reducible exact M2 | with_reducible exact M3 | with_reducible exact M4 | with_reducible exact M5 | with_reducible exact M6 | with_reducible exact M7 | with_reducible exact M8 | with_reducible exact M9 | with_reducible exact M10 | with_reducible exact M11 | with_reducible exact M12) ?_ ?_
 ·exact rfl
 replace h:=P3 h
 replace h:=P3 h
 replace h:=P3 h
 replace h:=P3 h
 replace h:=P4 h
 try simp only [N1,N2,N3,N4,N5,N6,N7] at h
 refine zPC mapFR h fun r2 w h=>?_
 replace h:=h.del 4 at4
 try simp only [N1,N2,N3,N4,N5,N6,N7] at h
 have h0:=(h.nilSl zBy 1)
 refine LoopK.of (fun _ w=>∃ (o:Sl) (ss:List (List UInt8)) (left:List (List UInt8×β)) (cur:Option (List UInt8×β)),(ss++left.map Prod.fst).Perm (m.map Prod.fst) ∧
   Holds B (blk l (.loop r)::blk D (.deferred (some []))::blk s2 (.cells #[o.val] zDU (0,0))::SlS o ss::MapIt strV cV mb r2 m left cur::Γ) w)
  (fun _ w=>itCount r2 m.length w) ⟨⟨none,0,0⟩,[],m,none,List.Perm.refl _,?_⟩ ?_
 ·replace h:=h0
  replace h:=P1 h
  replace h:=P1 h
  replace h:=P4 h
  replace h:=P4 h
  replace h:=P4 h
  try simp only [N1,N2,N3,N4,N5,N6,N7] at h
  exact h
 clear h h0
 rintro _ w ⟨o,ss,left,cur,hperm,h⟩
 have hcnt:=zNp (h.pick 4 at4)
 have hlen:=hperm.length_eq
 simp only [List.length_append,List.length_map] at hlen
 unfold zAa.b1
 replace h:=P3 h
 replace h:=P3 h
 replace h:=P3 h
 replace h:=P3 h
 replace h:=P4 h
 try simp only [N1,N2,N3,N4,N5,N6,N7] at h
 refine r_next h (fun hl0 w h=>?_) (fun l1 p l2 w hl1 hpm h=>?_)
 ·refine ⟨_,false,rfl,rfl,?_⟩
  refine zLZ rfl ?_
  replace h:=P4 h
  replace h:=P4 h
  replace h:=P4 h
  replace h:=P4 h
  try simp only [N1,N2,N3,N4,N5,N6,N7] at h
  refine ⟨_,h,fun w h=>?_⟩
  refine r_ld (x:=o) h rfl (by first | with_reducible exact M0 | with_reducible exact M1 | with_reducible exact M2 | with_reducible exact M3 | with_reducible exact M4 | with_reducible exact M5 | with_reducible exact M6 | with_reducible exact M7 | with_reducible exact M8 | with_reducible exact M9 | with_reducible exact M10 | with_reducible exact M11 | with_reducible exact M12) ?_ ?_
  ·exact rfl
  refine zTC h fun w h=>?_
  replace h:=P2 h
  replace h:=P2 h
  replace h:=D2 h
  try simp only [N1,N2,N3,N4,N5,N6,N7] at h
  rw [hl0] at hperm
  simp only [List.map_nil,List.append_nil] at hperm
  exact hk o ss _ hperm h
 ·refine ⟨_,true,rfl,rfl,?_⟩
  refine zOx rfl ?_
  refine zPD h ?_
  refine ⟨_,bs p.1,rfl,rfl,?_⟩
  replace h:=P4 h
  replace h:=P4 h
  replace h:=P4 h
  replace h:=P4 h
  try simp only [N1,N2,N3,N4,N5,N6,N7] at h
  refine zPs (hy (bs p.1) (fun w=>∃ o',Holds B (blk l (.loop r)::blk D (.deferred (some []))::blk s2 (.cells #[Sl.val o'] zDU (0,0))::SlS o' (ss++[p.1])::MapIt strV cV mb r2 m (l1++l2) (some p)::Γ) w) w _ h fun W h=>?_) fun v w hv=>?_
  ·have hon:ss.length = o.n:=by have:=(h.pick 3 at3).slCap.1; simpa using this
   refine r_ld (x:=o) h rfl (by first | with_reducible exact M0 | with_reducible exact M1 | with_reducible exact M2 | with_reducible exact M3 | with_reducible exact M4 | with_reducible exact M5 | with_reducible exact M6 | with_reducible exact M7 | with_reducible exact M8 | with_reducible exact M9 | with_reducible exact M10 | with_reducible exact M11 | with_reducible exact M12) ?_ ?_
   ·exact rfl
   refine r_new h ?_
   clear h
   intro t10 w h
   try simp only [add_mk,Nat.zero_add,Nat.reduceAdd]
   refine zHo (us:=[strV p.1]) (h.pick 4 at4) (by kernel_rfl) (by kernel_rfl) (by':=16) (by kernel_rfl) zLi rfl (RdC.of_blk (E:=zBy) (b:=t10) (n:=1) (vs:=[strV p.1]) (cs:=#[strV p.1]) h List.mem_cons_self rfl rfl 1) (by simp [flatV]) (by simp only; omega) (by decide) fun o' w h _ _=>?_
   try simp only [N1,N2,N3,N4,N5,N6,N7] at h
   first | refine S0 h rfl ?_ rfl ?_ | refine S1 h rfl ?_ rfl ?_ | refine S2 h rfl ?_ rfl ?_ | refine S3 h rfl ?_ rfl ?_ | refine S4 h rfl ?_ rfl ?_ | refine S5 h rfl ?_ rfl ?_ | refine S6 h rfl ?_ rfl ?_ | refine S7 h rfl ?_ rfl ?_ | refine S8 h rfl ?_ rfl ?_
   ·first | exact Nat.lt_of_ble_eq_true rfl | (simp; done) | (simp; omega)
   clear h
   intro w h
   try simp only [N1,N2,N3,N4,N5,N6,N7] at h
   replace h:=P5 h
   replace h:=P1 h
   replace h:=P5 h
   replace h:=P5 h
   replace h:=P5 h
   replace h:=D5 h
   try simp only [N1,N2,N3,N4,N5,N6,N7] at h
   refine r_endR h fun w h=>?_
   have e:({ ({ r with state:=.busy }:Loop) with state:=.ready,pending:=none }:Loop) = r:=by
    cases r
    simp only at hr1 hr2
    simp only [hr1,hr2]
   rw [e] at h
   refine ⟨o',?_⟩
   have e2:ss.map strV++[strV p.1] = (ss++[p.1]).map strV:=by simp
   rw [e2] at h
   exact h
  ·obtain ⟨rfl,o',h⟩:=hv
   refine ⟨true,rfl,?_⟩
   refine zLZ rfl ?_
   have hcnt2:=zNp (h.pick 4 at4)
   refine ⟨⟨o',_,_,_,?_,h⟩,?_⟩
   ·refine List.Perm.trans ?_ hperm
    rw [hl1]
    simp only [List.map_append,List.map_cons,List.append_assoc]
    refine List.Perm.append_left _ ?_
    show (p.1::(l1.map Prod.fst++l2.map Prod.fst)).Perm _
    exact List.perm_middle.symm
   ·rw [hcnt,hcnt2,hl1]
    simp
theorem zJ2 {mb:Nat} {m:List (List UInt8×β)} {k:Sl→K} (hm:m.length ≤ 1000000) (h:Holds B (MapR strV cV mb m::Γ) w)
  (hk:∀ s w,Holds B (SlS s (sortL (m.map Prod.fst))::MapR strV cV mb m::Γ) w→k s w) :
  zAv.call (some mb) (fun t7=>zCp.call t7 k) w:=by
 refine zDi _ _ _ ?_
 unfold zAv
 refine r_new h ?_
 clear h
 intro m1 w h
 try simp only [add_mk,Nat.zero_add,Nat.reduceAdd]
 refine zGk _ _ _ ?_
 unfold zCp
 refine zIM hm h fun s ss w hp h=>?_
 have hl:=hp.length_eq
 rw [List.length_map] at hl
 refine zGh (by omega) h fun w h=>?_
 rw [zPw hp] at h
 exact hk _ _ h
end
end Go.Proofs.YtdemfamgieonbaaGreat
namespace Go.Proofs.YtdemfamgieonbaaGreat
open Go Go.Sep
set_option maxRecDepth 100000
set_option maxHeartbeats 4000000
attribute [local irreducible] G Gp Cx Tx Ex Sx Dx Ox Ax Lx Rx Fx Bx Bj Al Do Ld LdN St StN New CallF Ar DoU Rd Rd2 Pu Cd Ite Fv CallV CallY Ans0 Ans1 Ans2 Ans3 Ans4 Ans5 Ext Dead Dr WithS Sv LdS LdNS RdS Rd2S Nn Idx IdxA IdxS Fld Bld Slc SlcS Cat All LoopK RangeF RangeJ TakeD
namespace F_IREval
instance at_123:AT Tryz.prog 123 4:=⟨by kernel_rfl⟩
instance at_173:AT Tryz.prog 173 5:=⟨by kernel_rfl⟩
instance at_25:AT Tryz.prog 25 5:=⟨by kernel_rfl⟩
instance at_51:AT Tryz.prog 51 2:=⟨by kernel_rfl⟩
instance at_87:AT Tryz.prog 87 4:=⟨by kernel_rfl⟩
instance cb_108:CB Tryz.prog 108:=⟨by kernel_rfl⟩
instance cb_110:CB Tryz.prog 110:=⟨by kernel_rfl⟩
instance cb_193:CB Tryz.prog 193:=⟨by kernel_rfl⟩
instance cb_194:CB Tryz.prog 194:=⟨by kernel_rfl⟩
instance cb_195:CB Tryz.prog 195:=⟨by kernel_rfl⟩
instance cb_196:CB Tryz.prog 196:=⟨by kernel_rfl⟩
instance cb_197:CB Tryz.prog 197:=⟨by kernel_rfl⟩
instance cb_198:CB Tryz.prog 198:=⟨by kernel_rfl⟩
instance cb_199:CB Tryz.prog 199:=⟨by kernel_rfl⟩
instance cb_223:CB Tryz.prog 223:=⟨by kernel_rfl⟩
instance cb_224:CB Tryz.prog 224:=⟨by kernel_rfl⟩
instance cb_225:CB Tryz.prog 225:=⟨by kernel_rfl⟩
instance cb_226:CB Tryz.prog 226:=⟨by kernel_rfl⟩
instance cb_239:CB Tryz.prog 239:=⟨by kernel_rfl⟩
instance cb_240:CB Tryz.prog 240:=⟨by kernel_rfl⟩
instance ct_127:CT Tryz.prog 127:=⟨by kernel_rfl⟩
instance ct_2:CT Tryz.prog 2:=⟨by kernel_rfl⟩
instance ct_22:CT Tryz.prog 22:=⟨by kernel_rfl⟩
instance ct_23:CT Tryz.prog 23:=⟨by kernel_rfl⟩
instance ct_3:CT Tryz.prog 3:=⟨by kernel_rfl⟩
instance ct_319:CT Tryz.prog 319:=⟨by kernel_rfl⟩
instance ct_33:CT Tryz.prog 33:=⟨by kernel_rfl⟩
instance ct_4:CT Tryz.prog 4:=⟨by kernel_rfl⟩
instance ct_49:CT Tryz.prog 49:=⟨by kernel_rfl⟩
instance ct_5:CT Tryz.prog 5:=⟨by kernel_rfl⟩
instance ct_85:CT Tryz.prog 85:=⟨by kernel_rfl⟩
instance ct_9:CT Tryz.prog 9:=⟨by kernel_rfl⟩
instance zVW:FC Tryz.prog 87 3 3:=⟨by kernel_rfl⟩
instance zIB:FT Tryz.prog 123 0 0 1:=⟨by kernel_rfl⟩
instance zIC:FT Tryz.prog 123 1 1 1:=⟨by kernel_rfl⟩
instance zID:FT Tryz.prog 123 2 2 1:=⟨by kernel_rfl⟩
instance zIE:FT Tryz.prog 123 3 3 1:=⟨by kernel_rfl⟩
instance zOI:FT Tryz.prog 173 0 0 1:=⟨by kernel_rfl⟩
instance zOJ:FT Tryz.prog 173 1 1 4:=⟨by kernel_rfl⟩
instance zGR:FT Tryz.prog 25 0 0 1:=⟨by kernel_rfl⟩
instance zHK:FT Tryz.prog 25 2 2 1:=⟨by kernel_rfl⟩
instance zJi:FT Tryz.prog 25 3 3 1:=⟨by kernel_rfl⟩
instance zJj:FT Tryz.prog 25 4 4 1:=⟨by kernel_rfl⟩
instance zVC:FT Tryz.prog 321 0 0 1:=⟨by kernel_rfl⟩
instance zVD:FT Tryz.prog 321 1 1 1:=⟨by kernel_rfl⟩
instance zVE:FT Tryz.prog 321 2 2 1:=⟨by kernel_rfl⟩
instance zLq:FT Tryz.prog 87 0 0 1:=⟨by kernel_rfl⟩
instance zLr:FT Tryz.prog 87 1 1 1:=⟨by kernel_rfl⟩
instance zLs:FT Tryz.prog 87 2 2 1:=⟨by kernel_rfl⟩
instance zLt:FT Tryz.prog 87 3 3 1:=⟨by kernel_rfl⟩
instance in_2:INT Tryz.prog 2 .i64:=⟨by kernel_rfl⟩
instance in_33:INT Tryz.prog 33 .u64:=⟨by kernel_rfl⟩
instance in_5:INT Tryz.prog 5 .u8:=⟨by kernel_rfl⟩
instance mx:MX Tryz.prog:=⟨mixed⟩
instance pl_173:PLT Tryz.prog 173 [(0,1),(1,4)]:=⟨_,Tryz.underlying173,by kernel_rfl⟩
instance pl_180:PLT Tryz.prog 180 [(0,1),(1,1)]:=⟨_,Tryz.underlying180,by kernel_rfl⟩
instance pl_321:PLT Tryz.prog 321 [(0,1),(1,1),(2,1)]:=⟨_,Tryz.underlying321,by kernel_rfl⟩
instance pl_51:PLT Tryz.prog 51 [(0,1),(1,1)]:=⟨_,Tryz.underlying51,by kernel_rfl⟩
instance sl_22:SLT Tryz.prog 22 9 1:=⟨by kernel_rfl⟩
instance sl_23:SLT Tryz.prog 23 123 4:=⟨by kernel_rfl⟩
instance sl_49:SLT Tryz.prog 49 180 2:=⟨by kernel_rfl⟩
instance sl_56:SLT Tryz.prog 56 173 5:=⟨by kernel_rfl⟩
instance sl_85:SLT Tryz.prog 85 5 1:=⟨by kernel_rfl⟩
instance sz_123:SZ Tryz.prog 123 4:=⟨by kernel_rfl⟩
instance sz_173:SZ Tryz.prog 173 5:=⟨by kernel_rfl⟩
instance sz_3:SZ Tryz.prog 3 1:=⟨by kernel_rfl⟩
instance sz_33:SZ Tryz.prog 33 1:=⟨by kernel_rfl⟩
instance sz_4:SZ Tryz.prog 4 1:=⟨by kernel_rfl⟩
instance sz_49:SZ Tryz.prog 49 1:=⟨by kernel_rfl⟩
instance sz_5:SZ Tryz.prog 5 1:=⟨by kernel_rfl⟩
instance sz_51:SZ Tryz.prog 51 2:=⟨by kernel_rfl⟩
instance sz_85:SZ Tryz.prog 85 1:=⟨by kernel_rfl⟩
instance sz_87:SZ Tryz.prog 87 4:=⟨by kernel_rfl⟩
instance zt_123:ZT Tryz.prog 123 (.agg #[(.int .i64 0),(.string ⟨#[]⟩),(Sl.val ⟨none,0,0⟩),(.int .i64 0)]):=⟨Tryz.t123,by kernel_rfl,by kernel_rfl⟩
instance zt_173:ZT Tryz.prog 173 (.agg #[(.string ⟨#[]⟩),(.bool false),(Sl.val ⟨none,0,0⟩),(.int .i64 0),(.int .u64 0)]):=⟨Tryz.t173,by kernel_rfl,by kernel_rfl⟩
instance zt_180:ZT Tryz.prog 180 (.agg #[(.bool false),(Sl.val ⟨none,0,0⟩)]):=⟨Tryz.t180,by kernel_rfl,by kernel_rfl⟩
instance zt_321:ZT Tryz.prog 321 (.agg #[(.pointer none),(.map none),(Sl.val ⟨none,0,0⟩)]):=⟨Tryz.t321,by kernel_rfl,by kernel_rfl⟩
instance zt_51:ZT Tryz.prog 51 (.agg #[(.int .i64 0),(Sl.val ⟨none,0,0⟩)]):=⟨Tryz.t51,by kernel_rfl,by kernel_rfl⟩
instance zt_87:ZT Tryz.prog 87 (.agg #[(.bool false),(Sl.val ⟨none,0,0⟩),(.int .i64 0),(.int .u64 0)]):=⟨Tryz.t87,by kernel_rfl,by kernel_rfl⟩
end F_IREval
def zBq.b2 (Q:(Array Value)→Sl→K)  (X2:Sl→Int→K) (t4_2:Addr) (r6_2:Addr) (t45_2:Sl) (t46_2:Int) (rows10_2:Sl) (t47_2:Int):K :=
 Ite (decide (t47_2 < t46_2))
  (Idx t45_2 t47_2 1 fun t49 =>
  Ld t49 Value.string fun t50 =>
  Ld (r6_2.add 1) Value.map fun t56 =>
  Rd Tryz.prog (Instr.lookup 319 (.map t56) (.string t50) false) Value.agg fun t58 =>
  Bld #[(.string ⟨#[]⟩),(.bool false),(Sl.val ⟨none,0,0⟩),(.int .i64 0),(.int .u64 0)] ([(0,1),(1,4)][·]?) [(0,(.string t50)),(1,(.agg t58))] fun t59 =>
  Bld #[(.string ⟨#[]⟩),(.bool false),(Sl.val ⟨none,0,0⟩),(.int .i64 0),(.int .u64 0)] (fun i=>some (i * 5,5)) [(0,(.agg t59))] fun ct60 =>
  New 173 ct60 fun t60 =>
  Do Tryz.prog (Builtin.append_ #[56,56] 56 #[(Sl.val rows10_2),(Sl.val (Sl.mk (some t60) 1 1))]) Sl.val fun t61 =>
  Ar (IntKind.wrap .i64 (t47_2 + 1)) fun t62 =>
  X2 t61 t62)
  (Ld (r6_2.add 2) Sl.val fun t66 =>
  StN t4_2 2 #[(.int .i64 0),(Sl.val t66)] <|
  LdN t4_2 2 fun r0 =>
  Q r0 rows10_2)
def zBq.s1 (Q:(Array Value)→Sl→K)  (t4_1:Addr) (r6_1:Addr) (code7_1:Int):K :=
 Ite (decide (code7_1 ≠ 0))
  (StN t4_1 2 #[(.int .i64 code7_1),(Sl.val ⟨none,0,0⟩)] <|
  LdN t4_1 2 fun r0 =>
  Q r0 (Sl.mk none 0 0))
  (Ld (r6_1.add 1) Value.map fun t43 =>
  zAv.call t43 fun t44 =>
  zCp.call t44 fun t45 =>
  LoopK (α:=Sl×Int) (fun X x=>zBq.b2 Q (fun rows10_2 t47_2=>X (rows10_2,t47_2)) t4_1 r6_1 t45 (t45.n:Int) x.1 x.2) ((Sl.mk none 0 0),0))
def zBq.b3 (Q:(Array Value)→Sl→K)  (X3:Int→Int→K) (t4_3:Addr) (r6_3:Addr) (t24_3:Sl) (t25_3:Int) (code7_3:Int) (t26_3:Int):K :=
 Ite (decide (t26_3 < t25_3))
  (Idx t24_3 t26_3 4 fun t28 =>
  LdN t28 4 fun t29 =>
  New 123 #[(.int .i64 0),(.string ⟨#[]⟩),(Sl.val ⟨none,0,0⟩),(.int .i64 0)] fun o9 =>
  StN o9 4 t29 <|
  LdN o9 4 fun t31 =>
  zAi.call (some r6_3) t31 fun t32 =>
  Ite (decide (t32 ≠ 0))
   (zBq.s1 Q t4_3 r6_3 t32)
   (Ar (IntKind.wrap .i64 (t26_3 + 1)) fun t35 =>
   X3 t32 t35))
  (zBq.s1 Q t4_3 r6_3 code7_3)
def zBq (s0:(Option Addr)) (t1:(Array Value)) (Q:(Array Value)→Sl→K):K :=
 New 25 t1 fun t3 =>
 New 51 #[(.int .i64 0),(Sl.val ⟨none,0,0⟩)] fun t4 =>
 Do Tryz.prog (Instr.makeMap 319 none) Value.map fun t14 =>
 New 321 #[(.pointer s0),(.map t14),(Sl.val ⟨none,0,0⟩)] fun t16 =>
 Ld t3 (Value.int .i64) fun t18 =>
 Ite (decide (t18 = 2))
  (LdN t3 5 fun t21 =>
  zCj.call (some t16) t21 fun t22 =>
  zBq.s1 Q t4 t16 t22)
  (Ld (t3.add 3) Sl.val fun t24 =>
  LoopK (α:=Int×Int) (fun X x=>zBq.b3 Q (fun code7_3 t26_3=>X (code7_3,t26_3)) t4 t16 t24 (t24.n:Int) x.1 x.2) (0,0))
theorem zOm (s0:(Option Addr)) (t1:(Array Value)) (Q:(Array Value)→Sl→K) (w:World) (h:zBq s0 t1 Q w):zBq.call s0 t1 Q w:=by
 have hL14:∀ (t4_2:Addr) (r6_2:Addr) (t45_2:Sl) (t46_2:Int),LH 14 (fun x:Sl×Int=>[(4,(.pointer (some t4_2))),(6,(.pointer (some r6_2))),(10,(Sl.val x.1)),(45,(Sl.val t45_2)),(46,(.int .i64 t46_2)),(47,(.int .i64 x.2))]) (fun X x=>zBq.b2 Q (fun rows10_2 t47_2=>X (rows10_2,t47_2)) t4_2 r6_2 t45_2 t46_2 x.1 x.2):=by intros; exact ⟨⟩
 have hJ10:JH 10 fun D=>∃ (t4_1:Addr) (r6_1:Addr),D [(4,(.pointer (some t4_1))),(6,(.pointer (some r6_1)))] (fun C=>∀ (code7_1:Int),C [(4,(.pointer (some t4_1))),(6,(.pointer (some r6_1))),(7,(.int .i64 code7_1))] (zBq.s1 Q t4_1 r6_1 code7_1)):=by intros; exact ⟨fun _ ⟨_,_,h⟩=>⟨_,_,h⟩⟩
 have hL5:∀ (t4_3:Addr) (r6_3:Addr) (t24_3:Sl) (t25_3:Int),LH 5 (fun x:Int×Int=>[(4,(.pointer (some t4_3))),(6,(.pointer (some r6_3))),(7,(.int .i64 x.1)),(24,(Sl.val t24_3)),(25,(.int .i64 t25_3)),(26,(.int .i64 x.2))]) (fun X x=>zBq.b3 Q (fun code7_3 t26_3=>X (code7_3,t26_3)) t4_3 r6_3 t24_3 t25_3 x.1 x.2):=by intros; exact ⟨⟩
 exact g_walk 69 h Tryz.func157
def zBX.s2 (Q:K) (X1:Int→K) (s0_2:(Option Addr)) (t6_2:Sl) (t7_2:Int) (t8_2:Int):K :=
 Ar (IntKind.wrap .i64 (t8_2 + 1)) fun t42 =>
 X1 t42
def zBX.s3 (Q:K) (X1:Int→K) (s0_3:(Option Addr)) (w5_3:Addr) (t6_3:Sl) (t7_3:Int) (t8_3:Int):K :=
 Ld (w5_3.add 1) Value.bool fun t30 =>
 Ite t30
  (Ld w5_3 Value.string fun t33 =>
  Ld ((w5_3.add 1).add 1) Sl.val fun t36 =>
  zDg.call s0_3 t33 t36 <|
  zBX.s2 Q X1 s0_3 t6_3 t7_3 t8_3)
  (Ld w5_3 Value.string fun t40 =>
  zC6.call s0_3 t40 <|
  zBX.s2 Q X1 s0_3 t6_3 t7_3 t8_3)
def zBX.b1 (Q:K)  (X1:Int→K) (s0_1:(Option Addr)) (t6_1:Sl) (t7_1:Int) (t8_1:Int):K :=
 Ite (decide (t8_1 < t7_1))
  (Idx t6_1 t8_1 5 fun t10 =>
  LdN t10 5 fun t11 =>
  New 173 #[(.string ⟨#[]⟩),(.bool false),(Sl.val ⟨none,0,0⟩),(.int .i64 0),(.int .u64 0)] fun w5 =>
  StN w5 5 t11 <|
  Dr <| WithS fun S =>
  LdS S w5 Value.string fun t14 =>
  LdS S ((w5.add 1).add 3) (Value.int .u64) fun t19 =>
  zA7.call s0_1 t14 fun t15 =>
  Sv S <|
  Fld t15 3 (Value.int .u64) fun t16 =>
  Ite (decide (t16 ≠ t19))
   (Ld w5 Value.string fun t23 =>
   Ld ((w5.add 1).add 2) (Value.int .i64) fun t26 =>
   zBe.call s0_1 t23 t26 fun t27 =>
   zBX.s3 Q X1 s0_1 w5 t6_1 t7_1 t8_1)
   (zBX.s3 Q X1 s0_1 w5 t6_1 t7_1 t8_1))
  (Q)
def zBX (s0:(Option Addr)) (writes1:Sl) (Q:K):K :=
 LoopK (α:=Int) (fun X x=>zBX.b1 Q X s0 writes1 (writes1.n:Int) x) 0
theorem zNA (s0:(Option Addr)) (writes1:Sl) (Q:K) (w:World) (h:zBX s0 writes1 Q w):zBX.call s0 writes1 Q w:=by
 have hJ8:∀ (X1:Int→K),XH 1 X1→JH 8 fun D=>∃ (s0_2:(Option Addr)) (t6_2:Sl) (t7_2:Int) (t8_2:Int),D [(0,(.pointer s0_2)),(6,(Sl.val t6_2)),(7,(.int .i64 t7_2)),(8,(.int .i64 t8_2))] (fun C=>C [(0,(.pointer s0_2)),(6,(Sl.val t6_2)),(7,(.int .i64 t7_2)),(8,(.int .i64 t8_2))] (zBX.s2 Q X1 s0_2 t6_2 t7_2 t8_2)):=by intros; exact ⟨fun _ ⟨_,_,_,_,h⟩=>⟨_,_,h⟩⟩
 have hJ5:∀ (X1:Int→K),XH 1 X1→JH 5 fun D=>∃ (s0_3:(Option Addr)) (w5_3:Addr) (t6_3:Sl) (t7_3:Int) (t8_3:Int),D [(0,(.pointer s0_3)),(5,(.pointer (some w5_3))),(6,(Sl.val t6_3)),(7,(.int .i64 t7_3)),(8,(.int .i64 t8_3))] (fun C=>C [(0,(.pointer s0_3)),(5,(.pointer (some w5_3))),(6,(Sl.val t6_3)),(7,(.int .i64 t7_3)),(8,(.int .i64 t8_3))] (zBX.s3 Q X1 s0_3 w5_3 t6_3 t7_3 t8_3)):=by intros; exact ⟨fun _ ⟨_,_,_,_,_,h⟩=>⟨_,_,h⟩⟩
 have hD3:DH 3 2 [] (.s [0,1,5,6,2,7] (.a [(3,1,.s [4,8] .e)])):=by intros; exact ⟨⟩
 have hL1:∀ (s0_1:(Option Addr)) (t6_1:Sl) (t7_1:Int),LH 1 (fun x:Int=>[(0,(.pointer s0_1)),(6,(Sl.val t6_1)),(7,(.int .i64 t7_1)),(8,(.int .i64 x))]) (fun X x=>zBX.b1 Q X s0_1 t6_1 t7_1 x):=by intros; exact ⟨⟩
 exact g_walk 43 h Tryz.func158
def zCj.b1 (Q:Int→K)  (X1:Int→K) (r0_1:(Option Addr)) (t3_1:Addr) (t9_1:Sl) (t10_1:Int) (t11_1:Int):K :=
 Ite (decide (t11_1 < t10_1))
  (Idx t9_1 t11_1 1 fun t13 =>
  Ld t13 Value.string fun t14 =>
  zDD.call r0_1 t14 fun t17 =>
  New 87 #[(.bool false),(Sl.val ⟨none,0,0⟩),(.int .i64 0),(.int .u64 0)] fun x7 =>
  StN x7 4 t17 <|
  Ld (x7.add 3) (Value.int .u64) fun t19 =>
  Ite (decide (t19 = 18446744073709551615))
   (Q 111)
   (Ld (t3_1.add 4) (Value.int .i64) fun t22 =>
   St (x7.add 2) (.int .i64 t22) <|
   Ld (x7.add 3) (Value.int .u64) fun t25 =>
   Ar (IntKind.wrap .u64 (t25 + 1)) fun t26 =>
   St (x7.add 3) (.int .u64 t26) <|
   Dr <|
   Nn r0_1 fun t29 =>
   Ld (t29.add 1) Value.map fun t31 =>
   LdN x7 4 fun t33 =>
   DoU Tryz.prog (Instr.mapUpdate 319 (.map t31) (.string t14) (.agg t33)) <|
   Ar (IntKind.wrap .i64 (t11_1 + 1)) fun t34 =>
   X1 t34))
  (Q 0)
def zCj (r0:(Option Addr)) (t1:(Array Value)) (Q:Int→K):K :=
 New 25 t1 fun t3 =>
 Ld (t3.add 2) Sl.val fun t9 =>
 LoopK (α:=Int) (fun X x=>zCj.b1 Q X r0 t3 t9 (t9.n:Int) x) 0
theorem zKc (r0:(Option Addr)) (t1:(Array Value)) (Q:Int→K) (w:World) (h:zCj r0 t1 Q w):zCj.call r0 t1 Q w:=by
 have hD9:DH 9 1 [6] (.s [0,1,2,4,3,5] (.a [(6,0,.e)])):=by intros; exact ⟨⟩
 have hL2:∀ (r0_1:(Option Addr)) (t3_1:Addr) (t9_1:Sl) (t10_1:Int),LH 2 (fun x:Int=>[(0,(.pointer r0_1)),(3,(.pointer (some t3_1))),(9,(Sl.val t9_1)),(10,(.int .i64 t10_1)),(11,(.int .i64 x))]) (fun X x=>zCj.b1 Q X r0_1 t3_1 t9_1 t10_1 x):=by intros; exact ⟨⟩
 exact g_walk 35 h Tryz.func193
def zAi.s1 (Q:Int→K)  :K :=
 Q 0
def zAi.s2 (Q:Int→K)  (t70_2:Bool):K :=
 Ite t70_2
  (Q 110)
  (zAi.s1 Q)
def zAi (r0:(Option Addr)) (o1:(Array Value)) (Q:Int→K):K :=
 New 123 o1 fun o3 =>
 Ld (o3.add 1) Value.string fun t8 =>
 zDD.call r0 t8 fun t9 =>
 New 87 #[(.bool false),(Sl.val ⟨none,0,0⟩),(.int .i64 0),(.int .u64 0)] fun x5 =>
 StN x5 4 t9 <|
 Ld o3 (Value.int .i64) fun t11 =>
 Ite (decide (t11 = 1))
  (Dr <| WithS fun S =>
  Nn r0 fun t16 =>
  LdS S (t16.add 2) Sl.val fun t18 =>
  LdS S x5 Value.bool fun t20 =>
  LdS S (x5.add 1) Sl.val fun t22 =>
  zBS.call t22 fun t23 =>
  Sv S <|
  Bld #[(.bool false),(Sl.val ⟨none,0,0⟩)] (fun i=>some (i * 2,2)) [(0,(.agg #[(.bool t20),(Sl.val t23)]))] fun ct25 =>
  New 180 ct25 fun t25 =>
  Sv S <|
  Do Tryz.prog (Builtin.append_ #[49,49] 49 #[(Sl.val t18),(Sl.val (Sl.mk (some t25) 1 1))]) Sl.val fun t26 =>
  St (t16.add 2) (Sl.val t26) <|
  zAi.s1 Q)
  (Ite (decide (t11 = 7))
   (Dr <| WithS fun S =>
   Nn r0 fun t33 =>
   LdS S (t33.add 2) Sl.val fun t35 =>
   LdS S (o3.add 2) Sl.val fun t37 =>
   zBS.call t37 fun t38 =>
   Sv S <|
   Bld #[(.bool false),(Sl.val ⟨none,0,0⟩)] (fun i=>some (i * 2,2)) [(0,(.agg #[(.bool true),(Sl.val t38)]))] fun ct40 =>
   New 180 ct40 fun t40 =>
   Sv S <|
   Do Tryz.prog (Builtin.append_ #[49,49] 49 #[(Sl.val t35),(Sl.val (Sl.mk (some t40) 1 1))]) Sl.val fun t41 =>
   St (t33.add 2) (Sl.val t41) <|
   zAi.s1 Q)
   (Ite (decide (t11 = 2))
    (Ld (o3.add 1) Value.string fun t48 =>
    Ld (o3.add 2) Sl.val fun t50 =>
    zCy.call r0 t48 true t50 <|
    zAi.s1 Q)
    (Ite (decide (t11 = 3))
     (Ld (o3.add 1) Value.string fun t56 =>
     zCy.call r0 t56 false (Sl.mk none 0 0) <|
     zAi.s1 Q)
     (Ite (decide (t11 = 4))
      (Ld x5 Value.bool fun t61 =>
      Ite (!t61)
       (zAi.s2 Q true)
       (Ld (x5.add 1) Sl.val fun t65 =>
       Ld (o3.add 2) Sl.val fun t67 =>
       bytes_Equal.call t65 t67 fun t68 =>
       zAi.s2 Q (!t68)))
      (Ite (decide (t11 = 5))
       (Ld x5 Value.bool fun t74 =>
       Ite t74
        (Q 110)
        (zAi.s1 Q))
       (Ite (decide (t11 = 6))
        (LdN o3 4 fun t78 =>
        zA8.call r0 t78 fun t79 =>
        Q t79)
        (zAi.s1 Q)))))))
theorem zKd (r0:(Option Addr)) (o1:(Array Value)) (Q:Int→K) (w:World) (h:zAi r0 o1 Q w):zAi.call r0 o1 Q w:=by
 have hJ19:JH 19 fun D=>D [] (fun C=>C [] (zAi.s1 Q)):=by intros; exact ⟨fun _ h=>⟨_,_,h⟩⟩
 have hD4:DH 4 2 [12,15] (.s [0,1,2,3,5,7,4,6,8] (.a [(9,1,.s [10] (.a [(11,1,.a [(12,0,.s [13,14] (.a [(15,0,.e)]))])]))])):=by intros; exact ⟨⟩
 have hD6:DH 6 2 [10,13] (.s [0,1,2,3,5,4,6] (.a [(7,1,.s [8] (.a [(9,1,.a [(10,0,.s [11,12] (.a [(13,0,.e)]))])]))])):=by intros; exact ⟨⟩
 have hJ13:JH 13 fun D=>D [] (fun C=>∀ (t70_2:Bool),C [(70,(.bool t70_2))] (zAi.s2 Q t70_2)):=by intros; exact ⟨fun _ h=>⟨_,_,h⟩⟩
 exact g_walk 80 h Tryz.func194
def zDD (r0:(Option Addr)) (key1:ByteArray) (Q:(Array Value)→K):K :=
 New 87 #[(.bool false),(Sl.val ⟨none,0,0⟩),(.int .i64 0),(.int .u64 0)] fun t4 =>
 Nn r0 fun t9 =>
 Ld (t9.add 1) Value.map fun t11 =>
 Rd2 Tryz.prog (Instr.lookup 319 (.map t11) (.string key1) true) (fun x y=>.tuple #[Value.agg x,.bool y]) fun t13v t13ok =>
 New 87 #[(.bool false),(Sl.val ⟨none,0,0⟩),(.int .i64 0),(.int .u64 0)] fun x5 =>
 StN x5 4 t13v <|
 Ite t13ok
  (LdN x5 4 fun t17 =>
  StN t4 4 t17 <|
  LdN t4 4 fun r0 =>
  Q r0)
  (Ld t9 Value.pointer fun t21 =>
  zA7.call t21 key1 fun t23 =>
  StN t4 4 t23 <|
  LdN t4 4 fun r0 =>
  Q r0)
theorem zLI (r0:(Option Addr)) (key1:ByteArray) (Q:(Array Value)→K) (w:World) (h:zDD r0 key1 Q w):zDD.call r0 key1 Q w:=by
 exact g_walk 24 h Tryz.func223
def zCy (r0:(Option Addr)) (key1:ByteArray) (has2:Bool) (value3:Sl) (Q:K):K :=
 zDD.call r0 key1 fun t11 =>
 New 87 #[(.bool false),(Sl.val ⟨none,0,0⟩),(.int .i64 0),(.int .u64 0)] fun x8 =>
 StN x8 4 t11 <|
 zBS.call value3 fun t14 =>
 St x8 (.bool has2) <|
 St (x8.add 1) (Sl.val t14) <|
 Dr <|
 Nn r0 fun t18 =>
 Ld (t18.add 1) Value.map fun t20 =>
 LdN x8 4 fun t22 =>
 DoU Tryz.prog (Instr.mapUpdate 319 (.map t20) (.string key1) (.agg t22)) <|
 Q
theorem zLJ (r0:(Option Addr)) (key1:ByteArray) (has2:Bool) (value3:Sl) (Q:K) (w:World) (h:zCy r0 key1 has2 value3 Q w):zCy.call r0 key1 has2 value3 Q w:=by
 have hD2:DH 2 1 [6] (.s [0,1,2,4,3,5] (.a [(6,0,.e)])):=by intros; exact ⟨⟩
 exact g_walk 23 h Tryz.func224
def zA8.s2 (Q:Int→K)  (r0_2:(Option Addr)) (o3_2:Addr) (n6_2:Int) (t43_2:Bool):K :=
 Ite t43_2
  (Q 111)
  (Dr <| WithS fun S =>
  LdS S (o3_2.add 1) Value.string fun t46 =>
  LdS S (o3_2.add 3) (Value.int .i64) fun t49 =>
  Ar (IntKind.wrap .i64 (n6_2 + t49)) fun t50 =>
  zDZ.call t50 fun t51 =>
  Sv S <|
  zCy.call r0_2 t46 true t51 <|
  Q 0)
def zA8.s1 (Q:Int→K)  (r0_1:(Option Addr)) (o3_1:Addr) (n6_1:Int):K :=
 Ld (o3_1.add 3) (Value.int .i64) fun t23 =>
 Ite (decide ((0:Int) < t23))
  (Ld (o3_1.add 3) (Value.int .i64) fun t28 =>
  Ar (IntKind.wrap .i64 (9223372036854775807 - t28)) fun t29 =>
  Ite (decide (t29 < n6_1))
   (zA8.s2 Q r0_1 o3_1 n6_1 true)
   (Ld (o3_1.add 3) (Value.int .i64) fun t34 =>
   Ite (decide (t34 < 0))
    (Ld (o3_1.add 3) (Value.int .i64) fun t39 =>
    Ar (IntKind.wrap .i64 ((-9223372036854775808) - t39)) fun t40 =>
    zA8.s2 Q r0_1 o3_1 n6_1 (decide (n6_1 < t40)))
    (zA8.s2 Q r0_1 o3_1 n6_1 false)))
  (Ld (o3_1.add 3) (Value.int .i64) fun t34 =>
  Ite (decide (t34 < 0))
   (Ld (o3_1.add 3) (Value.int .i64) fun t39 =>
   Ar (IntKind.wrap .i64 ((-9223372036854775808) - t39)) fun t40 =>
   zA8.s2 Q r0_1 o3_1 n6_1 (decide (n6_1 < t40)))
   (zA8.s2 Q r0_1 o3_1 n6_1 false))
def zA8 (r0:(Option Addr)) (o1:(Array Value)) (Q:Int→K):K :=
 New 123 o1 fun o3 =>
 Ld (o3.add 1) Value.string fun t10 =>
 zDD.call r0 t10 fun t11 =>
 New 87 #[(.bool false),(Sl.val ⟨none,0,0⟩),(.int .i64 0),(.int .u64 0)] fun x5 =>
 StN x5 4 t11 <|
 Ld x5 Value.bool fun t13 =>
 Ite t13
  (Ld (x5.add 1) Sl.val fun t16 =>
  zCz.call t16 fun t17x0 t17x1 =>
  Ite (!t17x1)
   (Q 110)
   (zA8.s1 Q r0 o3 t17x0))
  (zA8.s1 Q r0 o3 0)
theorem zLK (r0:(Option Addr)) (o1:(Array Value)) (Q:Int→K) (w:World) (h:zA8 r0 o1 Q w):zA8.call r0 o1 Q w:=by
 have hD9:DH 9 2 [8] (.s [0,1,3,4,2,5,6] (.a [(7,1,.a [(8,0,.e)])])):=by intros; exact ⟨⟩
 have hJ8:JH 8 fun D=>∃ (r0_2:(Option Addr)) (o3_2:Addr) (n6_2:Int),D [(0,(.pointer r0_2)),(3,(.pointer (some o3_2))),(6,(.int .i64 n6_2))] (fun C=>∀ (t43_2:Bool),C [(0,(.pointer r0_2)),(3,(.pointer (some o3_2))),(6,(.int .i64 n6_2)),(43,(.bool t43_2))] (zA8.s2 Q r0_2 o3_2 n6_2 t43_2)):=by intros; exact ⟨fun _ ⟨_,_,_,h⟩=>⟨_,_,h⟩⟩
 have hJ7:JH 7 fun D=>∃ (r0_1:(Option Addr)) (o3_1:Addr),D [(0,(.pointer r0_1)),(3,(.pointer (some o3_1)))] (fun C=>∀ (n6_1:Int),C [(0,(.pointer r0_1)),(3,(.pointer (some o3_1))),(6,(.int .i64 n6_1))] (zA8.s1 Q r0_1 o3_1 n6_1)):=by intros; exact ⟨fun _ ⟨_,_,h⟩=>⟨_,_,h⟩⟩
 exact g_walk 53 h Tryz.func226
def zCz.b1 (Q:Int→Bool→K)  (X1:Int→Int→K) (t10_1:Sl) (t11_1:Int) (n4_1:Int) (t12_1:Int):K :=
 Ite (decide (t12_1 < t11_1))
  (Idx t10_1 t12_1 1 fun t14 =>
  Ld t14 (Value.int .u8) fun t15 =>
  Cd (0 ≤ (8:Int)) <|
  Ar (shlOf .u64 n4_1 8) fun t17 =>
  Ar (IntKind.wrap .u64 t15) fun t19 =>
  Ar (bitsOf .or .u64 t17 t19) fun t20 =>
  Ar (IntKind.wrap .i64 (t12_1 + 1)) fun t21 =>
  X1 t20 t21)
  (Ar (IntKind.wrap .i64 n4_1) fun t23 =>
  Q t23 true)
def zCz (value0:Sl) (Q:Int→Bool→K):K :=
 Ite (decide ((value0.n:Int) ≠ 8))
  (Q 0 false)
  (LoopK (α:=Int×Int) (fun X x=>zCz.b1 Q (fun n4_1 t12_1=>X (n4_1,t12_1)) value0 (value0.n:Int) x.1 x.2) (0,0))
theorem zL9 (value0:Sl) (Q:Int→Bool→K) (w:World) (h:zCz value0 Q w):zCz.call value0 Q w:=by
 have hL5:∀ (t10_1:Sl) (t11_1:Int),LH 5 (fun x:Int×Int=>[(4,(.int .u64 x.1)),(10,(Sl.val t10_1)),(11,(.int .i64 t11_1)),(12,(.int .i64 x.2))]) (fun X x=>zCz.b1 Q (fun n4_1 t12_1=>X (n4_1,t12_1)) t10_1 t11_1 x.1 x.2):=by intros; exact ⟨⟩
 exact g_walk 24 h Tryz.func239
def zDZ.b1 (Q:Sl→K)  (X1:Int→K) (n0_1:Int) (out3_1:Sl) (t7_1:Int) (t8_1:Int):K :=
 Ite (decide (t8_1 < t7_1))
  (Ar (IntKind.wrap .i64 (7 - t8_1)) fun t13 =>
  Ar (IntKind.wrap .u64 n0_1) fun t15 =>
  Ar (IntKind.wrap .i64 (8 * t8_1)) fun t17 =>
  Cd (0 ≤ t17) <|
  Ar (shrOf .u64 t15 t17) fun t18 =>
  Ar (IntKind.wrap .u8 t18) fun t19 =>
  Idx out3_1 t13 1 fun t20 =>
  St t20 (.int .u8 t19) <|
  Ar (IntKind.wrap .i64 (t8_1 + 1)) fun t21 =>
  X1 t21)
  (Q out3_1)
def zDZ (n0:Int) (Q:Sl→K):K :=
 Do Tryz.prog (Instr.makeSlice 85 (.int .i64 8) (.int .i64 8)) Sl.val fun t5 =>
 LoopK (α:=Int) (fun X x=>zDZ.b1 Q X n0 t5 (t5.n:Int) x) 0
theorem zNB (n0:Int) (Q:Sl→K) (w:World) (h:zDZ n0 Q w):zDZ.call n0 Q w:=by
 have hL3:∀ (n0_1:Int) (out3_1:Sl) (t7_1:Int),LH 3 (fun x:Int=>[(0,(.int .i64 n0_1)),(3,(Sl.val out3_1)),(7,(.int .i64 t7_1)),(8,(.int .i64 x))]) (fun X x=>zDZ.b1 Q X n0_1 out3_1 t7_1 x):=by intros; exact ⟨⟩
 exact g_walk 23 h Tryz.func240
end Go.Proofs.YtdemfamgieonbaaGreat
namespace Go.Proofs.YtdemfamgieonbaaGreat
open Go Go.Sep
set_option maxRecDepth 100000
set_option maxHeartbeats 4000000
attribute [local irreducible] G Gp Cx Tx Ex Sx Dx Ox Ax Lx Rx Fx Bx Bj Al Do Ld LdN St StN New CallF Ar DoU Rd Rd2 Pu Cd Ite Fv CallV CallY Ans0 Ans1 Ans2 Ans3 Ans4 Ans5 Ext Dead Dr WithS Sv LdS LdNS RdS Rd2S Nn Idx IdxA IdxS Fld Bld Slc SlcS Cat All LoopK RangeF RangeJ TakeD
namespace F_IRRef07
instance at_123:AT Tryz.prog 123 4:=⟨by kernel_rfl⟩
instance at_51:AT Tryz.prog 51 2:=⟨by kernel_rfl⟩
instance at_87:AT Tryz.prog 87 4:=⟨by kernel_rfl⟩
instance cb_122:CB Tryz.prog 122:=⟨by kernel_rfl⟩
instance cb_123:CB Tryz.prog 123:=⟨by kernel_rfl⟩
instance cb_124:CB Tryz.prog 124:=⟨by kernel_rfl⟩
instance cb_125:CB Tryz.prog 125:=⟨by kernel_rfl⟩
instance cb_126:CB Tryz.prog 126:=⟨by kernel_rfl⟩
instance cb_29:CB Tryz.prog 29:=⟨by kernel_rfl⟩
instance cb_68:CB Tryz.prog 68:=⟨by kernel_rfl⟩
instance cb_71:CB Tryz.prog 71:=⟨by kernel_rfl⟩
instance cb_72:CB Tryz.prog 72:=⟨by kernel_rfl⟩
instance cb_73:CB Tryz.prog 73:=⟨by kernel_rfl⟩
instance cb_74:CB Tryz.prog 74:=⟨by kernel_rfl⟩
instance ct_2:CT Tryz.prog 2:=⟨by kernel_rfl⟩
instance ct_22:CT Tryz.prog 22:=⟨by kernel_rfl⟩
instance ct_23:CT Tryz.prog 23:=⟨by kernel_rfl⟩
instance ct_3:CT Tryz.prog 3:=⟨by kernel_rfl⟩
instance ct_30:CT Tryz.prog 30:=⟨by kernel_rfl⟩
instance ct_4:CT Tryz.prog 4:=⟨by kernel_rfl⟩
instance ct_49:CT Tryz.prog 49:=⟨by kernel_rfl⟩
instance ct_5:CT Tryz.prog 5:=⟨by kernel_rfl⟩
instance ct_85:CT Tryz.prog 85:=⟨by kernel_rfl⟩
instance ct_9:CT Tryz.prog 9:=⟨by kernel_rfl⟩
instance zIB:FT Tryz.prog 123 0 0 1:=⟨by kernel_rfl⟩
instance zIC:FT Tryz.prog 123 1 1 1:=⟨by kernel_rfl⟩
instance zID:FT Tryz.prog 123 2 2 1:=⟨by kernel_rfl⟩
instance zIE:FT Tryz.prog 123 3 3 1:=⟨by kernel_rfl⟩
instance zOI:FT Tryz.prog 173 0 0 1:=⟨by kernel_rfl⟩
instance zOJ:FT Tryz.prog 173 1 1 4:=⟨by kernel_rfl⟩
instance zVF:FT Tryz.prog 180 0 0 1:=⟨by kernel_rfl⟩
instance zN8:FT Tryz.prog 180 1 1 1:=⟨by kernel_rfl⟩
instance zGR:FT Tryz.prog 25 0 0 1:=⟨by kernel_rfl⟩
instance zHK:FT Tryz.prog 25 2 2 1:=⟨by kernel_rfl⟩
instance zJi:FT Tryz.prog 25 3 3 1:=⟨by kernel_rfl⟩
instance zJj:FT Tryz.prog 25 4 4 1:=⟨by kernel_rfl⟩
instance zJq:FT Tryz.prog 51 0 0 1:=⟨by kernel_rfl⟩
instance zPU:FT Tryz.prog 51 1 1 1:=⟨by kernel_rfl⟩
instance zLq:FT Tryz.prog 87 0 0 1:=⟨by kernel_rfl⟩
instance zLr:FT Tryz.prog 87 1 1 1:=⟨by kernel_rfl⟩
instance in_2:INT Tryz.prog 2 .i64:=⟨by kernel_rfl⟩
instance in_33:INT Tryz.prog 33 .u64:=⟨by kernel_rfl⟩
instance in_5:INT Tryz.prog 5 .u8:=⟨by kernel_rfl⟩
instance mx:MX Tryz.prog:=⟨mixed⟩
instance pl_173:PLT Tryz.prog 173 [(0,1),(1,4)]:=⟨_,Tryz.underlying173,by kernel_rfl⟩
instance pl_180:PLT Tryz.prog 180 [(0,1),(1,1)]:=⟨_,Tryz.underlying180,by kernel_rfl⟩
instance pl_25:PLT Tryz.prog 25 [(0,1),(1,1),(2,1),(3,1),(4,1)]:=⟨_,Tryz.underlying25,by kernel_rfl⟩
instance pl_51:PLT Tryz.prog 51 [(0,1),(1,1)]:=⟨_,Tryz.underlying51,by kernel_rfl⟩
instance sl_22:SLT Tryz.prog 22 9 1:=⟨by kernel_rfl⟩
instance sl_23:SLT Tryz.prog 23 123 4:=⟨by kernel_rfl⟩
instance sl_49:SLT Tryz.prog 49 180 2:=⟨by kernel_rfl⟩
instance sl_56:SLT Tryz.prog 56 173 5:=⟨by kernel_rfl⟩
instance sl_85:SLT Tryz.prog 85 5 1:=⟨by kernel_rfl⟩
instance sz_123:SZ Tryz.prog 123 4:=⟨by kernel_rfl⟩
instance sz_5:SZ Tryz.prog 5 1:=⟨by kernel_rfl⟩
instance sz_51:SZ Tryz.prog 51 2:=⟨by kernel_rfl⟩
instance sz_87:SZ Tryz.prog 87 4:=⟨by kernel_rfl⟩
instance un_4:UN Tryz.prog 4 .bool:=⟨Tryz.underlying4⟩
instance zt_123:ZT Tryz.prog 123 (.agg #[(.int .i64 0),(.string ⟨#[]⟩),(Sl.val ⟨none,0,0⟩),(.int .i64 0)]):=⟨Tryz.t123,by kernel_rfl,by kernel_rfl⟩
instance zt_173:ZT Tryz.prog 173 (.agg #[(.string ⟨#[]⟩),(.bool false),(Sl.val ⟨none,0,0⟩),(.int .i64 0),(.int .u64 0)]):=⟨Tryz.t173,by kernel_rfl,by kernel_rfl⟩
instance zt_180:ZT Tryz.prog 180 (.agg #[(.bool false),(Sl.val ⟨none,0,0⟩)]):=⟨Tryz.t180,by kernel_rfl,by kernel_rfl⟩
instance zt_25:ZT Tryz.prog 25 (.agg #[(.int .i64 0),(Sl.val ⟨none,0,0⟩),(Sl.val ⟨none,0,0⟩),(Sl.val ⟨none,0,0⟩),(.int .i64 0)]):=⟨Tryz.t25,by kernel_rfl,by kernel_rfl⟩
instance zt_51:ZT Tryz.prog 51 (.agg #[(.int .i64 0),(Sl.val ⟨none,0,0⟩)]):=⟨Tryz.t51,by kernel_rfl,by kernel_rfl⟩
instance zt_87:ZT Tryz.prog 87 (.agg #[(.bool false),(Sl.val ⟨none,0,0⟩),(.int .i64 0),(.int .u64 0)]):=⟨Tryz.t87,by kernel_rfl,by kernel_rfl⟩
instance zt_9:ZT Tryz.prog 9 (.string ⟨#[]⟩):=⟨Tryz.t9,by kernel_rfl,by kernel_rfl⟩
end F_IRRef07
def zCd.s1 (Q:(Array Value)→Sl→K)  (t4_1:Addr) (t5_1:Sl):K :=
 LdN t4_1 2 fun r0 =>
 Q r0 t5_1
def zCd.s3 (Q:(Array Value)→Sl→K) (X2:Sl→Sl→Int→K) (t3_3:Addr) (t4_3:Addr) (c6_3:(Option Addr)) (outs7_3:Sl) (touched8_3:Sl) (i9_3:Int):K :=
 Ar (IntKind.wrap .i64 (i9_3 + 1)) fun t53 =>
 X2 outs7_3 touched8_3 t53
def zCd.s4 (Q:(Array Value)→Sl→K) (X2:Sl→Sl→Int→K) (t3_4:Addr) (t4_4:Addr) (c6_4:(Option Addr)) (outs7_4:Sl) (touched8_4:Sl) (i9_4:Int) (o10_4:Addr) (t85_4:Bool):K :=
 Ite t85_4
  (Ld (o10_4.add 1) Value.string fun t88 =>
  New 9 #[(.string t88)] fun t89 =>
  Do Tryz.prog (Builtin.append_ #[22,22] 22 #[(Sl.val touched8_4),(Sl.val (Sl.mk (some t89) 1 1))]) Sl.val fun t90 =>
  zCd.s3 Q X2 t3_4 t4_4 c6_4 outs7_4 t90 i9_4)
  (zCd.s3 Q X2 t3_4 t4_4 c6_4 outs7_4 touched8_4 i9_4)
def zCd.b5 (Q:(Array Value)→Sl→K) (X2:Sl→Sl→Int→K) (X5:Sl→Int→K) (t4_5:Addr) (c6_5:(Option Addr)) (outs7_5:Sl) (keys14_5:Sl) (rows13_5:Sl) (i15_5:Int):K :=
 Ite (decide (i15_5 < (keys14_5.n:Int)))
  (Dr <| WithS fun S =>
  Idx keys14_5 i15_5 1 fun t104 =>
  Idx keys14_5 i15_5 1 fun t109 =>
  LdS S t104 Value.string fun t105 =>
  LdS S t109 Value.string fun t110 =>
  zCM.call c6_5 t110 fun t111 =>
  Sv S <|
  Bld #[(.string ⟨#[]⟩),(.bool false),(Sl.val ⟨none,0,0⟩),(.int .i64 0),(.int .u64 0)] ([(0,1),(1,4)][·]?) [(0,(.string t105)),(1,(.agg t111))] fun t112 =>
  Bld #[(.string ⟨#[]⟩),(.bool false),(Sl.val ⟨none,0,0⟩),(.int .i64 0),(.int .u64 0)] (fun i=>some (i * 5,5)) [(0,(.agg t112))] fun ct113 =>
  New 173 ct113 fun t113 =>
  Do Tryz.prog (Builtin.append_ #[56,56] 56 #[(Sl.val rows13_5),(Sl.val (Sl.mk (some t113) 1 1))]) Sl.val fun t114 =>
  Ar (IntKind.wrap .i64 (i15_5 + 1)) fun t100 =>
  X5 t114 t100)
  (StN t4_5 2 #[(.int .i64 0),(Sl.val outs7_5)] <|
  LdN t4_5 2 fun r0 =>
  Q r0 rows13_5)
def zCd.b2 (Q:(Array Value)→Sl→K)  (X2:Sl→Sl→Int→K) (t3_2:Addr) (t4_2:Addr) (c6_2:(Option Addr)) (outs7_2:Sl) (touched8_2:Sl) (i9_2:Int):K :=
 Ld (t3_2.add 3) Sl.val fun t49 =>
 Ite (decide (i9_2 < (t49.n:Int)))
  (Ld (t3_2.add 3) Sl.val fun t55 =>
  Idx t55 i9_2 4 fun t57 =>
  LdN t57 4 fun t58 =>
  New 123 #[(.int .i64 0),(.string ⟨#[]⟩),(Sl.val ⟨none,0,0⟩),(.int .i64 0)] fun o10 =>
  StN o10 4 t58 <|
  LdN o10 4 fun t61 =>
  zCN.call c6_2 t61 fun t62x0 t62x1 =>
  Ite (decide (t62x1 ≠ 0))
   (New 173 #[] fun t69 =>
   StN t4_2 2 #[(.int .i64 t62x1),(Sl.val ⟨none,0,0⟩)] <|
   LdN t4_2 2 fun r0 =>
   Q r0 (Sl.mk (some t69) 0 0))
   (Do Tryz.prog (Builtin.append_ #[49,49] 49 #[(Sl.val outs7_2),(Sl.val t62x0)]) Sl.val fun t72 =>
   Ld o10 (Value.int .i64) fun t74 =>
   Ite (decide (t74 = 2))
    (zCd.s4 Q X2 t3_2 t4_2 c6_2 t72 touched8_2 i9_2 o10 true)
    (Ld o10 (Value.int .i64) fun t78 =>
    Ite (decide (t78 = 3))
     (zCd.s4 Q X2 t3_2 t4_2 c6_2 t72 touched8_2 i9_2 o10 true)
     (Ld o10 (Value.int .i64) fun t83 =>
     zCd.s4 Q X2 t3_2 t4_2 c6_2 t72 touched8_2 i9_2 o10 (decide (t83 = 6))))))
  (New 173 #[] fun t91 =>
  zA4.call #[(.int .i64 0),(Sl.val ⟨none,0,0⟩),(Sl.val touched8_2),(Sl.val ⟨none,0,0⟩),(.int .i64 0)] fun t94 =>
  LoopK (α:=Sl×Int) (fun X x=>zCd.b5 Q X2 (fun rows13_5 i15_5=>X (rows13_5,i15_5)) t4_2 c6_2 outs7_2 t94 x.1 x.2) ((Sl.mk (some t91) 0 0),0))
def zCd (s0:(Option Addr)) (t1:(Array Value)) (Q:(Array Value)→Sl→K):K :=
 New 25 t1 fun t3 =>
 New 51 #[(.int .i64 0),(Sl.val ⟨none,0,0⟩)] fun t4 =>
 zGd.call s0 fun t17 =>
 New 180 #[] fun t18 =>
 New 9 #[] fun t19 =>
 Ld t3 (Value.int .i64) fun t21 =>
 Ite (decide (t21 = 2))
  (Dr <|
  Ld (t3.add 2) Sl.val fun t25 =>
  Idx t25 0 1 fun t26 =>
  Ld t26 Value.string fun t27 =>
  Ld (t3.add 4) (Value.int .i64) fun t29 =>
  zDm.call t17 t27 t29 fun t30 =>
  Ite (decide (t30 ≠ 0))
   (New 173 #[] fun t33 =>
   StN t4 2 #[(.int .i64 111),(Sl.val ⟨none,0,0⟩)] <|
   LdN t4 2 fun r0 =>
   Q r0 (Sl.mk (some t33) 0 0))
   (Dr <| WithS fun S =>
   LdS S (t3.add 2) Sl.val fun t36 =>
   Idx t36 0 1 fun t37 =>
   LdS S t37 Value.string fun t38 =>
   LdS S (t3.add 2) Sl.val fun t41 =>
   Idx t41 0 1 fun t42 =>
   LdS S t42 Value.string fun t43 =>
   zCM.call t17 t43 fun t44 =>
   Sv S <|
   Bld #[(.string ⟨#[]⟩),(.bool false),(Sl.val ⟨none,0,0⟩),(.int .i64 0),(.int .u64 0)] ([(0,1),(1,4)][·]?) [(0,(.string t38)),(1,(.agg t44))] fun t45 =>
   All [
    (Bld #[(.string ⟨#[]⟩),(.bool false),(Sl.val ⟨none,0,0⟩),(.int .i64 0),(.int .u64 0)] (fun i=>some (i * 5,5)) [(0,(.agg t45))] fun ct46 =>
    New 173 ct46 fun t46 =>
    StN t4 2 #[(.int .i64 0),(Sl.val ⟨none,0,0⟩)] <|
    zCd.s1 Q t4 (Sl.mk (some t46) 1 1)),
    (StN t4 2 #[(.int .i64 0),(Sl.val ⟨none,0,0⟩)] <|
    Sv S <|
    Bld #[(.string ⟨#[]⟩),(.bool false),(Sl.val ⟨none,0,0⟩),(.int .i64 0),(.int .u64 0)] (fun i=>some (i * 5,5)) [(0,(.agg t45))] fun ct46 =>
    New 173 ct46 fun t46 =>
    zCd.s1 Q t4 (Sl.mk (some t46) 1 1))
    ]))
  (LoopK (α:=Sl×Sl×Int) (fun X x=>zCd.b2 Q (fun outs7_2 touched8_2 i9_2=>X (outs7_2,touched8_2,i9_2)) t3 t4 t17 x.1 x.2.1 x.2.2) ((Sl.mk (some t18) 0 0),(Sl.mk (some t19) 0 0),0))
def zG9.b1 (Q:K)  (X1:Int→K) (s0_1:(Option Addr)) (rows1_1:Sl) (i4_1:Int):K :=
 Ite (decide (i4_1 < (rows1_1.n:Int)))
  (Dr <|
  Idx rows1_1 i4_1 5 fun t14 =>
  Idx rows1_1 i4_1 5 fun t19 =>
  Ld t14 Value.string fun t16 =>
  LdN (t19.add 1) 4 fun t21 =>
  zAu.call s0_1 t16 t21 <|
  Ar (IntKind.wrap .i64 (i4_1 + 1)) fun t10 =>
  X1 t10)
  (Q)
def zG9 (s0:(Option Addr)) (rows1:Sl) (Q:K):K :=
 LoopK (α:=Int) (fun X x=>zG9.b1 Q X s0 rows1 x) 0
def zDW.s3 (Q:Bool→K) (X2:Int→K) (a2_3:Addr) (b3_3:Addr) (i5_3:Int) (t56_3:Bool):K :=
 Ite t56_3
  (Q false)
  (Ar (IntKind.wrap .i64 (i5_3 + 1)) fun t26 =>
  X2 t26)
def zDW.b2 (Q:Bool→K)  (X2:Int→K) (a2_2:Addr) (b3_2:Addr) (i5_2:Int):K :=
 Ld (a2_2.add 1) Sl.val fun t22 =>
 Ite (decide (i5_2 < (t22.n:Int)))
  (Dr <|
  Ld (a2_2.add 1) Sl.val fun t28 =>
  Idx t28 i5_2 2 fun t30 =>
  Ld t30 Value.bool fun t32 =>
  Ld (b3_2.add 1) Sl.val fun t34 =>
  Idx t34 i5_2 2 fun t36 =>
  Ld t36 Value.bool fun t38 =>
  Ite (!(t32 == t38))
   (zDW.s3 Q X2 a2_2 b3_2 i5_2 true)
   (Ld (a2_2.add 1) Sl.val fun t42 =>
   Idx t42 i5_2 2 fun t44 =>
   Ld (t44.add 1) Sl.val fun t46 =>
   Rd Tryz.prog (convert 85 9 (Sl.val t46)) Value.string fun t47 =>
   Ld (b3_2.add 1) Sl.val fun t49 =>
   Idx t49 i5_2 2 fun t51 =>
   Ld (t51.add 1) Sl.val fun t53 =>
   Rd Tryz.prog (convert 85 9 (Sl.val t53)) Value.string fun t54 =>
   zDW.s3 Q X2 a2_2 b3_2 i5_2 (!(t47.toList == t54.toList))))
  (Q true)
def zDW.s1 (Q:Bool→K)  (a2_1:Addr) (b3_1:Addr) (t19_1:Bool):K :=
 Ite t19_1
  (Q false)
  (LoopK (α:=Int) (fun X x=>zDW.b2 Q X a2_1 b3_1 x) 0)
def zDW (a0:(Array Value)) (b1:(Array Value)) (Q:Bool→K):K :=
 New 51 a0 fun a2 =>
 New 51 b1 fun b3 =>
 Ld a2 (Value.int .i64) fun t7 =>
 Ld b3 (Value.int .i64) fun t9 =>
 Ite (decide (t7 ≠ t9))
  (zDW.s1 Q a2 b3 true)
  (Ld (a2.add 1) Sl.val fun t13 =>
  Ld (b3.add 1) Sl.val fun t16 =>
  zDW.s1 Q a2 b3 (decide ((t13.n:Int) ≠ (t16.n:Int))))
def zCN.s1 (Q:Sl→Int→K)  :K :=
 New 180 #[] fun t94 =>
 Q (Sl.mk (some t94) 0 0) 0
def zCN.s2 (Q:Sl→Int→K)  (t87_2:Bool):K :=
 Ite t87_2
  (New 180 #[] fun t88 =>
  Q (Sl.mk (some t88) 0 0) 110)
  (zCN.s1 Q)
def zCN.s3 (Q:Sl→Int→K)  (s0_3:(Option Addr)) (o3_3:Addr) (n7_3:Int) (t28_3:Bool):K :=
 Ite t28_3
  (New 180 #[] fun t29 =>
  Q (Sl.mk (some t29) 0 0) 110)
  (Ld (o3_3.add 3) (Value.int .i64) fun t33 =>
  zC5.call n7_3 t33 fun t34x0 t34x1 =>
  Ite (!t34x1)
   (New 180 #[] fun t39 =>
   Q (Sl.mk (some t39) 0 0) 111)
   (Dr <| WithS fun S =>
   LdS S (o3_3.add 1) Value.string fun t42 =>
   zF1.call t34x0 fun t44 =>
   Sv S <|
   zFZ.call s0_3 t42 t44 <|
   zCN.s1 Q))
def zCN (s0:(Option Addr)) (o1:(Array Value)) (Q:Sl→Int→K):K :=
 New 123 o1 fun o3 =>
 Ld (o3.add 1) Value.string fun t13 =>
 zCM.call s0 t13 fun t14 =>
 New 87 #[(.bool false),(Sl.val ⟨none,0,0⟩),(.int .i64 0),(.int .u64 0)] fun r6 =>
 StN r6 4 t14 <|
 Ld o3 (Value.int .i64) fun t16 =>
 Ite (decide (t16 = 1))
  (Ld r6 Value.bool fun t49 =>
  Ld (r6.add 1) Sl.val fun t51 =>
  Bld #[(.bool false),(Sl.val ⟨none,0,0⟩)] (fun i=>some (i * 2,2)) [(0,(.agg #[(.bool t49),(Sl.val t51)]))] fun ct53 =>
  New 180 ct53 fun t53 =>
  Q (Sl.mk (some t53) 1 1) 0)
  (Ite (decide (t16 = 7))
   (Ld (o3.add 2) Sl.val fun t57 =>
   Bld #[(.bool false),(Sl.val ⟨none,0,0⟩)] (fun i=>some (i * 2,2)) [(0,(.agg #[(.bool true),(Sl.val t57)]))] fun ct59 =>
   New 180 ct59 fun t59 =>
   Q (Sl.mk (some t59) 1 1) 0)
   (Ite (decide (t16 = 2))
    (Ld (o3.add 1) Value.string fun t64 =>
    Ld (o3.add 2) Sl.val fun t66 =>
    zFZ.call s0 t64 t66 <|
    zCN.s1 Q)
    (Ite (decide (t16 = 3))
     (Ld (o3.add 1) Value.string fun t72 =>
     zF8.call s0 t72 <|
     zCN.s1 Q)
     (Ite (decide (t16 = 4))
      (Ld r6 Value.bool fun t77 =>
      Ite (!t77)
       (zCN.s2 Q true)
       (Ld (r6.add 1) Sl.val fun t81 =>
       Rd Tryz.prog (convert 85 9 (Sl.val t81)) Value.string fun t82 =>
       Ld (o3.add 2) Sl.val fun t84 =>
       Rd Tryz.prog (convert 85 9 (Sl.val t84)) Value.string fun t85 =>
       zCN.s2 Q (!(t82.toList == t85.toList))))
      (Ite (decide (t16 = 5))
       (Ld r6 Value.bool fun t92 =>
       Ite t92
        (New 180 #[] fun t93 =>
        Q (Sl.mk (some t93) 0 0) 110)
        (zCN.s1 Q))
       (Ld (r6.add 1) Sl.val fun t19 =>
       zFa.call t19 fun t20x0 t20x1 =>
       Ld r6 Value.bool fun t24 =>
       Ite t24
        (zCN.s3 Q s0 o3 t20x0 (!t20x1))
        (zCN.s3 Q s0 o3 t20x0 false)))))))
def zFa.b1 (Q:Int→Bool→K)  (X1:Int→Int→K) (v0_1:Sl) (n4_1:Int) (i5_1:Int):K :=
 Ite (decide (i5_1 < 8))
  (Ar (IntKind.wrap .u64 (n4_1 * 256)) fun t14 =>
  Idx v0_1 i5_1 1 fun t17 =>
  Ld t17 (Value.int .u8) fun t18 =>
  Ar (IntKind.wrap .u64 t18) fun t19 =>
  Ar (IntKind.wrap .u64 (t14 + t19)) fun t20 =>
  Ar (IntKind.wrap .i64 (i5_1 + 1)) fun t12 =>
  X1 t20 t12)
  (Ar (IntKind.wrap .i64 n4_1) fun t22 =>
  Q t22 true)
def zFa (v0:Sl) (Q:Int→Bool→K):K :=
 Ite (decide ((v0.n:Int) ≠ 8))
  (Q 0 false)
  (LoopK (α:=Int×Int) (fun X x=>zFa.b1 Q (fun n4_1 i5_1=>X (n4_1,i5_1)) v0 x.1 x.2) (0,0))
def zC5.s1 (Q:Int→Bool→K)  (c6_1:Int) (t34_1:Bool):K :=
 Ite t34_1
  (Q 0 false)
  (Q c6_1 true)
def zC5 (a0:Int) (b1:Int) (Q:Int→Bool→K):K :=
 Ar (IntKind.wrap .u64 a0) fun t8 =>
 Ar (IntKind.wrap .u64 b1) fun t10 =>
 Ar (IntKind.wrap .u64 (t8 + t10)) fun t11 =>
 Ar (IntKind.wrap .i64 t11) fun t12 =>
 Ite (decide ((0:Int) ≤ a0))
  (Ite (decide ((0:Int) ≤ b1))
   (Ite (decide (t12 < 0))
    (zC5.s1 Q t12 true)
    (Ite (decide (a0 < 0))
     (Ite (decide (b1 < 0))
      (zC5.s1 Q t12 (decide ((0:Int) ≤ t12)))
      (zC5.s1 Q t12 false))
     (zC5.s1 Q t12 false)))
   (Ite (decide (a0 < 0))
    (Ite (decide (b1 < 0))
     (zC5.s1 Q t12 (decide ((0:Int) ≤ t12)))
     (zC5.s1 Q t12 false))
    (zC5.s1 Q t12 false)))
  (Ite (decide (a0 < 0))
   (Ite (decide (b1 < 0))
    (zC5.s1 Q t12 (decide ((0:Int) ≤ t12)))
    (zC5.s1 Q t12 false))
   (zC5.s1 Q t12 false))
def zF1.b1 (Q:Sl→K)  (X1:Int→Int→K) (out3_1:Sl) (x4_1:Int) (i5_1:Int):K :=
 Ite (decide ((0:Int) ≤ i5_1))
  (Cd ((256:Int) ≠ 0) <|
  Ar (Int.tmod x4_1 256) fun t16 =>
  Ar (IntKind.wrap .u8 t16) fun t17 =>
  Idx out3_1 i5_1 1 fun t18 =>
  St t18 (.int .u8 t17) <|
  Cd ((256:Int) ≠ 0) <|
  Ar (IntKind.wrap .u64 (Int.tdiv x4_1 256)) fun t20 =>
  Ar (IntKind.wrap .i64 (i5_1 - 1)) fun t12 =>
  X1 t20 t12)
  (Q out3_1)
def zF1 (n0:Int) (Q:Sl→K):K :=
 Do Tryz.prog (Instr.makeSlice 85 (.int .i64 8) (.int .i64 8)) Sl.val fun t6 =>
 Ar (IntKind.wrap .u64 n0) fun t8 =>
 LoopK (α:=Int×Int) (fun X x=>zF1.b1 Q (fun x4_1 i5_1=>X (x4_1,i5_1)) t6 x.1 x.2) (t8,7)
end Go.Proofs.YtdemfamgieonbaaGreat
namespace Go.Proofs.YtdemfamgieonbaaGreat
open Go Go.Sep
set_option maxRecDepth 100000
def num8 (xs:List UInt8):Nat:=xs.foldl (fun n b=>n * 256 + b.toNat) 0
theorem zMj (xs:List UInt8) (x:UInt8):num8 (xs++[x]) = num8 xs * 256 + x.toNat:=by
 unfold num8
 rw [List.foldl_append]
 rfl
theorem zTo:∀ (j:Nat) (xs:List UInt8),xs.length = j→num8 xs < 256 ^ j:=by
 intro j
 induction j with
 | zero =>
  intro xs h
  have:xs = []:=List.length_eq_zero_iff.1 h
  subst this
  decide
 | succ j ih =>
  intro xs h
  have hne:xs ≠ []:=fun e=>by rw [e] at h; cases h
  have e:xs = xs.dropLast++[xs.getLast hne]:=(List.dropLast_concat_getLast hne).symm
  have h1:=ih xs.dropLast (by simp; omega)
  have h2:=UInt8.toNat_lt (xs.getLast hne)
  rw [e,zMj,Nat.pow_succ]
  omega
theorem or8 (m b:Nat) (hm:m * 256 < 2 ^ 64) (hb:b < 256):bitsOf .or .u64 ((m * 256:Nat):Int) (b:Int) = ((m * 256 + b:Nat):Int):=by
 unfold bitsOf
 simp only
 have h1:(BitVec.ofInt (IntKind.bits .u64) ((m * 256:Nat):Int) ||| BitVec.ofInt (IntKind.bits .u64) (b:Int)).toNat = m * 256 + b:=by
  show (BitVec.ofInt 64 ((m * 256:Nat):Int) ||| BitVec.ofInt 64 (b:Int)).toNat = _
  rw [BitVec.toNat_or,BitVec.ofInt_natCast,BitVec.ofInt_natCast,BitVec.toNat_ofNat,BitVec.toNat_ofNat,Nat.mod_eq_of_lt (by omega),Nat.mod_eq_of_lt (by omega)]
  have h4:=Nat.two_pow_add_eq_or_of_lt (i:=8) (b:=b) (by omega) m
  have h5:2 ^ 8 * m = m * 256:=by omega
  rw [h5] at h4
  omega
 rw [h1,wrapU64 (by omega) (by omega)]
theorem zTp {j:Nat} (h:j ≤ 7):256 ^ j ≤ 72057594037927936:=by
 have:=Nat.pow_le_pow_right (n:=256) (by decide) h
 have e:(256:Nat) ^ 7 = 72057594037927936:=by decide
 omega
section
variable {B w:World} {Γ:List HProp}
theorem zKe {s:Sl} {xs:List UInt8} {k:Int→Bool→K} (hr:RdB w s xs) (hk:k (if xs.length = 8 then IntKind.wrap .i64 (num8 xs:Int) else 0) (decide (xs.length = 8)) w):zCz.call s k w:=by
 have hn:xs.length = s.n:=by have:=hr.len; simpa using this
 refine zL9 _ _ _ ?_
 unfold zCz
 refine r_ite (fun hb=>?_) (fun hb=>?_)
 ·have h8:¬ xs.length = 8:=by simp only [decide_eq_true_eq] at hb; omega
  rw [if_neg h8,decide_eq_false h8] at hk
  exact hk
 ·have h8:xs.length = 8:=by simp only [decide_eq_false_iff_not,Decidable.not_not] at hb; omega
  rw [if_pos h8,decide_eq_true h8] at hk
  refine LoopK.of (fun t w1=>∃ j:Nat,t = ((num8 (xs.take j):Int),(j:Int))∧j ≤ 8∧w1 = w) (fun t _=>((8:Int) - t.2).toNat) ⟨0,rfl,by omega,rfl⟩ ?_
  rintro t w1 ⟨j,rfl,hj,rfl⟩
  dsimp only
  unfold zCz.b1
  refine r_ite (fun hlt=>?_) (fun hge=>?_)
  ·simp only [decide_eq_true_eq] at hlt
   have hx:xs[j]? = some xs[j]:=List.getElem?_eq_getElem (by omega)
   have htk:xs.take (j + 1) = xs.take j++[xs[j]]:=List.take_succ_eq_append_getElem (by omega)
   generalize xs[j] = x at hx htk
   refine r_byte hr hx ?_
   have hlt8:=zTo j (xs.take j) (by rw [List.length_take]; omega)
   have hp:=zTp (j:=j) (by omega)
   have hxb:=UInt8.toNat_lt x
   refine r_cd (by decide) ?_
   refine r_ar (e':=((num8 (xs.take j) * 256:Nat):Int)) (by
    unfold shlOf
    have:min ((8:Int).toNat) (IntKind.bits .u64) = 8:=rfl
    rw [this,wrapU64 (by omega) (by omega)]
    omega) ?_
   refine r_ar (wrapU64 (by omega) (by omega)) ?_
   refine r_ar (or8 _ _ (by omega) hxb) ?_
   refine zOy (by omega) (by omega) ?_
   exact ⟨⟨j + 1,by rw [htk,zMj]; rfl,by omega,rfl⟩,by omega⟩
  ·simp only [decide_eq_false_iff_not] at hge
   have:j = 8:=by omega
   subst this
   rw [List.take_of_length_le (by omega)]
   exact r_ar rfl hk
end
end Go.Proofs.YtdemfamgieonbaaGreat
namespace Go.Proofs.YtdemfamgieonbaaGreat
open Go Go.Sep
set_option maxRecDepth 100000
section
variable {B w:World} {Γ:List HProp}
theorem zTq {k:Sl→K} (h:Holds B Γ w) (hk:∀ s w,Holds B (Bytes zAd s (List.replicate 8 0)::Γ) w→k s w):Do Tryz.prog (Instr.makeSlice zH3 (.int .i64 8) (.int .i64 8)) Sl.val k w:=by
 have h1:=Go.run_make_row' (P:=Tryz.prog) zH3 zAd (.int .u8 0) 1 (by kernel_rfl) (by kernel_rfl) rfl .i64 .i64 8 (by decide) (by decide) w
 refine ⟨⟨some ⟨w.heap.size,0,none⟩,8,8⟩,_,h1,hk _ _ ?_⟩
 have h2:=h.alloc (.cells (madeCells #[.int .u8 0] 8) zAd (0,0))
 exact zQm (by kernel_rfl) (by simp) h2
end
end Go.Proofs.YtdemfamgieonbaaGreat
namespace Go.Proofs.YtdemfamgieonbaaGreat
open Go Go.Sep
set_option maxRecDepth 100000
def u8 (n:Nat):UInt8:=UInt8.ofNat n
theorem u8N (n:Nat):(u8 n).toNat = n % 256:=by simp [u8,UInt8.toNat_ofNat']
theorem wrapB (n:Nat):IntKind.wrap .u8 (n:Int) = ((u8 n).toNat:Int):=by
 rw [u8N]
 unfold IntKind.wrap
 simp [IntKind.bits,IntKind.signed]
end Go.Proofs.YtdemfamgieonbaaGreat
namespace Go.Proofs.YtdemfamgieonbaaGreat
open Go Go.Sep
set_option maxRecDepth 100000
def partV (u i:Nat):List UInt8:=(List.range 8).map fun j=>if 8 ≤ j + i then u8 (u / 256 ^ (7 - j)) else 0
theorem zP9 (u:Nat):∀ i,i < 8→(partV u i).set (7 - i) (u8 (u / 256 ^ i)) = partV u (i + 1)
 | 0,_=>rfl
 | 1,_=>rfl
 | 2,_=>rfl
 | 3,_=>rfl
 | 4,_=>rfl
 | 5,_=>rfl
 | 6,_=>rfl
 | 7,_=>rfl
theorem zQ3 (u i:Nat):(partV u i).length = 8:=by simp [partV]
def uOf (n:Int):Nat:=(IntKind.wrap .u64 n).toNat
theorem uOf_lt (n:Int):uOf n < 2 ^ 64∧IntKind.wrap .u64 n = (uOf n:Int):=by
 have h:0 ≤ IntKind.wrap .u64 n∧IntKind.wrap .u64 n < 2 ^ 64:=by
  unfold IntKind.wrap
  simp only [IntKind.bits,IntKind.signed,Bool.false_and,Bool.false_eq_true,if_false]
  omega
 unfold uOf
 omega
section
variable {B w:World} {Γ:List HProp}
theorem zLL {n:Int} {k:Sl→K} (h:Holds B Γ w) (hk:∀ s w,Holds B (Bytes zAd s (partV (uOf n) 8)::Γ) w→k s w):zDZ.call n k w:=by
 obtain ⟨hu1,hu2⟩:=uOf_lt n
 refine zNB _ _ _ ?_
 unfold zDZ
 refine zTq h fun s w h=>?_
 have hsn:=Bytes.len h
 simp only [List.length_replicate] at hsn
 refine LoopK.of (fun t w=>∃ i:Nat,t = (i:Int)∧i ≤ 8∧Holds B (Bytes zAd s (partV (uOf n) i)::Γ) w) (fun t _=>((8:Int) - t).toNat) ⟨0,rfl,by omega,h⟩ ?_
 clear h
 rintro t w ⟨i,rfl,hi,h⟩
 unfold zDZ.b1
 refine r_ite (fun hlt=>?_) (fun hge=>?_)
 ·simp only [decide_eq_true_eq] at hlt
  refine r_ar (e':=((7 - i:Nat):Int)) (by rw [wrap64 (by omega) (by omega)]; omega) ?_
  refine r_ar hu2 ?_
  refine r_ar (e':=((8 * i:Nat):Int)) (by rw [wrap64 (by omega) (by omega)]; omega) ?_
  refine r_cd (by omega) ?_
  refine r_ar (e':=((uOf n / 256 ^ i:Nat):Int)) (by
   unfold shrOf
   have:min (((8 * i:Nat):Int).toNat) (IntKind.bits .u64) = 8 * i:=by simp [IntKind.bits]; omega
   rw [this,Int.fdiv_eq_ediv_of_nonneg _ (Int.le_of_lt (Int.pow_pos (by decide))),Nat.pow_mul 2 8 i |> fun e=>show (2:Int) ^ (8 * i) = ((256 ^ i:Nat):Int) by rw [Int.pow_mul]; rw [Int.natCast_pow]; rfl,← Int.natCast_ediv]) ?_
  refine r_ar (wrapB _) ?_
  refine zS9 h (by omega) rfl fun w h=>?_
  have e1:((partV (uOf n) i).map byteV).set (7 - i) (Value.int .u8 ((u8 (uOf n / 256 ^ i)).toNat:Int)) = (partV (uOf n) (i + 1)).map byteV:=by
   rw [← zP9 _ i (by omega),List.map_set]
   rfl
  rw [e1] at h
  refine zOy (by omega) (by omega) ?_
  exact ⟨⟨i + 1,by omega,by omega,h⟩,by omega⟩
 ·simp only [decide_eq_false_iff_not] at hge
  have:i = 8:=by omega
  subst this
  exact hk _ _ h
end
end Go.Proofs.YtdemfamgieonbaaGreat
