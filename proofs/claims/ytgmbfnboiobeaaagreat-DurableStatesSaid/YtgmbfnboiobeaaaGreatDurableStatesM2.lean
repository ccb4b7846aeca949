/- Texts of the claim DurableStates, one behind the other. -/
import Derived.Test.YtgmbfnboiobeaaaGreatDurableStatesM1
import Derived.Lib.Overlaps
import Derived.MapKept
import GoSem.Instr.MapUpdate
import Derived.Shelf.SortM.Plain
import Derived.Shelf.SortM.SortNone
import Derived.Ground.SlgmProg
import Derived.Test.YtgmbfnboiobeaaaGreatProg
import Derived.Maps.RangeRun
set_option linter.all false
set_option maxRecDepth 100000
namespace Go.Proofs.YtgmbfnboiobeaaaGreat
section
open Go Go.Sep
set_option maxHeartbeats 4000000
attribute [local irreducible] G Gp Cx Tx Ex Sx Dx Ox Ax Lx Rx Fx Bx Bj Al Do Ld LdN St StN New zX Ar DoU Rd Rd2 Pu Cd Ite Fv uj vK vH yc xY zAN zAw zBC Ext Dead Dr xK Sv LdS ji RdS zBQ Nn Idx zBR zBS Fld Bld Slc zBT Cat All yR xk vI vL
instance:CB Tryz.prog 100:=⟨by kernel_rfl⟩
instance:CB Tryz.prog 108:=⟨by kernel_rfl⟩
instance:CB Tryz.prog 122:=⟨by kernel_rfl⟩
instance:CB Tryz.prog 123:=⟨by kernel_rfl⟩
instance:CB Tryz.prog 69:=⟨by kernel_rfl⟩
instance:CT Tryz.prog 111:=⟨by kernel_rfl⟩
instance:CT Tryz.prog 24:=⟨by kernel_rfl⟩
instance:FT Tryz.prog 195 0 0 1:=⟨by kernel_rfl⟩
instance:FT Tryz.prog 195 1 1 1:=⟨by kernel_rfl⟩
instance:FT Tryz.prog 195 2 2 1:=⟨by kernel_rfl⟩
instance:FT Tryz.prog 195 3 3 1:=⟨by kernel_rfl⟩
instance:FT Tryz.prog 195 4 4 1:=⟨by kernel_rfl⟩
instance:FT Tryz.prog 195 5 5 1:=⟨by kernel_rfl⟩
instance:FT Tryz.prog 195 6 6 1:=⟨by kernel_rfl⟩
instance:INT Tryz.prog 21 .i32:=⟨by kernel_rfl⟩
instance:PLT Tryz.prog 195 [(0,1),(1,1),(2,1),(3,1),(4,1),(5,1),(6,1)]:=⟨_,Tryz.underlying195,by kernel_rfl⟩
instance:SLT Tryz.prog 111 22 1:=⟨by kernel_rfl⟩
instance:SZ Tryz.prog 111 1:=⟨by kernel_rfl⟩
instance:ZT Tryz.prog 195 (.agg #[(.pointer none),(.string ⟨#[]⟩),(.int .i64 0),(.int .i64 0),(.int .i64 0),(.bool false),(Sl.val ⟨none,0,0⟩)]):=⟨Tryz.t195,by kernel_rfl,by kernel_rfl⟩
def xA.s1 (Q:Pt→Int→K) (c:Pt) (d:ByteArray) (f:Int) (g:Bool): K :=
 Ite g
  (Q none 1)
  (New 195 #[.pointer c,.string d,.int .i64 f,.int .i64 0,.int .i64 0,.bool false,Sl.val ⟨none,0,0⟩] fun a=>
  zN.call (some a) fun b=>
  Ite (decide (b ≠ 0))
   (Q none b)
   (Q (some a) 0))
def xA (c:Pt) (a:ByteArray) (b:Int) (Q:Pt→Int→K): K :=
 Ite (a.toList == (⟨#[]⟩:ByteArray).toList)
  (xA.s1 Q c a b true)
  (Ite (decide ((8:Int) < (a.size:Int)))
   (xA.s1 Q c a b true)
   (Ite (decide (b < 16))
    (xA.s1 Q c a b true)
    (xA.s1 Q c a b (decide ((65536:Int) < b)))))
theorem zGJ (d f g Q w) (h:xA d f g Q w):xA.call d f g Q w:=by
 have:JH 2 fun D=>∃ a b c,D [(0,.pointer a),(1,.string b),(2,.int .i64 c)] (fun C=>∀ i,C [(0,.pointer a),(1,.string b),(2,.int .i64 c),(24,.bool i)] (xA.s1 Q a b c i)):=⟨fun _ ⟨_,_,_,h⟩=>⟨_,_,h⟩⟩
 exact zn 36 h Tryz.func61
def yu.b1 (Q:Sl→K) (k:Sl→Int→K) (l:Sl) (m:Int) (b:Sl) (a:Int): K :=
 Ite (decide (a < m))
  (Idx l a 1 fun c=>
  Ld c Sl.val fun d=>
  zh.call d fun f=>
  New 22 #[Sl.val f] fun g=>
  Do Tryz.prog (Builtin.append_ #[111,111] 111 #[Sl.val b,(Sl.val (Sl.mk (some g) 1 1))]) Sl.val fun i=>
  Ar (IntKind.wrap .i64 (a + 1)) fun j=>
  k i j)
  (Q b)
def yu (f:Pt) (Q:Sl→K): K :=
 Nn f fun b=>
 Ld (b.add 6) Sl.val fun a=>
 yR (α:=Sl×Int) (fun X x=>yu.b1 Q (fun c d=>X (c,d)) a (a.n:Int) x.1 x.2) ((Sl.mk none 0 0),0)
theorem zBI (a Q w) (h:yu a Q w):yu.call a Q w:=by
 have:∀ b c,LH 2 (fun x:Sl×Int=>[(2,Sl.val x.1),(8,Sl.val b),(9,.int .i64 c),(10,.int .i64 x.2)]) (fun X x=>yu.b1 Q (fun d f=>X (d,f)) b c x.1 x.2):=fun _ _=>⟨⟩
 exact zn 21 h Tryz.func63
def zN.s3 (Q b:Int→K) (g:Addr) (i c d:Int) (f:Bool): K :=
 Ite f
  (Q d)
  (Ar (IntKind.wrap .i64 (c - 1)) fun a=>
  b a)
def zN.b2 (Q f:Int→K) (j:Pt) (d c:Int): K :=
 Ite (decide (d ≤ c))
  (Dr <| xK fun S=>
  Nn j fun a=>
  LdS S a Value.pointer fun g=>
  xC.call (some a) c fun i=>
  Sv S<|
  zW.call g i fun b=>
  Ite (decide (b ≠ 0))
   (zN.s3 Q f a d c b (decide (b ≠ 60)))
   (zN.s3 Q f a d c b false))
  (Q 0)
def zN.s1 (Q:Int→K) (a:Pt) (b:Int): K :=
 yR (α:=Int) (fun X x=>zN.b2 Q X a b x) 9
def zN.s6 (Q:Int→K) (b:Bool→Int→K) (f:Pt) (c:Bool) (d:Int): K :=
 Ar (IntKind.wrap .i64 (d + 1)) fun a=>
 b c a
def zN.s5 (Q:Int→K) (i:Bool→Int→K) (j:Pt) (b:Int) (p:Bool): K :=
 Ite p
  (Dr <| xK fun S=>
  Nn j fun a=>
  LdS S a Value.pointer fun k=>
  xC.call (some a) b fun l=>
  Sv S<|
  qo.call k l fun d f=>
  Ite (decide (f = 60))
   (zN.s1 Q (some a) b)
   (Ite (decide (f ≠ 0))
    (Q f)
    (yM.call (some a) d fun c=>
    St (a.add 3) (.int .i64 b)<|
    St (a.add 4) (.int .i64 c)<|
    Ite (!(decide (c = (d.n:Int))))
     (Dr <| xK fun S=>
     LdS S a Value.pointer fun m=>
     xC.call (some a) b fun o=>
     Sv S<|
     zJ.call m o c fun g=>
     Ite (decide (g ≠ 0))
      (Q g)
      (zN.s6 Q i (some a) (decide (c = (d.n:Int))) b))
     (zN.s6 Q i (some a) (decide (c = (d.n:Int))) b))))
  (zN.s1 Q j b)
def zN.b4 (Q:Int→K) (b:Bool→Int→K) (c:Pt) (d:Bool) (a:Int): K :=
 Ite d
  (zN.s5 Q b c a (decide (a < 10)))
  (zN.s5 Q b c a false)
def zN (c:Pt) (Q:Int→K): K :=
 yR (α:=Bool×Int) (fun X x=>zN.b4 Q (fun a b=>X (a,b)) c x.1 x.2) (true,0)
theorem zC2 (p Q w) (h:zN p Q w):zN.call p Q w:=by
 have:∀ q,XH 15 q→JH 19 fun D=>∃ f g i j,D [(0,(.pointer (some f))),(4,.int .i64 g),(9,.int .i64 i),(10,.int .i64 j)] (fun C=>∀ r,C [(0,(.pointer (some f))),(4,.int .i64 g),(9,.int .i64 i),(10,.int .i64 j),(81,.bool r)] (zN.s3 Q q f g i j r)):=by intros; exact ⟨fun _ ⟨_,_,_,_,h⟩=>⟨_,_,h⟩⟩
 have:DH 17 2 [7] (.s [0,1,2,4,5,3] (.a [(6,1,.a [(7,0,.s [8] .e)])])):=⟨⟩
 have:∀ t u,LH 15 (fun x:Int=>[(0,.pointer t),(4,.int .i64 u),(9,.int .i64 x)]) (fun X x=>zN.b2 Q X t u x):=fun _ _=>⟨⟩
 have:JH 14 fun D=>∃ k,D [(0,.pointer k)] (fun C=>∀ v,C [(0,.pointer k),(4,.int .i64 v)] (zN.s1 Q k v)):=⟨fun _ ⟨_,h⟩=>⟨_,_,h⟩⟩
 have:∀ d,XH 2 d→JH 3 fun D=>∃ l m,D [(0,.pointer l),(4,.int .i64 m)] (fun C=>∀ y,C [(0,.pointer l),(3,.bool y),(4,.int .i64 m)] (zN.s6 Q (fun b c=>d (b,c)) l y m)):=by intros; exact ⟨fun _ ⟨_,_,h⟩=>⟨_,_,h⟩⟩
 have:DH 11 2 [8] (.s [0,1,2,4,5,7,3] (.a [(6,1,.a [(8,0,.s [9] .e)])])):=⟨⟩
 have:DH 4 2 [7] (.s [0,1,2,4,5,3] (.a [(6,1,.a [(7,0,.s [8,9,10,11,12] .e)])])):=⟨⟩
 have:∀ d,XH 2 d→JH 1000002 fun D=>∃ n o,D [(0,.pointer n),(4,.int .i64 o)] (fun C=>∀ z,C [(0,.pointer n),(4,.int .i64 o),(15,.bool z)] (zN.s5 Q (fun b c=>d (b,c)) n o z)):=by intros; exact ⟨fun _ ⟨_,_,h⟩=>⟨_,_,h⟩⟩
 have:∀ aa,LH 2 (fun x:Bool×Int=>[(0,.pointer aa),(3,.bool x.1),(4,.int .i64 x.2)]) (fun X x=>zN.b4 Q (fun b c=>X (b,c)) aa x.1 x.2):=fun _=>⟨⟩
 exact zn 83 h Tryz.func100
def xC (i:Pt) (j:Int) (Q:ByteArray→K): K :=
 Nn i fun a=>
 Ld (a.add 1) Value.string fun b=>
 Ar (IntKind.wrap .i64 (48 + j)) fun c=>
 Ar (IntKind.wrap .i32 c) fun d=>
 Rd Tryz.prog (convert 21 9 (.int .i32 d)) Value.string fun f=>
 Cat b f fun g=>
 Q g
theorem zC3 (a b Q w) (h:xC a b Q w):xC.call a b Q w:=by
 exact zn 14 h Tryz.func108
def yM.s1 (Q:Int→K) (a:Int): K :=
 Q a
def yM.b2 (Q p:Int→K) (q:Pt) (b:Sl) (a:Int): K :=
 Ite (decide (a < (b.n:Int)))
  (Slc b a (b.n:Int) (b.c:Int) 1 fun f=>
  xB.call f fun g i j=>
  Ite (decide (j ≠ 0))
   (yM.s1 Q a)
   (Nn q fun d=>
   Ld (d.add 6) Sl.val fun k=>
   New 22 #[Sl.val g] fun l=>
   Do Tryz.prog (Builtin.append_ #[111,111] 111 #[Sl.val k,(Sl.val (Sl.mk (some l) 1 1))]) Sl.val fun m=>
   St (d.add 6) (Sl.val m)<|
   Ar (IntKind.wrap .i64 (a + i)) fun o=>
   p o))
  (yM.s1 Q a)
def yM (a:Pt) (b:Sl) (Q:Int→K): K :=
 yR (α:=Int) (fun X x=>yM.b2 Q X a b x) 0
theorem zCL (a b Q w) (h:yM a b Q w):yM.call a b Q w:=by
 have:JH 6 fun D=>D [] (fun C=>∀ c,C [(4,.int .i64 c)] (yM.s1 Q c)):=⟨fun _ h=>⟨_,_,h⟩⟩
 have:∀ d f,LH 1 (fun x:Int=>[(0,.pointer d),(1,Sl.val f),(4,.int .i64 x)]) (fun X x=>yM.b2 Q X d f x):=fun _ _=>⟨⟩
 exact zn 36 h Tryz.func122
instance:CB Tryz.prog 115:=⟨by kernel_rfl⟩
instance:CB Tryz.prog 118:=⟨by kernel_rfl⟩
instance:CB Tryz.prog 129:=⟨by kernel_rfl⟩
instance:CB Tryz.prog 43:=⟨by kernel_rfl⟩
instance:CB Tryz.prog 71:=⟨by kernel_rfl⟩
instance:CB Tryz.prog 72:=⟨by kernel_rfl⟩
instance:CB Tryz.prog 74:=⟨by kernel_rfl⟩
instance:CB Tryz.prog 80:=⟨by kernel_rfl⟩
instance:CB Tryz.prog 81:=⟨by kernel_rfl⟩
instance:CB Tryz.prog 82:=⟨by kernel_rfl⟩
instance:CB Tryz.prog 83:=⟨by kernel_rfl⟩
instance:CT Tryz.prog 48:=⟨by kernel_rfl⟩
instance:CT Tryz.prog 91:=⟨by kernel_rfl⟩
instance:FT Tryz.prog 113 0 0 1:=⟨by kernel_rfl⟩
instance:FT Tryz.prog 113 1 1 1:=⟨by kernel_rfl⟩
instance:FT Tryz.prog 113 2 2 1:=⟨by kernel_rfl⟩
instance:FT Tryz.prog 113 3 3 1:=⟨by kernel_rfl⟩
instance:FT Tryz.prog 113 4 4 1:=⟨by kernel_rfl⟩
instance:FT Tryz.prog 113 5 5 1:=⟨by kernel_rfl⟩
instance:FT Tryz.prog 116 1 1 1:=⟨by kernel_rfl⟩
instance:FT Tryz.prog 93 1 1 1:=⟨by kernel_rfl⟩
instance:FT Tryz.prog 93 3 3 1:=⟨by kernel_rfl⟩
instance:PLT Tryz.prog 113 [(0,1),(1,1),(2,1),(3,1),(4,1),(5,1)]:=⟨_,Tryz.underlying113,by kernel_rfl⟩
instance:SLT Tryz.prog 91 116 3:=⟨by kernel_rfl⟩
instance:ZT Tryz.prog 113 (.agg #[(.pointer none),(.string ⟨#[]⟩),(.int .i64 0),(.int .i64 0),(.bool false),(Sl.val ⟨none,0,0⟩)]):=⟨Tryz.t113,by kernel_rfl,by kernel_rfl⟩
instance:AT Tryz.prog 127 3:=⟨by kernel_rfl⟩
instance:CB Tryz.prog 101:=⟨by kernel_rfl⟩
instance:CB Tryz.prog 119:=⟨by kernel_rfl⟩
instance:CB Tryz.prog 70:=⟨by kernel_rfl⟩
instance:CT Tryz.prog 152:=⟨by kernel_rfl⟩
instance:CT Tryz.prog 33:=⟨by kernel_rfl⟩
instance:CT Tryz.prog 41:=⟨by kernel_rfl⟩
instance:FT Tryz.prog 127 0 0 1:=⟨by kernel_rfl⟩
instance:FT Tryz.prog 127 1 1 1:=⟨by kernel_rfl⟩
instance:FT Tryz.prog 154 0 0 1:=⟨by kernel_rfl⟩
instance:FT Tryz.prog 154 1 1 1:=⟨by kernel_rfl⟩
instance:PLT Tryz.prog 154 [(0,1),(1,1)]:=⟨_,Tryz.underlying154,by kernel_rfl⟩
instance:SLT Tryz.prog 41 127 3:=⟨by kernel_rfl⟩
instance:SZ Tryz.prog 127 3:=⟨by kernel_rfl⟩
instance:SZ Tryz.prog 33 1:=⟨by kernel_rfl⟩
instance:SZ Tryz.prog 41 1:=⟨by kernel_rfl⟩
instance:ZT Tryz.prog 127 (.agg #[(.int .i64 0),(.int .u64 0),(.string ⟨#[]⟩)]):=⟨Tryz.t127,by kernel_rfl,by kernel_rfl⟩
instance:ZT Tryz.prog 154 (.agg #[(.int .u64 0),(.pointer none)]):=⟨Tryz.t154,by kernel_rfl,by kernel_rfl⟩
instance:ZT Tryz.prog 41 (Sl.val ⟨none,0,0⟩):=⟨Tryz.t41,by kernel_rfl,by kernel_rfl⟩
def yN (u:Pt) (g v:Int) (Q:Sl→Bool→K): K :=
 New 41 #[Sl.val ⟨none,0,0⟩] fun a=>
 Nn u fun b=>
 Ld b (Value.int .u64) fun j=>
 Ite (decide (g < j))
  (St a (Sl.val (Sl.mk none 0 0))<|
  Ld a Sl.val fun c=>
  Q c false)
  (St b (.int .u64 g)<|
  Ld (b.add 1) Value.pointer fun k=>
  yF.call k v fun l=>
  vI Tryz.prog l .ret (fun x:Value×Av=>[x.1,.agg x.2]) (fun m n y x=>
   New 127 #[.int .i64 0,.int .u64 0,(.string ⟨#[]⟩)] fun d=>
   StN d 3 x.2<|
   m<|
   Ld a Sl.val fun o=>
   LdN d 3 fun p=>
   Bld #[.int .i64 0,.int .u64 0,(.string ⟨#[]⟩)] (fun i=>some (i * 3,3)) [(0,.agg p)] fun q=>
   New 127 q fun r=>
   Do Tryz.prog (Builtin.append_ #[41,41] 41 #[Sl.val o,(Sl.val (Sl.mk (some r) 1 1))]) Sl.val fun s=>
   St a (Sl.val s)<|
   n)
   (fun f=>
    Ld a Sl.val fun t=>
    St a (Sl.val t)<|
    vL f<|
    Ld a Sl.val fun c=>
    Q c true)
   (fun f=>
    Dead))
theorem uM (a b c Q w) (h:yN a b c Q w):yN.call a b c Q w:=by
 exact zn 33 h Tryz.func36
def qZ  (Q:Pt→K): K :=
 yS.call  fun a=>
 New 154 #[.int .u64 0,.pointer a] fun b=>
 Q (some b)
theorem zAa (Q w) (h:qZ  Q w):qZ.call  Q w:=by
 exact zn 4 h Tryz.func62
def yP.s1 (Q:Bool→K) (i:Pt) (a:Addr) (j:Bool): K :=
 Ite j
  (Q false)
  (Ld (a.add 1) (Value.int .u64) fun c=>
  Nn i fun b=>
  St b (.int .u64 c)<|
  Dr<|
  Ld (b.add 1) Value.pointer fun d=>
  Ld a (Value.int .i64) fun f=>
  LdN a 3 fun g=>
  zM.call d f g fun k l=>
  Q true)
def yP (i:Pt) (j:Av) (Q:Bool→K): K :=
 New 127 j fun a=>
 Dr<|
 Ld (a.add 1) (Value.int .u64) fun c=>
 Nn i fun b=>
 Ld b (Value.int .u64) fun d=>
 Ite (decide (c < d))
  (yP.s1 Q (some b) a true)
  (Ld a (Value.int .i64) fun f=>
  Ite (decide (f < 0))
   (yP.s1 Q (some b) a true)
   (Ld a (Value.int .i64) fun g=>
   yP.s1 Q (some b) a (decide ((64:Int) ≤ g))))
instance:AT Tryz.prog 227 4:=⟨by kernel_rfl⟩
instance:CB Tryz.prog 110:=⟨by kernel_rfl⟩
instance:CB Tryz.prog 127:=⟨by kernel_rfl⟩
instance:CB Tryz.prog 130:=⟨by kernel_rfl⟩
instance:CB Tryz.prog 143:=⟨by kernel_rfl⟩
instance:CB Tryz.prog 145:=⟨by kernel_rfl⟩
instance:CB Tryz.prog 146:=⟨by kernel_rfl⟩
instance:CB Tryz.prog 147:=⟨by kernel_rfl⟩
instance:CB Tryz.prog 148:=⟨by kernel_rfl⟩
instance:CB Tryz.prog 149:=⟨by kernel_rfl⟩
instance:CT Tryz.prog 202:=⟨by kernel_rfl⟩
instance:CT Tryz.prog 217:=⟨by kernel_rfl⟩
instance:CT Tryz.prog 218:=⟨by kernel_rfl⟩
instance:FT Tryz.prog 204 0 0 1:=⟨by kernel_rfl⟩
instance:FT Tryz.prog 204 1 1 1:=⟨by kernel_rfl⟩
instance:FT Tryz.prog 220 0 0 1:=⟨by kernel_rfl⟩
instance:FT Tryz.prog 220 1 1 1:=⟨by kernel_rfl⟩
instance:FT Tryz.prog 227 0 0 1:=⟨by kernel_rfl⟩
instance:FT Tryz.prog 227 1 1 3:=⟨by kernel_rfl⟩
instance:PLT Tryz.prog 204 [(0,1),(1,1)]:=⟨_,Tryz.underlying204,by kernel_rfl⟩
instance:PLT Tryz.prog 220 [(0,1),(1,1)]:=⟨_,Tryz.underlying220,by kernel_rfl⟩
instance:PLT Tryz.prog 227 [(0,1),(1,3)]:=⟨_,Tryz.underlying227,by kernel_rfl⟩
instance:SLT Tryz.prog 217 227 4:=⟨by kernel_rfl⟩
instance:SLT Tryz.prog 218 202 1:=⟨by kernel_rfl⟩
instance:SZ Tryz.prog 202 1:=⟨by kernel_rfl⟩
instance:SZ Tryz.prog 217 1:=⟨by kernel_rfl⟩
instance:SZ Tryz.prog 218 1:=⟨by kernel_rfl⟩
instance:SZ Tryz.prog 227 4:=⟨by kernel_rfl⟩
instance:UN Tryz.prog 206 (.pointer 3):=⟨Tryz.underlying206⟩
instance:UN Tryz.prog 228 (.pointer 227):=⟨Tryz.underlying228⟩
instance:ZT Tryz.prog 202 (.pointer none):=⟨Tryz.t202,by kernel_rfl,by kernel_rfl⟩
instance:ZT Tryz.prog 204 (.agg #[(.pointer none),(.int .i64 0)]):=⟨Tryz.t204,by kernel_rfl,by kernel_rfl⟩
instance:ZT Tryz.prog 220 (.agg #[(Sl.val ⟨none,0,0⟩),(Sl.val ⟨none,0,0⟩)]):=⟨Tryz.t220,by kernel_rfl,by kernel_rfl⟩
instance:ZT Tryz.prog 227 (.agg #[(.int .i64 0),(.int .i64 0),(.int .u64 0),(.string ⟨#[]⟩)]):=⟨Tryz.t227,by kernel_rfl,by kernel_rfl⟩
def yF (c:Pt) (d:Int) (Q:Value→K): K :=
 New 152 #[.pointer c] fun a=>
 New 3 #[.int .i64 d] fun b=>
 Q (.func (.func 109) #[] #[(.pointer (some a)),(.pointer (some b))])
theorem x9 (a b Q w) (h:yF a b Q w):yF.call a b Q w:=by
 exact zn 6 h Tryz.func70
def yS  (Q:Pt→K): K :=
 New 220 #[Sl.val ⟨none,0,0⟩,Sl.val ⟨none,0,0⟩] fun a=>
 New 204 #[(.pointer (some a)),.int .i64 0] fun b=>
 Q (some b)
theorem vo (Q w) (h:yS  Q w):yS.call  Q w:=by
 exact zn 5 h Tryz.func101
def yO (d:Value) (f g:Addr) (Q:K): K :=
 Ld f Value.pointer fun a=>
 Nn a fun b=>
 Ld b Value.pointer fun c=>
 zB.call c (some g) d fun i=>
 Q
theorem xZ (a b c Q w) (h:yO a b c Q w):yO.call a b c Q w:=by
 exact zn 10 h Tryz.func109
def zB.s4 (Q:Bool→K) (b:Pt→Int→K) (f:Addr) (g:Value) (c:Int) (d:Bool): K :=
 Ite d
  (Q false)
  (Ar (IntKind.wrap .i64 (c + 1)) fun a=>
  b none a)
def zB.s3 (Q:Bool→K) (f:Pt→Int→K) (a:Addr) (d:Value) (b:Int) (p:Bool): K :=
 Ite p
  (Q false)
  (Dr<|
  Ld a Sl.val fun g=>
  Ite (decide (b < (g.n:Int)))
   (Ld a Sl.val fun i=>
   Idx i b 4 fun j=>
   Ld j (Value.int .i64) fun k=>
   Ld a Sl.val fun l=>
   Idx l b 4 fun m=>
   LdN (m.add 1) 3 fun o=>
   vK Tryz.prog d [.int .i64 k,.agg o] <| yc (fun (c:Bool)=>Value.bool c) fun c=>
   zB.s4 Q f a d b (!c))
   (zB.s4 Q f a d b false))
def zB.b2 (Q:Bool→K) (d:Pt→Int→K) (m:Pt) (c:Value) (o:Pt) (b:Int): K :=
 Nn m fun a=>
 Ld a Sl.val fun f=>
 Ite (decide (b ≤ (f.n:Int)))
  (Ld (a.add 1) Sl.val fun g=>
  Ite (decide (b < (g.n:Int)))
   (Ld (a.add 1) Sl.val fun i=>
   Idx i b 1 fun j=>
   Ld j Value.pointer fun k=>
   zB.call k o c fun l=>
   zB.s3 Q d a c b (!l))
   (zB.s3 Q d a c b false))
  (Q true)
def zB.s1 (Q:Bool→K) (c d:Pt) (f:Value) (g:Int): K :=
 yR (α:=Pt×Int) (fun X x=>zB.b2 Q (fun a b=>X (a,b)) c f x.1 x.2) (d,g)
def zB (a b:Pt) (d:Value) (Q:Bool→K): K :=
 Ite (!(b).isNone)
  (Nn b fun c=>
  Ld c (Value.int .i64) fun f=>
  ze.call a f fun g i=>
  zB.s1 Q a (some c) d g)
  (zB.s1 Q a b d 0)
theorem vC (q r t Q w) (h:zB q r t Q w):zB.call q r t Q w:=by
 have:∀ (d:(Pt×Int)→K),XH 4 d→JH 10 fun D=>∃ f g j,D [(0,(.pointer (some f))),(2,g),(7,.int .i64 j)] (fun C=>∀ u,C [(0,(.pointer (some f))),(1,.pointer none),(2,g),(7,.int .i64 j),(74,.bool u)] (zB.s4 Q (fun b c=>d (b,c)) f g j u)):=by intros; exact ⟨fun _ ⟨_,_,_,h⟩=>⟨_,_,h⟩⟩
 have:DH 9 1 [25] (.s [0,1,2,3,4,5,6,7] (.i (.s [8,9,10,11,13,17,18,19,21,12,14,15,16,20,22,23,24] (.a [(25,0,.s [26,27] .e)])) (.s [8,9,10,11,12,13,14,15,16,17,18,19,20,21,22,23,24,25,26,27] .e))):=⟨⟩
 have:∀ (d:(Pt×Int)→K),XH 4 d→JH 7 fun D=>∃ k l m,D [(0,(.pointer (some k))),(2,l),(7,.int .i64 m)] (fun C=>∀ v,C [(0,(.pointer (some k))),(2,l),(7,.int .i64 m),(46,.bool v)] (zB.s3 Q (fun b c=>d (b,c)) k l m v)):=by intros; exact ⟨fun _ ⟨_,_,_,h⟩=>⟨_,_,h⟩⟩
 have:∀ y z,LH 4 (fun x:Pt×Int=>[(0,.pointer y),(1,.pointer x.1),(2,z),(7,.int .i64 x.2)]) (fun X x=>zB.b2 Q (fun b c=>X (b,c)) y z x.1 x.2):=fun _ _=>⟨⟩
 have:JH 4 fun D=>∃ n o p,D [(0,.pointer n),(1,.pointer o),(2,p)] (fun C=>∀ aa,C [(0,.pointer n),(1,.pointer o),(2,p),(7,.int .i64 aa)] (zB.s1 Q n o p aa)):=⟨fun _ ⟨_,_,_,h⟩=>⟨_,_,h⟩⟩
 exact zn 75 h Tryz.func110
def zM.s3 (Q:Av→Bool→K) (a d:Addr) (f:Bool): K :=
 LdN d 3 fun b=>
 StN a 3 b<|
 LdN a 3 fun c=>
 Q c f
def zM.s2 (Q:Av→Bool→K) (i:Pt) (c d:Addr) (a:Bool): K :=
 Ite (!a)
  (Nn i fun b=>
  Ld (b.add 1) (Value.int .i64) fun f=>
  Ar (IntKind.wrap .i64 (f + 1)) fun g=>
  St (b.add 1) (.int .i64 g)<|
  zM.s3 Q c d a)
  (zM.s3 Q c d a)
def zM.s1 (Q:Av→Bool→K) (n:Pt) (g j:Addr) (k:Bool) (o p:Pt): K :=
 Ite (!(o).isNone)
  (Dr <| xK fun S=>
  Nn o fun q=>
  Nn n fun a=>
  ji S q 4 fun l=>
  LdS S a Value.pointer fun m=>
  All [
   (Bld #[.int .i64 0,.int .i64 0,.int .u64 0,(.string ⟨#[]⟩)] (fun i=>some (i * 4,4)) [(0,.agg l)] fun b=>
   New 227 b fun c=>
   Sv S<|
   New 202 #[.pointer m,.pointer p] fun d=>
   Sv S<|
   New 220 #[(Sl.val (Sl.mk (some c) 1 1)),(Sl.val (Sl.mk (some d) 2 2))] fun f=>
   St a (.pointer (some f))<|
   zM.s2 Q (some a) g j k),
   (New 202 #[.pointer m,.pointer p] fun d=>
   Sv S<|
   Bld #[.int .i64 0,.int .i64 0,.int .u64 0,(.string ⟨#[]⟩)] (fun i=>some (i * 4,4)) [(0,.agg l)] fun b=>
   New 227 b fun c=>
   Sv S<|
   New 220 #[(Sl.val (Sl.mk (some c) 1 1)),(Sl.val (Sl.mk (some d) 2 2))] fun f=>
   St a (.pointer (some f))<|
   zM.s2 Q (some a) g j k)
   ])
  (zM.s2 Q n g j k)
def zM (n:Pt) (o:Int) (p:Av) (Q:Av→Bool→K): K :=
 New 127 p fun l=>
 New 127 #[.int .i64 0,.int .u64 0,(.string ⟨#[]⟩)] fun i=>
 Dr <| xK fun S=>
 Nn n fun b=>
 LdS S b Value.pointer fun j=>
 ji S l 3 fun m=>
 Bld #[.int .i64 0,.int .i64 0,.int .u64 0,(.string ⟨#[]⟩)] ([(0,1),(1,3)][·]?) [(0,.int .i64 o),(1,.agg m)] fun k=>
 All [
  (zO.call j k fun c d f g=>
  New 127 #[.int .i64 0,.int .u64 0,(.string ⟨#[]⟩)] fun a=>
  StN a 3 c<|
  zM.s1 Q (some b) i a d f g),
  (New 127 #[.int .i64 0,.int .u64 0,(.string ⟨#[]⟩)] fun a=>
  Sv S<|
  zO.call j k fun c d f g=>
  StN a 3 c<|
  zM.s1 Q (some b) i a d f g)
  ]
def ze (f:Pt) (g:Int) (Q:Int→Bool→K): K :=
 Nn f fun a=>
 Ld a Sl.val fun b=>
 zA.call b g (.func (.func 144) #[] #[]) fun c d=>
 Q c d
theorem xg (a b Q w) (h:ze a b Q w):ze.call a b Q w:=by
 exact zn 14 h Tryz.func127
def zO.s2 (Q:Av→Bool→Pt→Pt→K) (a:Addr) (d:Bool) (f g:Addr): K :=
 LdN a 3 fun b=>
 StN a 3 b<|
 LdN a 3 fun c=>
 Q c d (some g) (some f)
def zO.s1 (Q:Av→Bool→Pt→Pt→K) (ab:Pt) (b:Addr) (j:Bool): K :=
 Nn ab fun a=>
 Ld a Sl.val fun k=>
 Ite (decide ((k.n:Int) ≤ 5))
  (LdN b 3 fun l=>
  StN b 3 l<|
  LdN b 3 fun m=>
  Q m j none none)
  (Ld a Sl.val fun o=>
  Idx o 2 4 fun p=>
  LdN p 4 fun q=>
  New 227 #[.int .i64 0,.int .i64 0,.int .u64 0,(.string ⟨#[]⟩)] fun d=>
  StN d 4 q<|
  Ld a Sl.val fun f=>
  Slc f 3 (f.n:Int) (f.c:Int) 4 fun r=>
  zy.call r fun s=>
  New 220 #[Sl.val s,Sl.val ⟨none,0,0⟩] fun g=>
  Ld a Sl.val fun t=>
  Slc t 0 2 2 4 fun u=>
  St a (Sl.val u)<|
  Ld (a.add 1) Sl.val fun v=>
  Ite (decide ((0:Int) < (v.n:Int)))
   (Ld (a.add 1) Sl.val fun i=>
   Slc i 3 (i.n:Int) (i.c:Int) 1 fun x=>
   z8.call x fun y=>
   St (g.add 1) (Sl.val y)<|
   Ld (a.add 1) Sl.val fun z=>
   Slc z 0 3 3 1 fun aa=>
   St (a.add 1) (Sl.val aa)<|
   zO.s2 Q b j g d)
   (zO.s2 Q b j g d))
def zO (f:Pt) (aw:Av) (Q:Av→Bool→Pt→Pt→K): K :=
 New 227 aw fun d=>
 New 127 #[.int .i64 0,.int .u64 0,(.string ⟨#[]⟩)] fun b=>
 Ld d (Value.int .i64) fun l=>
 ze.call f l fun c m=>
 Ite m
  (Nn f fun g=>
  Ld g Sl.val fun o=>
  Idx o c 4 fun p=>
  LdN (p.add 1) 3 fun q=>
  StN b 3 q<|
  Dr<|
  Ld g Sl.val fun r=>
  LdN (d.add 1) 3 fun s=>
  Idx r c 4 fun t=>
  StN (t.add 1) 3 s<|
  LdN b 3 fun u=>
  StN b 3 u<|
  LdN b 3 fun v=>
  Q v true none none)
  (Nn f fun a=>
  Ld (a.add 1) Sl.val fun x=>
  Ite (decide ((x.n:Int) = 0))
   (Dr <| xK fun S=>
   LdS S a Sl.val fun y=>
   ji S d 4 fun z=>
   Bld #[.int .i64 0,.int .i64 0,.int .u64 0,(.string ⟨#[]⟩)] (fun i=>some (i * 4,4)) [(0,.agg z)] fun aa=>
   New 227 aa fun ab=>
   Sv S<|
   zZ.call y c (Sl.mk (some ab) 1 1) fun ac=>
   St a (Sl.val ac)<|
   zO.s1 Q (some a) b false)
   (Dr<|
   Ld (a.add 1) Sl.val fun ad=>
   Idx ad c 1 fun ae=>
   Ld ae Value.pointer fun af=>
   LdN d 4 fun ag=>
   zO.call af ag fun ah j k aj=>
   StN b 3 ah<|
   Ite (!(k).isNone)
    (Dr <| xK fun S=>
    Nn k fun ak=>
    LdS S a Sl.val fun al=>
    ji S ak 4 fun am=>
    Bld #[.int .i64 0,.int .i64 0,.int .u64 0,(.string ⟨#[]⟩)] (fun i=>some (i * 4,4)) [(0,.agg am)] fun an=>
    New 227 an fun ao=>
    Sv S<|
    zZ.call al c (Sl.mk (some ao) 1 1) fun ap=>
    St a (Sl.val ap)<|
    Ld (a.add 1) Sl.val fun aq=>
    Ar (IntKind.wrap .i64 (c + 1)) fun ar=>
    New 202 #[.pointer aj] fun au=>
    zx.call aq ar (Sl.mk (some au) 1 1) fun av=>
    St (a.add 1) (Sl.val av)<|
    zO.s1 Q (some a) b j)
    (zO.s1 Q (some a) b j)))
instance:CB Tryz.prog 158:=⟨by kernel_rfl⟩
instance:CB Tryz.prog 160:=⟨by kernel_rfl⟩
instance:CB Tryz.prog 162:=⟨by kernel_rfl⟩
instance:CB Tryz.prog 163:=⟨by kernel_rfl⟩
instance:CB Tryz.prog 164:=⟨by kernel_rfl⟩
instance:CB Tryz.prog 165:=⟨by kernel_rfl⟩
instance:EXT Tryz.prog 157 (Extern.SlicesOverlaps.overlaps #[217,217] #[4]):=zJD Tryz.func157 (by kernel_rfl) (by kernel_rfl) (by kernel_rfl) (by kernel_rfl)
instance:EXT Tryz.prog 159 (Extern.SlicesOverlaps.overlaps #[218,218] #[4]):=zJD Tryz.func159 (by kernel_rfl) (by kernel_rfl) (by kernel_rfl) (by kernel_rfl)
instance:UN Tryz.prog 217 (.slice 227):=⟨Tryz.underlying217⟩
instance:UN Tryz.prog 218 (.slice 202):=⟨Tryz.underlying218⟩
def zA.s2 (Q:Int→Bool→K) (c:Int→Int→K) (a:Int) (b:Bool): K :=
 Q a b
def zA.b1 (Q:Int→Bool→K) (b:Int→Int→K) (i:Sl) (j:Int) (k:Value) (t a g:Int): K :=
 Ite (decide (a < g))
  (Ar (IntKind.wrap .i64 (a + g)) fun l=>
  Ar (IntKind.wrap .u64 l) fun m=>
  Cd (0 ≤ (1:Int))<|
  Ar (uo .u64 m 1) fun n=>
  Ar (IntKind.wrap .i64 n) fun c=>
  Idx i c 4 fun o=>
  LdN o 4 fun p=>
  uj Tryz.prog k [.agg p,.int .i64 j] <| yc (fun (d:Int)=>(Value.int .i64) d) fun d=>
  Ite (decide (d < 0))
   (Ar (IntKind.wrap .i64 (c + 1)) fun q=>
   b q g)
   (b a c))
  (Ite (decide (a < t))
   (Idx i a 4 fun r=>
   LdN r 4 fun s=>
   uj Tryz.prog k [.agg s,.int .i64 j] <| yc (fun (f:Int)=>(Value.int .i64) f) fun f=>
   zA.s2 Q b a (decide (f = 0)))
   (zA.s2 Q b a false))
def zA (a:Sl) (d:Int) (f:Value) (Q:Int→Bool→K): K :=
 yR (α:=Int×Int) (fun X x=>zA.b1 Q (fun b c=>X (b,c)) a d f (a.n:Int) x.1 x.2) (0,(a.n:Int))
theorem yK (c d f Q w) (h:zA c d f Q w):zA.call c d f Q w:=by
 have:∀ g,XH 3 g→JH 1000008 fun D=>D [] (fun C=>∀ i j,C [(6,.int .i64 i),(7,.bool j)] (zA.s2 Q (fun a b=>g (a,b)) i j)):=by intros; exact ⟨fun _ h=>⟨_,_,h⟩⟩
 have:∀ k l m n,LH 3 (fun x:Int×Int=>[(0,Sl.val k),(1,.int .i64 l),(2,m),(8,.int .i64 n),(9,.int .i64 x.1),(10,.int .i64 x.2)]) (fun X x=>zA.b1 Q (fun a b=>X (a,b)) k l m n x.1 x.2):=fun _ _ _ _=>⟨⟩
 exact zn 49 h Tryz.func143
def zZ (b:Sl) (f:Int) (d:Sl) (Q:Sl→K): K :=
 Slc b f (b.n:Int) (b.c:Int) 4 fun ae=>
 Ite (decide ((d.n:Int) = 0))
  (Q b)
  (Ite (decide (f = (b.n:Int)))
   (Do Tryz.prog (Builtin.append_ #[217,217] 217 #[Sl.val b,Sl.val d]) Sl.val fun i=>
   Q i)
   (Ar (IntKind.wrap .i64 ((b.n:Int) + (d.n:Int))) fun j=>
   Do Tryz.prog (Builtin.cap_ #[217] 3 #[Sl.val b]) (Value.int .i64) fun k=>
   Ite (decide (k < j))
    (Slc b 0 f (b.c:Int) 4 fun l=>
    Ar (IntKind.wrap .i64 ((b.n:Int) + (d.n:Int))) fun m=>
    Ar (IntKind.wrap .i64 (m - f)) fun o=>
    Do Tryz.prog (Builtin.append_ #[217,3] 217 #[Sl.val l,.int .i64 o]) Sl.val fun g=>
    Slc g f (g.n:Int) (g.c:Int) 4 fun p=>
    Do Tryz.prog (Builtin.copy_ #[217,217] 3 #[Sl.val p,Sl.val d]) (Value.int .i64) fun af=>
    Dr<|
    Ar (IntKind.wrap .i64 (f + (d.n:Int))) fun q=>
    Slc g q (g.n:Int) (g.c:Int) 4 fun r=>
    Slc b f (b.n:Int) (b.c:Int) 4 fun s=>
    Do Tryz.prog (Builtin.copy_ #[217,217] 3 #[Sl.val r,Sl.val s]) (Value.int .i64) fun ag=>
    Q g)
    (Ar (IntKind.wrap .i64 ((b.n:Int) + (d.n:Int))) fun t=>
    Slc b 0 t (b.c:Int) 4 fun a=>
    Ar (IntKind.wrap .i64 (f + (d.n:Int))) fun u=>
    Slc a u (a.n:Int) (a.c:Int) 4 fun v=>
    Rd Tryz.prog (Extern.SlicesOverlaps.overlaps #[217,217] #[4] [Sl.val d,Sl.val v].toArray) Value.bool fun x=>
    Ite (!x)
     (Dr<|
     Ar (IntKind.wrap .i64 (f + (d.n:Int))) fun y=>
     Slc a y (a.n:Int) (a.c:Int) 4 fun z=>
     Slc a f (a.n:Int) (a.c:Int) 4 fun aa=>
     Do Tryz.prog (Builtin.copy_ #[217,217] 3 #[Sl.val z,Sl.val aa]) (Value.int .i64) fun ah=>
     Slc a f (a.n:Int) (a.c:Int) 4 fun ab=>
     Do Tryz.prog (Builtin.copy_ #[217,217] 3 #[Sl.val ab,Sl.val d]) (Value.int .i64) fun aj=>
     Q a)
     (Slc a (b.n:Int) (a.n:Int) (a.c:Int) 4 fun ac=>
     Do Tryz.prog (Builtin.copy_ #[217,217] 3 #[Sl.val ac,Sl.val d]) (Value.int .i64) fun ak=>
     Slc a f (a.n:Int) (a.c:Int) 4 fun ad=>
     yw.call ad (d.n:Int)<|
     Q a))))
def zx (b:Sl) (f:Int) (d:Sl) (Q:Sl→K): K :=
 Slc b f (b.n:Int) (b.c:Int) 1 fun ae=>
 Ite (decide ((d.n:Int) = 0))
  (Q b)
  (Ite (decide (f = (b.n:Int)))
   (Do Tryz.prog (Builtin.append_ #[218,218] 218 #[Sl.val b,Sl.val d]) Sl.val fun i=>
   Q i)
   (Ar (IntKind.wrap .i64 ((b.n:Int) + (d.n:Int))) fun j=>
   Do Tryz.prog (Builtin.cap_ #[218] 3 #[Sl.val b]) (Value.int .i64) fun k=>
   Ite (decide (k < j))
    (Slc b 0 f (b.c:Int) 1 fun l=>
    Ar (IntKind.wrap .i64 ((b.n:Int) + (d.n:Int))) fun m=>
    Ar (IntKind.wrap .i64 (m - f)) fun o=>
    Do Tryz.prog (Builtin.append_ #[218,3] 218 #[Sl.val l,.int .i64 o]) Sl.val fun g=>
    Slc g f (g.n:Int) (g.c:Int) 1 fun p=>
    Do Tryz.prog (Builtin.copy_ #[218,218] 3 #[Sl.val p,Sl.val d]) (Value.int .i64) fun af=>
    Dr<|
    Ar (IntKind.wrap .i64 (f + (d.n:Int))) fun q=>
    Slc g q (g.n:Int) (g.c:Int) 1 fun r=>
    Slc b f (b.n:Int) (b.c:Int) 1 fun s=>
    Do Tryz.prog (Builtin.copy_ #[218,218] 3 #[Sl.val r,Sl.val s]) (Value.int .i64) fun ag=>
    Q g)
    (Ar (IntKind.wrap .i64 ((b.n:Int) + (d.n:Int))) fun t=>
    Slc b 0 t (b.c:Int) 1 fun a=>
    Ar (IntKind.wrap .i64 (f + (d.n:Int))) fun u=>
    Slc a u (a.n:Int) (a.c:Int) 1 fun v=>
    Rd Tryz.prog (Extern.SlicesOverlaps.overlaps #[218,218] #[4] [Sl.val d,Sl.val v].toArray) Value.bool fun x=>
    Ite (!x)
     (Dr<|
     Ar (IntKind.wrap .i64 (f + (d.n:Int))) fun y=>
     Slc a y (a.n:Int) (a.c:Int) 1 fun z=>
     Slc a f (a.n:Int) (a.c:Int) 1 fun aa=>
     Do Tryz.prog (Builtin.copy_ #[218,218] 3 #[Sl.val z,Sl.val aa]) (Value.int .i64) fun ah=>
     Slc a f (a.n:Int) (a.c:Int) 1 fun ab=>
     Do Tryz.prog (Builtin.copy_ #[218,218] 3 #[Sl.val ab,Sl.val d]) (Value.int .i64) fun aj=>
     Q a)
     (Slc a (b.n:Int) (a.n:Int) (a.c:Int) 1 fun ac=>
     Do Tryz.prog (Builtin.copy_ #[218,218] 3 #[Sl.val ac,Sl.val d]) (Value.int .i64) fun ak=>
     Slc a f (a.n:Int) (a.c:Int) 1 fun ad=>
     yx.call ad (d.n:Int)<|
     Q a))))
def zy (b:Sl) (Q:Sl→K): K :=
 Ite ((b).a.isNone)
  (Q (Sl.mk none 0 0))
  (New 227 #[] fun c=>
  Do Tryz.prog (Builtin.append_ #[217,217] 217 #[(Sl.val (Sl.mk (some c) 0 0)),Sl.val b]) Sl.val fun d=>
  Q d)
def z8 (b:Sl) (Q:Sl→K): K :=
 Ite ((b).a.isNone)
  (Q (Sl.mk none 0 0))
  (New 202 #[] fun c=>
  Do Tryz.prog (Builtin.append_ #[218,218] 218 #[(Sl.val (Sl.mk (some c) 0 0)),Sl.val b]) Sl.val fun d=>
  Q d)
def yw (a:Sl) (c:Int) (Q:K): K :=
 Ar (IntKind.wrap .i64 ((a.n:Int) - c)) fun b=>
 y5.call a b<|
 Q
def yx (a:Sl) (c:Int) (Q:K): K :=
 Ar (IntKind.wrap .i64 ((a.n:Int) - c)) fun b=>
 y7.call a b<|
 Q
def y5 (a:Sl) (b:Int) (Q:K): K :=
 Slc a 0 b (a.c:Int) 4 fun d=>
 zF.call d<|
 Slc a b (a.n:Int) (a.c:Int) 4 fun f=>
 zF.call f<|
 zF.call a<|
 Q
def y7 (a:Sl) (b:Int) (Q:K): K :=
 Slc a 0 b (a.c:Int) 1 fun d=>
 zG.call d<|
 Slc a b (a.n:Int) (a.c:Int) 1 fun f=>
 zG.call f<|
 zG.call a<|
 Q
def zF.b1 (Q:K) (n:Int→Int→K) (a:Sl) (b c:Int): K :=
 Ite (decide (b < c))
  (Dr<|
  Idx a c 4 fun d=>
  Idx a b 4 fun f=>
  LdN d 4 fun g=>
  LdN f 4 fun i=>
  Idx a b 4 fun j=>
  StN j 4 g<|
  Idx a c 4 fun k=>
  StN k 4 i<|
  Ar (IntKind.wrap .i64 (b + 1)) fun l=>
  Ar (IntKind.wrap .i64 (c - 1)) fun m=>
  n l m)
  (Q)
def zF (a:Sl) (Q:K): K :=
 Ar (IntKind.wrap .i64 ((a.n:Int) - 1)) fun b=>
 yR (α:=Int×Int) (fun X x=>zF.b1 Q (fun c d=>X (c,d)) a x.1 x.2) (0,b)
def zG.b1 (Q:K) (n:Int→Int→K) (a:Sl) (b c:Int): K :=
 Ite (decide (b < c))
  (Dr<|
  Idx a c 1 fun d=>
  Idx a b 1 fun f=>
  Ld d Value.pointer fun g=>
  Ld f Value.pointer fun i=>
  Idx a b 1 fun j=>
  St j (.pointer g)<|
  Idx a c 1 fun k=>
  St k (.pointer i)<|
  Ar (IntKind.wrap .i64 (b + 1)) fun l=>
  Ar (IntKind.wrap .i64 (c - 1)) fun m=>
  n l m)
  (Q)
def zG (a:Sl) (Q:K): K :=
 Ar (IntKind.wrap .i64 ((a.n:Int) - 1)) fun b=>
 yR (α:=Int×Int) (fun X x=>zG.b1 Q (fun c d=>X (c,d)) a x.1 x.2) (0,b)
end
section
open Go Go.Sep
section
variable {B w:World} {Γ:List zC}
theorem zDj {s:Sl} {xs:List UInt8} {j:Nat} {x:UInt8} {k:Int→K} (hr:RdB w s xs) (hx:xs[j]? = some x) (hk:k (x.toNat:Int) w):Idx s (j:Int) 1 (fun t=>Ld t (Value.int .u8) k) w:=by
 have e:xs.map qA = (xs.map fun b=>(b.toNat:Int)).map (Value.int .u8):=by rw [List.map_map]; rfl
 have hr2:RdC w s 1 ((xs.map fun b=>(b.toNat:Int)).map (Value.int .u8)):=by rw [← e]; exact hr
 exact zDe hr2 (by rw [List.getElem?_map,hx]; rfl) hk
theorem zFW {w:World} {s:Sl} {xs:List UInt8} (h:RdB w s xs) (hx:xs ≠ []):∀ a,s.a = some a→a.spot = none:=by
 intro a ha
 have h1:=h.at' a ha 0 (by have:=List.length_pos_iff.2 hx; simpa using this)
 have e:a.add 0 = a:=by simp [Addr.add]
 rw [e] at h1
 unfold World.cell? at h1
 cases hs:a.spot with
 | none=>rfl
 | some y=>
  exfalso
  have h2:(xs.map qA)[0]? ≠ none:=by
   cases xs with
   | nil=>exact absurd rfl hx
   | cons x xs=>simp
  split at h1
  ·simp only [hs,Option.isSome_some,if_true] at h1
   exact h2 h1.symm
  ·exact h2 h1.symm
theorem zAb {g x:Sl} {xs ys:List UInt8} {k:Sl→K} (h:Holds B (Bytes zP g xs::Γ) w) (hy:RdB w x ys) (hroom:xs.length + ys.length ≤ 1000000000)
  (hk:∀ s w,Holds B (Bytes zP s (xs++ys)::Γ) w→s.n = xs.length + ys.length→(g.a.isSome = true→s.a.isSome = true)→k s w) :
  Do Tryz.prog (Builtin.append_ #[zT,zT] zT #[g.val,x.val]) Sl.val k w:=by
 have h1:xs.length = g.n:=by have:=h.jK.1; simpa using this
 have h2:ys.length = x.n:=by have:=hy.len; simpa using this
 refine zBn h (by kernel_rfl) (by kernel_rfl) (by':=1) (by kernel_rfl) zD8 rfl hy (zG6 _) (by omega) (by decide) fun s' w h hn ha=>hk s' w ?_ (by omega) ha
 have e:xs.map qA++ys.map qA = (xs++ys).map qA:=by simp
 rw [e] at h
 exact h
theorem jE {b n:Nat} {cs:Array Value} {xs:List UInt8} (hc:cs.toList = xs.map qA) (hn:xs.length = n) (h:Holds B (blk b (.cells cs zP (0,0))::Γ) w):Holds B (Bytes zP ⟨some ⟨b,0,none⟩,n,n⟩ xs::Γ) w :=
 h.imp (zKw hc (by simp [hn]))
theorem Bytes.len {s:Sl} {xs:List UInt8} (h:Holds B (Bytes zP s xs::Γ) w):xs.length = s.n:=by have:=h.jK.1; simpa using this
theorem Bytes.rd {s:Sl} {xs:List UInt8} (h:Holds B Γ w) (hm:Bytes zP s xs ∈ Γ):RdB w s xs:=h.rdC (E:=zP) hm
theorem zJi {w:World} {s:Sl} {d:List UInt8} {n c:Nat} (h:RdB w s d) (hn:n ≤ s.n):RdB w ⟨s.a,n,c⟩ (d.take n):=by
 have h1:=h.take (m:=n) (c:=c) hn
 show RdC w _ 1 ((d.take n).map qA)
 rw [List.map_take]
 simpa using h1
end
end
section
open Go Go.Sep
theorem ofInt32 (x:BitVec 32):BitVec.ofInt (IntKind.bits .u32) (x.toNat:Int) = x:=by
 show BitVec.ofInt 32 (x.toNat:Int) = x
 rw [BitVec.ofInt_natCast,BitVec.ofNat_toNat,BitVec.setWidth_eq]
theorem zHm (x:BitVec 32):IntKind.wrap .u32 (x.toNat:Int) = x.toNat:=zHY (by omega) (by have:=x.isLt; omega)
theorem zJj (x y:BitVec 32):bitsOf .xor .u32 (x.toNat:Int) (y.toNat:Int) = ((x ^^^ y).toNat:Int):=by
 unfold bitsOf
 simp only [ofInt32]
 exact zHm _
theorem zNx (x y:BitVec 32):bitsOf .and .u32 (x.toNat:Int) (y.toNat:Int) = ((x &&& y).toNat:Int):=by
 unfold bitsOf
 simp only [ofInt32]
 exact zHm _
theorem zHn (x:BitVec 32) (n:Nat) (hn:n < 32):uo .u32 (x.toNat:Int) (n:Int) = ((x >>> n).toNat:Int):=by
 unfold uo
 have:min ((n:Int).toNat) (IntKind.bits .u32) = n:=by simp [IntKind.bits]; omega
 rw [this,BitVec.toNat_ushiftRight,Nat.shiftRight_eq_div_pow,Int.fdiv_eq_ediv_of_nonneg _ (Int.le_of_lt (Int.pow_pos (by decide))),Int.natCast_ediv,Int.natCast_pow]
 rfl
def zG8 (s:BitVec 32):BitVec 32:=if s &&& 1 = 1 then (s >>> 1) ^^^ 2197175160#32 else s >>> 1
def zEC:Nat→BitVec 32→BitVec 32
 | 0,s=>s
 | n + 1,s=>zEC n (zG8 s)
theorem zEb:∀ (n:Nat) (s:BitVec 32),zEC (n + 1) s = zG8 (zEC n s)
 | 0,s=>rfl
 | n + 1,s=>by rw [zEC,zEb n]; rfl
def zKz (s:BitVec 32) (b:UInt8):BitVec 32:=zEC 8 (s ^^^ b.toBitVec.setWidth 32)
def zED (xs:List UInt8):BitVec 32:=xs.foldl zKz 4294967295#32
def zNy (xs:List UInt8):BitVec 32:=4294967295#32 ^^^ zED xs
section
variable {B w:World} {Γ:List zC}
theorem zK0 (x:UInt8):IntKind.wrap .u32 (x.toNat:Int) = ((x.toBitVec.setWidth 32).toNat:Int):=by
 have:=x.toNat_lt
 rw [zHY (by omega) (by omega),BitVec.toNat_setWidth]
 have e:x.toBitVec.toNat = x.toNat:=rfl
 rw [e,Nat.mod_eq_of_lt (by omega)]
theorem zEE {s:Sl} {xs:List UInt8} {k:Int→K} (hl:xs.length ≤ 1000000000) (h:Holds B Γ w) (hr:∀ w,Holds B Γ w→RdB w s xs) (hk:∀ w,Holds B Γ w→k ((zNy xs).toNat:Int) w):qF.call s k w:=by
 have hn:xs.length = s.n:=by have:=(hr w h).len; simpa using this
 refine zGH _ _ _ ?_
 unfold qF
 refine yR.of (fun t w=>∃ j:Nat,t = (((zED (xs.take j)).toNat:Int),(j:Int))∧j ≤ xs.length∧Holds B Γ w) (fun t _=>((s.n:Int) - t.2).toNat) ⟨0,rfl,by omega,h⟩ ?_
 clear h
 rintro t w ⟨j,rfl,hj,h⟩
 dsimp only
 unfold qF.b1
 refine yV (fun hb=>?_) (fun hb=>?_)
 ·simp only [decide_eq_true_eq] at hb
  have hjl:j < xs.length:=by omega
  have hx:xs[j]? = some xs[j]:=List.getElem?_eq_getElem hjl
  generalize hX:xs[j] = x at hx
  refine zDj (hr w h) hx ?_
  refine qX (zK0 x) ?_
  refine qX (zJj _ _) ?_
  refine yR.of (fun t w=>∃ i:Nat,t = (((zEC i (zED (xs.take j) ^^^ x.toBitVec.setWidth 32)).toNat:Int),(i:Int))∧i ≤ 8∧Holds B Γ w) (fun t _=>((8:Int) - t.2).toNat) ⟨0,rfl,by omega,h⟩ ?_
  clear h
  rintro t w ⟨i,rfl,hi,h⟩
  dsimp only
  unfold qF.b2
  refine yV (fun hb2=>?_) (fun hb2=>?_)
  ·simp only [decide_eq_true_eq] at hb2
   have hS:=zEb i (zED (xs.take j) ^^^ x.toBitVec.setWidth 32)
   have key:∀ w,Holds B Γ w→(fun (t:Int×Int) w=>∃ i:Nat,t = (((zEC i (zED (xs.take j) ^^^ x.toBitVec.setWidth 32)).toNat:Int),(i:Int))∧i ≤ 8∧Holds B Γ w) (((zG8 (zEC i (zED (xs.take j) ^^^ x.toBitVec.setWidth 32))).toNat:Int),((i:Int) + 1)) w:=fun w h=>by
    refine ⟨i + 1,?_,by omega,h⟩
    rw [hS]
    simp
   clear hS
   generalize zEC i (zED (xs.take j) ^^^ x.toBitVec.setWidth 32) = S at key
   refine qX (zNx S 1#32) ?_
   refine zD6 (by decide) ?_
   refine qX (zHn S 1 (by decide)) ?_
   have e1:((S &&& 1#32).toNat:Int) = 1 ↔ S &&& 1 = 1:=by
    constructor
    ·intro h1
     apply BitVec.eq_of_toNat_eq
     have:(S &&& 1#32).toNat = 1:=by omega
     exact this
    ·intro h1
     have:(S &&& 1#32).toNat = 1:=by rw [show S &&& 1#32 = 1 from h1]; rfl
     omega
   refine yV (fun hb3=>?_) (fun hb3=>?_)
   ·simp only [decide_eq_true_eq] at hb3
    refine qX (zJj (S >>> 1) 2197175160#32) ?_
    unfold qF.s3
    refine jT (by omega) (by omega) ?_
    have e2:zG8 S = (S >>> 1) ^^^ 2197175160#32:=by unfold zG8; rw [if_pos (e1.1 hb3)]
    rw [← e2]
    exact ⟨key _ h,by omega⟩
   ·simp only [decide_eq_false_iff_not] at hb3
    unfold qF.s3
    refine jT (by omega) (by omega) ?_
    have e2:zG8 S = S >>> 1:=by unfold zG8; rw [if_neg (fun h2=>hb3 (e1.2 h2))]
    rw [← e2]
    exact ⟨key _ h,by omega⟩
  ·simp only [decide_eq_false_iff_not] at hb2
   have hi8:i = 8:=by omega
   subst hi8
   refine jT (by omega) (by omega) ?_
   refine ⟨⟨j + 1,?_,by omega,h⟩,by omega⟩
   have e:zED (xs.take (j + 1)) = zEC 8 (zED (xs.take j) ^^^ x.toBitVec.setWidth 32):=by
    rw [List.take_succ_eq_append_getElem hjl,hX]
    unfold zED
    rw [List.foldl_append]
    rfl
   rw [e]
   simp
 ·simp only [decide_eq_false_iff_not] at hb
  have hj2:j = xs.length:=by omega
  subst hj2
  refine qX (zJj 4294967295#32 _) ?_
  rw [List.take_length]
  exact hk _ h
end
end
end Go.Proofs.YtgmbfnboiobeaaaGreat
namespace Go.Sep
section
open Go Go.RowKit
def HG (B:World) (Γ:List zC) (k:K):Prop:=∀ w,Holds B Γ w→k w
class Own (b:Nat) (Γ:List zC) (A:outParam zC) (Δ:outParam (List zC)):Prop where perm:Γ.Perm (A::Δ)
class zFX (s:Sl) (Γ:List zC) (A:outParam zC) (Δ:outParam (List zC)):Prop where perm:Γ.Perm (A::Δ)
class Pick (A:zC) (Γ:List zC) (Δ:outParam (List zC)):Prop where perm:Γ.Perm (A::Δ)
class Drops (Γ Δ:List zC):Prop where imp:∀ {h:Hp},stars Γ h→stars Δ h
theorem zAr {A X:zC} {Γ Δ:List zC} (h:Γ.Perm (A::Δ)):(X::Γ).Perm (A::X::Δ):=(h.cons X).trans (List.Perm.swap _ _ _)
instance (priority:=low) zNz {b:Nat} {X A:zC} {Γ Δ:List zC} [h:Own b Γ A Δ]:Own b (X::Γ) A (X::Δ):=⟨zAr h.perm⟩
instance (priority:=high) zOD {b:Nat} {o:Obj} {Γ:List zC}:Own b (blk b o::Γ) (blk b o) Γ:=⟨.refl _⟩
instance (priority:=low) zM3 {s:Sl} {X A:zC} {Γ Δ:List zC} [h:zFX s Γ A Δ]:zFX s (X::Γ) A (X::Δ):=⟨zAr h.perm⟩
instance (priority:=high) zOE {E esz:Nat} {s:Sl} {vs:List Value} {Γ:List zC}:zFX s (SlC E esz s vs::Γ) (SlC E esz s vs) Γ:=⟨.refl _⟩
instance (priority:=high) zOF {E:Nat} {s:Sl} {vs:List UInt8} {Γ:List zC}:zFX s (Bytes E s vs::Γ) (Bytes E s vs) Γ:=⟨.refl _⟩
instance (priority:=low) zM4 {A X:zC} {Γ Δ:List zC} [h:Pick A Γ Δ]:Pick A (X::Γ) (X::Δ):=⟨zAr h.perm⟩
instance (priority:=high) zM5 {A:zC} {Γ:List zC}:Pick A (A::Γ) Γ:=⟨.refl _⟩
instance (priority:=high) zMk {A:zC} {Γ Γ' Δ:List zC} [p:Pick A Γ Γ'] [d:Drops Γ' Δ]:Drops Γ (A::Δ):=⟨fun h=>jF (fun _ h=>h) (fun _ h=>d.imp h) (zDN p.perm h)⟩
instance zMl {Γ:List zC}:Drops Γ Γ:=⟨fun h=>h⟩
instance (priority:=low) zM6 {Γ:List zC}:Drops Γ []:=⟨fun _=>trivial⟩
instance (priority:=low) zMm {A:zC} {Γ Δ:List zC} [d:Drops Γ Δ]:Drops (A::Γ) Δ:=⟨fun h=>d.imp (zDL h)⟩
section
variable {B w:World} {Γ Δ:List zC} {k:K} {A A':zC}
theorem Holds.drops (h:Holds B Γ w) [d:Drops Γ Δ]:Holds B Δ w:=⟨h.below,d.imp h.stars⟩
theorem hg (h:Holds B Γ w) (hk:HG B Γ k):k w:=hk w h
theorem xD (h:HG B Δ k) [d:Drops Γ Δ]:HG B Γ k:=fun w hw=>h w hw.drops
theorem zG9 {α:Sort _} {F:α→zC} (h:∀ x,HG B (F x::Γ) k):HG B (Sep.ex F::Γ) k:=fun w hw=>by
 obtain ⟨x,hx⟩:=Holds.ex.1 hw; exact h x w hx
theorem zLp {p:Prop} (h:p→HG B Γ k):HG B (pur p::Γ) k:=fun w hw=>by
 obtain ⟨hp,hx⟩:=Holds.pur.1 hw; exact h hp w hx
theorem zFY (h:HG B (Δ++Γ) k):HG B (Sep.stars Δ::Γ) k:=fun w hw=>h w (Holds.flat.1 hw)
theorem xI (A:zC) (h:HG B (A::Δ) k) [p:Pick A Γ Δ]:HG B Γ k:=fun w hw=>h w (hw.perm p.perm)
theorem zBs (b:Nat) (h:HG B (A::Δ) k) [p:Own b Γ A Δ]:HG B Γ k:=fun w hw=>h w (hw.perm p.perm)
theorem zFZ (s:Sl) (h:HG B (A::Δ) k) [p:zFX s Γ A Δ]:HG B Γ k:=fun w hw=>h w (hw.perm p.perm)
theorem zMn (h:HG B (A'::A::Γ) k):HG B (A::A'::Γ) k:=fun w hw=>h w hw.swap
theorem zA6 {b:Bool} {x y:K} (h1:b = true→HG B Γ x) (h2:b = false→HG B Γ y):HG B Γ (Ite b x y):=fun w hw=>⟨fun hb=>h1 hb w hw,fun hb=>h2 hb w hw⟩
theorem s_t {b:Bool} {x y:K} (h:HG B Γ x) (hb:b = true:=by first | rfl | (simp; done) | (simp; omega)):HG B Γ (Ite b x y):=fun w hw=>qJ hb (h w hw)
theorem s_f {b:Bool} {x y:K} (h:HG B Γ y) (hb:b = false:=by first | rfl | (simp; done) | (simp; omega)):HG B Γ (Ite b x y):=fun w hw=>zf hb (h w hw)
theorem jR {e e':Int} {k:Int→K} (he:e = e') (h:HG B Γ (k e')):HG B Γ (Ar e k):=fun w hw=>qX he (h w hw)
theorem zJk {e:Int} {k:Int→K} (h:HG B Γ (k e)) (h0:-9223372036854775808 ≤ e:=by omega) (h1:e ≤ 9223372036854775807:=by omega):HG B Γ (Ar (IntKind.wrap .i64 e) k):=jR (wrap64 h0 h1) h
theorem zJl {p:Prop} (hp:p) (h:HG B Γ k):HG B Γ (Cd p k):=fun w hw=>⟨hp,h w hw⟩
theorem zAD {a:Addr} {k:Addr→K} (h:HG B Γ (k a)):HG B Γ (Nn (some a) k):=fun w hw=>⟨a,rfl,h w hw⟩
theorem zMo (h:HG B Γ k):HG B Γ (Dr k):=fun w hw=>zDS hw fun w hw=>h w hw
theorem zOq {k:(World→Prop)→K} (h:HG B Γ (k (Holds B Γ))):HG B Γ (xK k):=fun w hw=>⟨Holds B Γ,hw,h w hw⟩
theorem zN0 (h:HG B Γ k) [d:Drops Γ Δ]:HG B Γ (Sv (Holds B Δ) k):=fun w hw=>⟨hw.drops,h w hw⟩
theorem zN1 {α:Type} {cs:List Value} {off:Nat} {c:α→Value} {x:α} {k:α→K} (h:HG B Γ (k x)) (hv:nth cs off = some (c x):=by rfl):HG B Γ (Fld cs.toArray off c k):=fun w hw=>⟨x,by rw [zCD] at hv; simpa using hv,h w hw⟩
theorem zLq {a b:ByteArray} {k:ByteArray→K} (hl:((a.size + b.size:Nat):Int) ≤ 9223372036854775807) (h:HG B Γ (k (a++b))):HG B Γ (Cat a b k):=fun w hw=>⟨_,hl,rfl,h w hw⟩
theorem zMp {zero:List Value} {cs:List Value} {n:Nat} {k:Array Value→K} (h:HG B Γ (k cs.toArray)) (hz:zero.length = n:=by rfl) (hn:cs.length = n:=by rfl):HG B Γ (Bld zero.toArray (fun i=>some (i * n,n)) [(0,.agg cs.toArray)] k):=fun w hw=>zL8 (by simpa using hz) (by simpa using hn) (h w hw)
class jL (a:Addr) (b off:outParam Nat):Prop where h:a = ⟨b,off,none⟩
instance zOr {b off:Nat}:jL ⟨b,off,none⟩ b off:=⟨rfl⟩
instance zOG {b off n:Nat}:jL ((⟨b,off,none⟩:Addr).add n) b (off + n):=⟨yC _ _ _⟩
theorem uF {T:TypeId} {cs:Array Value} {k:Addr→K} (h:∀ b,HG B (blk b (.cells cs T (0,0))::Γ) (k ⟨b,0,none⟩)):HG B Γ (New T cs k):=fun w hw=>vR hw fun b w hw=>h b w hw
theorem zAs {b:Nat} {o:Obj} (h:Holds B Γ w) [p:Own b Γ (blk b o) Δ]:w.heap[b]? = some o:=(h.perm p.perm).block
theorem uN {α:Type} {a:Addr} {b off:Nat} {l:List Value} {T:TypeId} {fz:Nat×Nat} {c:α→Value} {x:α} {k:α→K} (h:HG B Γ (k x)) [ad:jL a b off] [p:Own b Γ (blk b (.cells l.toArray T fz)) Δ] (hv:nth l off = some (c x):=by rfl):HG B Γ (Ld a c k):=fun w hw=>
 ⟨x,by rw [ad.h]; exact qQ (zAs hw (p:=p)) (by rw [zCD] at hv; simpa using hv),h w hw⟩
theorem zHo {b off n:Nat} {l l':List Value} {T:TypeId} {fz:Nat×Nat} (h:w.heap[b]? = some (.cells l.toArray T fz)) (hl:(l.drop off).take n = l') (hn:l'.length = n):RdN w ⟨b,off,none⟩ l'.toArray:=by
 refine zIA h fun i hi=>?_
 have hi':i < l'.length:=by simpa using hi
 have:l'[i]? = l[off + i]?:=by rw [← hl,List.getElem?_take,if_pos (by omega),List.getElem?_drop]
 simpa using this.symm
theorem zN2 {a:Addr} {b off n:Nat} {l l':List Value} {T:TypeId} {fz:Nat×Nat} {k:Array Value→K} (h:HG B Γ (k l'.toArray)) [ad:jL a b off] [p:Own b Γ (blk b (.cells l.toArray T fz)) Δ]
  (hl:(l.drop off).take n = l':=by first | rfl | simp only [Nat.zero_add,Nat.reduceAdd,List.drop_zero,List.drop_succ_cons,List.take_succ_cons,List.take_zero]) (hn:l'.length = n:=by rfl):HG B Γ (LdN a n k):=fun w hw=>
 ⟨l'.toArray,by simpa using hn,by rw [ad.h]; exact zHo (zAs hw (p:=p)) hl hn,h w hw⟩
variable {Γ0:List zC}
theorem zHp {α:Type} {a:Addr} {b off:Nat} {l:List Value} {T:TypeId} {fz:Nat×Nat} {c:α→Value} {x:α} {k:α→K} (h:HG B Γ (k x)) [ad:jL a b off] [p:Own b Γ0 (blk b (.cells l.toArray T fz)) Δ] (hv:nth l off = some (c x):=by rfl):HG B Γ (LdS (Holds B Γ0) a c k):=fun w hw=>
 ⟨x,fun w' hw'=>by rw [ad.h]; exact qQ (zAs hw' (p:=p)) (by rw [zCD] at hv; simpa using hv),h w hw⟩
theorem zMq {a:Addr} {b off n:Nat} {l l':List Value} {T:TypeId} {fz:Nat×Nat} {k:Array Value→K} (h:HG B Γ (k l'.toArray)) [ad:jL a b off] [p:Own b Γ0 (blk b (.cells l.toArray T fz)) Δ]
  (hl:(l.drop off).take n = l':=by first | rfl | simp only [Nat.zero_add,Nat.reduceAdd,List.drop_zero,List.drop_succ_cons,List.take_succ_cons,List.take_zero]) (hn:l'.length = n:=by rfl):HG B Γ (ji (Holds B Γ0) a n k):=fun w hw=>
 ⟨l'.toArray,by simpa using hn,fun w' hw'=>by rw [ad.h]; exact zHo (zAs hw' (p:=p)) hl hn,h w hw⟩
theorem t0 {v x0:Value} {l:List Value}:(x0::l).set 0 v = v::l:=rfl
theorem t1 {v x0 x1:Value} {l:List Value}:(x0::x1::l).set 1 v = x0::v::l:=rfl
theorem t2 {v x0 x1 x2:Value} {l:List Value}:(x0::x1::x2::l).set 2 v = x0::x1::v::l:=rfl
theorem t3 {v x0 x1 x2 x3:Value} {l:List Value}:(x0::x1::x2::x3::l).set 3 v = x0::x1::x2::v::l:=rfl
theorem t4 {v x0 x1 x2 x3 x4:Value} {l:List Value}:(x0::x1::x2::x3::x4::l).set 4 v = x0::x1::x2::x3::v::l:=rfl
theorem t5 {v x0 x1 x2 x3 x4 x5:Value} {l:List Value}:(x0::x1::x2::x3::x4::x5::l).set 5 v = x0::x1::x2::x3::x4::v::l:=rfl
theorem t6 {v x0 x1 x2 x3 x4 x5 x6:Value} {l:List Value}:(x0::x1::x2::x3::x4::x5::x6::l).set 6 v = x0::x1::x2::x3::x4::x5::v::l:=rfl
theorem t7 {v x0 x1 x2 x3 x4 x5 x6 x7:Value} {l:List Value}:(x0::x1::x2::x3::x4::x5::x6::x7::l).set 7 v = x0::x1::x2::x3::x4::x5::x6::v::l:=rfl
theorem zJm {l l':List Value} {off:Nat} {v:Value} (h:l.set off v = l':=by first | exact t0 | exact t1 | exact t2 | exact t3 | exact t4 | exact t5 | exact t6 | exact t7 | rfl):l.set off v = l':=h
theorem zGK {a:Addr} {b off:Nat} {l l':List Value} {T:TypeId} {v:Value} (h:HG B (blk b (.cells l'.toArray T (0,0))::Δ) k) [ad:jL a b off] [p:Own b Γ (blk b (.cells l.toArray T (0,0))) Δ] (ho:Nat.ble (off + 1) l.length = true:=by rfl)
  (hl:l.set off v = l':=by exact zJm) (hv:qV v = true:=by rfl):HG B Γ (St a v k):=fun w hw=>by
 have h1:=hw.perm p.perm
 refine S0 h1 ad.h (by have:=Nat.le_of_ble_eq_true ho; simp only [List.size_toArray]; omega) hv fun w2 h2=>h w2 ?_
 rw [N6,hl] at h2; exact h2
theorem zN3 {a:Addr} {b n:Nat} {l l':List Value} {T:TypeId} (h:HG B (blk b (.cells l'.toArray T (0,0))::Δ) k) [ad:jL a b 0] [p:Own b Γ (blk b (.cells l.toArray T (0,0))) Δ] (hn:l.length = n:=by rfl) (hn':l'.length = n:=by rfl)
  (hf:l'.all qV = true:=by rfl):HG B Γ (StN a n l'.toArray k):=fun w hw=>
 T0 (hw.perm p.perm) ad.h (by simpa using hn) (by simpa using hn') (fun v hv=>List.all_eq_true.1 hf v (by simpa using hv)) fun w2 h2=>h w2 h2
theorem zCM {s:Sl} {E esz:Nat} {vs:List Value} (h:Holds B Γ w) [p:zFX s Γ (SlC E esz s vs) Δ]:RdC w s esz vs∧vs.length = s.n * esz∧s.n ≤ s.c∧(∀ a,s.a = some a→a.spot = none)∧(s.a = none→s.c = 0):=by
 have h1:=h.perm p.perm
 exact ⟨h1.rdC List.mem_cons_self,h1.jK⟩
theorem zK1 {s:Sl} {E esz:Nat} {vs:List Value} (h:Holds B Γ w) (p:zFX s Γ (SlC E esz s vs) Δ):vs.length = s.n * esz∧s.n ≤ s.c∧(∀ a,s.a = some a→a.spot = none)∧(s.a = none→s.c = 0):=(zCM h (p:=p)).2
theorem zEc (s:Sl) {E esz:Nat} {vs:List Value} [p:zFX s Γ (SlC E esz s vs) Δ] (h:vs.length = s.n * esz→s.n ≤ s.c→(∀ a,s.a = some a→a.spot = none)→(s.a = none→s.c = 0)→HG B Γ k):HG B Γ k:=fun w hw=>by
 obtain ⟨h1,h2,h3,h4⟩:=zK1 hw p
 exact h h1 h2 h3 h4 w hw
end
end
section
open Go Go.RowKit
def zMr (P:Program) (T U E esz:Nat):Bool:=sliceT P T E esz && zGD P U && match P.info? E with
 | some i=>Nat.ble i.bytes 1000 && !Nat.beq i.bytes 0 && match i.zero with
  | some z=>Nat.beq z.cells.size esz && z.cells.toList.all qV
  | none=>false
 | none=>false
theorem zIO {P:Program} {T U E esz:Nat} (h:zMr P T U E esz = true):sliceT P T E esz = true∧zGD P U = true∧∃ n zv,zCH P E n = true∧n ≤ 1000∧n ≠ 0∧uE P E zv∧zv.cells.size = esz∧∀ v ∈ zv.cells.toList,qV v = true:=by
 unfold zMr at h
 simp only [Bool.and_eq_true] at h
 obtain ⟨⟨h1,h2⟩,h3⟩:=h
 refine ⟨h1,h2,?_⟩
 split at h3
 ·rename_i i hi
  simp only [Bool.and_eq_true,Bool.not_eq_true'] at h3
  obtain ⟨⟨h4,h5⟩,h6⟩:=h3
  split at h6
  ·rename_i z hz
   simp only [Bool.and_eq_true] at h6
   refine ⟨i.bytes,z,by unfold zCH; rw [hi]; simp,Nat.le_of_ble_eq_true h4,(fun e=>by rw [e] at h5; cases h5),⟨i,hi,hz⟩,Nat.eq_of_beq_eq_true h6.1,List.all_eq_true.1 h6.2⟩
  ·cases h6
 ·cases h3
section
variable {P:Program} {B w:World} {Γ Δ:List zC} {E esz:Nat} {s x:Sl} {vs us:List Value}
theorem zDk {T U Tr:Nat} {k:Sl→K} (hx:∀ w,Holds B Γ w→RdC w x esz us) (hfl:∀ u ∈ us,qV u = true) (hroom:s.n + x.n ≤ 100000000) (h:∀ s',s'.n = s.n + x.n→HG B (SlC E esz s' (vs++us)::Δ) (k s')) [p:zFX s Γ (SlC E esz s vs) Δ] (hT:zMr P T U E esz = true:=by kernel_rfl) :
  HG B Γ (Do P (Builtin.append_ #[T,U] Tr #[s.val,x.val]) Sl.val k):=fun w hw=>by
 obtain ⟨h1,h2,n,zv,h3,h4,h5,h6,h7,_⟩:=zIO hT
 refine zBn (hw.perm p.perm) h1 h2 h3 h6 h7 (hx w hw) hfl ?_ h5 fun s' w' h' hn _=>h s' hn w' h'
 have h8:(2 * (s.n + x.n) + 800) * n ≤ 200000800 * 1000:=Nat.mul_le_mul (by omega) h4
 omega
end
end
section
open Go Go.RowKit
section
variable {P:Program} {B w:World} {Γ Δ Δ2:List zC} {E esz:Nat} {s x:Sl} {vs us:List Value}
theorem zAc {t:Nat} {cs:List Value} {T:TypeId} {k:Nat} (he:cs.length = esz) [q:Own t Γ (blk t (.cells cs.toArray T (0,0))) Δ]:∀ w,Holds B Γ w→RdC w ⟨some ⟨t,0,none⟩,1,k⟩ esz cs:=fun w hw=>
 RdC.zG5 (E:=T) (hw.perm q.perm) List.mem_cons_self (by simp) (by simpa using he) k
end
section
variable {P:Program} {B w:World} {Γ Δ:List zC} {k:K}
theorem least {p:Nat→Prop} (h:∃ n,p n):∃ n,p n∧∀ m,p m→n ≤ m:=by
 obtain ⟨n,hn⟩:=h
 induction n using Nat.strongRecOn with
 | ind n ih=>
  by_cases h:∃ m,m < n∧p m
  ·obtain ⟨m,h1,h2⟩:=h; exact ih m h1 h2
  ·exact ⟨n,hn,fun m hm=>Nat.le_of_not_lt fun h2=>h ⟨m,h2,hm⟩⟩
theorem zCN {α ι:Type} {body:(α→K)→α→K} {x:α} (J:α→ι→Prop) (Γf:α→ι→List zC) (m:α→ι→Nat) (i:ι) (h0:J x i)
  (h:∀ (k':α→K) x i,J x i→(∀ x' i',J x' i'→m x' i' < m x i→HG B (Γf x' i') (k' x'))→HG B (Γf x i) (body k' x)) (hΓ:Γf x i = Γ:=by rfl):HG B Γ (yR body x):=fun w hw=>by
 subst hΓ
 let I:α→World→Prop:=fun x w=>∃ i,J x i∧Holds B (Γf x i) w
 let p:α→World→Nat→Prop:=fun x w n=>∃ i,J x i∧Holds B (Γf x i) w∧m x i = n
 have hp:∀ x w,I x w→∃ n,p x w n:=fun x w ⟨i,h1,h2⟩=>⟨_,i,h1,h2,rfl⟩
 let μ:α→World→Nat:=fun x w=>@dite _ (I x w) (Classical.propDecidable _) (fun h=>Classical.choose (least (hp x w h))) fun _=>0
 have hμ:∀ x w (h:I x w),p x w (μ x w)∧∀ n,p x w n→μ x w ≤ n:=fun x w h=>by
  have:=Classical.choose_spec (least (hp x w h))
  simpa [μ,h] using this
 refine yR.of I μ ⟨i,h0,hw⟩ fun x w hI=>?_
 obtain ⟨i,hj,hw,hm⟩:=(hμ x w hI).1
 refine h _ x i hj (fun x' i' hj' hlt w' hw'=>⟨⟨i',hj',hw'⟩,?_⟩) w hw
 have:=(hμ x' w' ⟨i',hj',hw'⟩).2 _ ⟨i',hj',hw',rfl⟩
 omega
theorem zHq {α:Type} {body:(α→K)→α→K} {x:α} (J:α→Prop) (m:α→Nat) (h0:J x)
  (h:∀ (k':α→K) x,J x→(∀ x',J x'→m x' < m x→HG B Γ (k' x'))→HG B Γ (body k' x)):HG B Γ (yR body x) :=
 zCN (ι:=Unit) (fun x _=>J x) (fun _ _=>Γ) (fun x _=>m x) () h0 fun k' x _ hj hk=>h k' x hj fun x' hj' hm=>hk x' () hj' hm
end
abbrev bs (l:List UInt8):ByteArray:=⟨l.toArray⟩
abbrev xW (l:List UInt8):Value:=.string (bs l)
theorem zAt (l:List UInt8):(bs l).toList = l:=by simp
section
variable {B w:World} {Γ Δ:List zC} {k:K} {α:Type} {F:α→zC} {A C:List α} {x:α}
theorem zJn:(((A++x::C).map F)++Γ).Perm (((A++C).map F)++F x::Γ):=by
 have h2:((A++x::C).map F).Perm (F x::(A++C).map F):=(List.perm_middle (a:=x) (l₁:=A) (l₂:=C)).map _
 refine (h2.append_right Γ).trans ?_
 exact (List.perm_middle (a:=F x) (l₁:=(A++C).map F) (l₂:=Γ)).symm
theorem zK2 (h:HG B (Sep.stars ((A++x::C).map F)::Γ) k):HG B (F x::Sep.stars ((A++C).map F)::Γ) k:=fun w hw=>
 h w (Holds.flat.2 ((Holds.flat.1 hw.swap).perm zJn.symm))
end
section
variable {P:Program} {B w:World} {Γ Δ:List zC}
theorem zDl {α:Type} {c:α→Value} {L:List α} {s:Sl} {j:Nat} {jj:Int} {x:α} {k:α→K} (hr:∀ w,Holds B Γ w→RdC w s 1 (L.map c)) (hx:L[j]? = some x) (h:HG B Γ (k x)) (hj:jj = (j:Int):=by first | rfl | omega):HG B Γ (Idx s jj 1 fun t=>Ld t c k):=fun w hw=>by
 subst hj; exact zDe (hr w hw) hx (h w hw)
end
end
end Go.Sep
namespace Go.Proofs.YtgmbfnboiobeaaaGreat
section
open Go Go.Sep
def u8 (n:Nat):UInt8:=UInt8.ofNat n
theorem u8N (n:Nat):(u8 n).toNat = n % 256:=by simp [u8,UInt8.toNat_ofNat']
theorem zAK (n:Nat):IntKind.wrap .u8 (n:Int) = ((u8 n).toNat:Int):=by
 rw [u8N]
 unfold IntKind.wrap
 simp [IntKind.bits,IntKind.signed]
theorem zLr (n:Nat) (k:Nat) (hk:k < 64):uo .i64 (n:Int) (k:Int) = ((n / 2 ^ k:Nat):Int):=by
 unfold uo
 have:min ((k:Int).toNat) (IntKind.bits .i64) = k:=by simp [IntKind.bits]; omega
 rw [this,Int.fdiv_eq_ediv_of_nonneg _ (Int.le_of_lt (Int.pow_pos (by decide))),Int.natCast_ediv,Int.natCast_pow]
 rfl
end
section
open Go Go.Sep
def hd2 (n:Nat):List UInt8:=[u8 (n / 256),u8 n]
def zGL (b:List UInt8):BitVec 32:=zNy (hd2 b.length++b)
def hd6 (b:List UInt8):List UInt8:=hd2 b.length++[u8 (zGL b).toNat,u8 ((zGL b >>> 8).toNat),u8 ((zGL b >>> 16).toNat),u8 ((zGL b >>> 24).toNat)]
def qN (b:List UInt8):List UInt8:=hd6 b++b
theorem zHr (b:List UInt8):(hd6 b).length = 6:=rfl
theorem yj (b:List UInt8):(qN b).length = 6 + b.length:=by simp [qN,zHr]
section
variable {B w:World} {Γ:List zC}
theorem zCO {s:Sl} {b:List UInt8} {k:Int→K} (hl:b.length ≤ 100000000) (h:Holds B Γ w) (hr:∀ w,Holds B Γ w→RdB w s b) (hk:∀ w,Holds B Γ w→k ((zGL b).toNat:Int) w):vT.call s k w:=by
 have hn:b.length = s.n:=by have:=(hr w h).len; simpa using this
 refine zDh _ _ _ ?_
 unfold vT
 refine zD6 (by decide) ?_
 rw [← hn]
 refine qX (zLr _ 8 (by decide)) ?_
 refine qX (zAK _) ?_
 refine qX (zAK _) ?_
 refine vR h ?_
 clear h
 intro t10 w h
 try simp only [yC,Nat.zero_add,Nat.reduceAdd]
 replace h:=jE (xs:=hd2 b.length) (n:=2) (by rfl) rfl h
 refine zAb h (hr _ h.tail) (by simp [hd2]; omega) fun t12 w h _ _=>?_
 refine zEE (by simp [hd2]; omega) h (fun w h=>Bytes.rd h List.mem_cons_self) fun w h=>?_
 exact hk _ h.tail
theorem uZ {s:Sl} {b:List UInt8} {k:Sl→Int→K} (hl:b.length ≤ 4096) (h:Holds B Γ w) (hr:∀ w,Holds B Γ w→RdB w s b) (hk:∀ f w,Holds B (Bytes zP f (qN b)::Γ) w→k f 0 w):xw.call s k w:=by
 have hn:b.length = s.n:=by have:=(hr w h).len; simpa using this
 refine zEA _ _ _ ?_
 unfold xw
 refine zf (by simp only [decide_eq_false_iff_not]; omega) ?_
 refine zCO (by omega) h hr fun w h=>?_
 refine zD6 (by decide) ?_
 rw [← hn]
 refine qX (zLr _ 8 (by decide)) ?_
 refine qX (zAK _) ?_
 refine qX (zAK _) ?_
 refine qX (zAK _) ?_
 refine zD6 (by decide) ?_
 refine qX (zHn _ 8 (by decide)) ?_
 refine qX (zAK _) ?_
 refine zD6 (by decide) ?_
 refine qX (zHn _ 16 (by decide)) ?_
 refine qX (zAK _) ?_
 refine zD6 (by decide) ?_
 refine qX (zHn _ 24 (by decide)) ?_
 refine qX (zAK _) ?_
 refine vR h ?_
 clear h
 intro t29 w h
 try simp only [yC,Nat.zero_add,Nat.reduceAdd]
 replace h:=jE (xs:=hd6 b) (n:=6) (by rfl) rfl h
 refine zAb h (hr _ h.tail) (by rw [zHr]; omega) fun t32 w h _ _=>?_
 exact hk _ _ h
theorem jV {a b:Sl} {xs ys:List UInt8} {k:Bool→K} (hl:xs.length ≤ 1000000000) (h:Holds B Γ w) (hx:∀ w,Holds B Γ w→RdB w a xs) (hy:∀ w,Holds B Γ w→RdB w b ys)
  (hk:∀ w,Holds B Γ w→k (decide (xs = ys)) w):zi.call a b k w:=by
 have hn:xs.length = a.n:=by have:=(hx w h).len; simpa using this
 have hm:ys.length = b.n:=by have:=(hy w h).len; simpa using this
 refine jC _ _ _ _ ?_
 unfold zi
 refine yV (fun hb=>?_) (fun hb=>?_)
 ·simp only [decide_eq_true_eq] at hb
  have:=hk w h
  rw [decide_eq_false (fun e=>hb (by rw [e] at hn; omega))] at this
  exact this
 simp only [decide_eq_false_iff_not] at hb
 refine yR.of (fun t w=>∃ j:Nat,t = (j:Int)∧j ≤ xs.length∧xs.take j = ys.take j∧Holds B Γ w) (fun t _=>((a.n:Int) - t).toNat) ⟨0,rfl,by omega,rfl,h⟩ ?_
 clear h
 rintro t w ⟨j,rfl,hj,he,h⟩
 unfold zi.b1
 refine yV (fun hb2=>?_) (fun hb2=>?_)
 ·simp only [decide_eq_true_eq] at hb2
  refine zDS h ?_
  clear h
  intro w h
  have hxj:xs[j]? = some xs[j]:=List.getElem?_eq_getElem (by omega)
  have hyj:ys[j]? = some ys[j]:=List.getElem?_eq_getElem (by omega)
  generalize hX:xs[j] = x at hxj
  generalize hY:ys[j] = y at hyj
  refine zDj (hx w h) hxj ?_
  refine zDj (hy w h) hyj ?_
  refine yV (fun hne=>?_) (fun hne=>?_)
  ·simp only [decide_eq_true_eq] at hne
   have h1:xs ≠ ys:=fun e=>by
    subst e
    rw [hxj] at hyj
    cases hyj
    exact hne rfl
   have:=hk w h
   rw [decide_eq_false h1] at this
   exact this
  ·simp only [decide_eq_false_iff_not,Decidable.not_not] at hne
   have hxy:x = y:=UInt8.toNat_inj.1 (by omega)
   refine jT (by omega) (by omega) ?_
   refine ⟨⟨j + 1,by omega,by omega,?_,h⟩,by omega⟩
   rw [List.take_succ_eq_append_getElem (by omega:j < xs.length),List.take_succ_eq_append_getElem (by omega:j < ys.length),he,hX,hY,hxy]
 ·simp only [decide_eq_false_iff_not] at hb2
  have h1:xs = ys:=by
   rw [List.take_of_length_le (by omega),List.take_of_length_le (by omega)] at he
   exact he
  have:=hk w h
  rw [decide_eq_true h1] at this
  exact this
end
end
section
open Go Go.Sep
section
variable {B w:World} {Γ:List zC}
def zS (d:List UInt8):List UInt8×Nat×Nat :=
 if d.length < 6 then ([],0,30)
 else
  let n:=256 * (d.getD 0 0).toNat + (d.getD 1 0).toNat
  if 4096 < n then ([],0,31)
  else if d.length - 6 < n then ([],0,30)
  else if qN ((d.drop 6).take n) = d.take (6 + n) then ((d.drop 6).take n,6 + n,0) else ([],0,33)
theorem zOs (x:Nat) (hx:x < 256):zBU .i64 (x:Int) 8 = ((x * 256:Nat):Int):=by
 unfold zBU
 have:min ((8:Int).toNat) (IntKind.bits .i64) = 8:=rfl
 rw [this]
 rw [wrap64 (by omega) (by omega)]
 omega
theorem zOt (x y:Nat) (hx:x < 256) (hy:y < 256):bitsOf .or .i64 ((x * 256:Nat):Int) (y:Int) = ((256 * x + y:Nat):Int):=by
 unfold bitsOf
 simp only
 have h1:(BitVec.ofInt (IntKind.bits .i64) ((x * 256:Nat):Int) ||| BitVec.ofInt (IntKind.bits .i64) (y:Int)).toNat = 256 * x + y:=by
  show (BitVec.ofInt 64 ((x * 256:Nat):Int) ||| BitVec.ofInt 64 (y:Int)).toNat = _
  rw [BitVec.toNat_or,BitVec.ofInt_natCast,BitVec.ofInt_natCast,BitVec.toNat_ofNat,BitVec.toNat_ofNat,Nat.mod_eq_of_lt (by omega),Nat.mod_eq_of_lt (by omega)]
  have h4:=Nat.two_pow_add_eq_or_of_lt (i:=8) (b:=y) (by omega) x
  have h5:2 ^ 8 * x = x * 256:=by omega
  rw [h5] at h4
  omega
 rw [h1,wrap64 (by omega) (by omega)]
theorem vv {s:Sl} {d:List UInt8} {k:Sl→Int→Int→K} (hl:d.length ≤ 100000000) (h:Holds B Γ w) (hr:∀ w,Holds B Γ w→RdB w s d) (hcap:s.n ≤ s.c)
  (hk:∀ f w,Holds B (Bytes zP f (zS d).1::Γ) w→k f ((zS d).2.1:Int) ((zS d).2.2:Int) w):xB.call s k w:=by
 have hn:d.length = s.n:=by have:=(hr w h).len; simpa using this
 refine zC1 _ _ _ ?_
 unfold xB
 unfold zS at hk
 refine yV (fun hb=>?_) (fun hb=>?_)
 ·simp only [decide_eq_true_eq] at hb
  rw [if_pos (by omega)] at hk
  exact hk _ _ (h.jo _ _)
 simp only [decide_eq_false_iff_not] at hb
 rw [if_neg (by omega)] at hk
 have hsp:=zFW (hr w h) (fun e=>by rw [e] at hn; simp at hn; omega)
 refine zDS h ?_
 clear h
 intro w h
 have h0:d[0]? = some (d.getD 0 0):=by
  have:0 < d.length:=by omega
  simp [List.getD,List.getElem?_eq_getElem this]
 have h1:d[1]? = some (d.getD 1 0):=by
  have:1 < d.length:=by omega
  simp [List.getD,List.getElem?_eq_getElem this]
 have hx:=(d.getD 0 0).toNat_lt
 have hy:=(d.getD 1 0).toNat_lt
 generalize d.getD 0 0 = x at h0 hx hk
 generalize d.getD 1 0 = y at h1 hy hk
 refine zDj (j:=0) (hr w h) h0 ?_
 refine qX (wrap64 (by omega) (by omega)) ?_
 refine zD6 (by decide) ?_
 refine qX (zOs _ (by omega)) ?_
 refine zDj (j:=1) (hr w h) h1 ?_
 refine qX (wrap64 (by omega) (by omega)) ?_
 refine qX (zOt _ _ (by omega) (by omega)) ?_
 generalize 256 * x.toNat + y.toNat = n at hk
 simp only at hk
 refine yV (fun hb2=>?_) (fun hb2=>?_)
 ·simp only [decide_eq_true_eq] at hb2
  rw [if_pos (by omega)] at hk
  exact hk _ _ (h.jo _ _)
 simp only [decide_eq_false_iff_not] at hb2
 rw [if_neg (by omega)] at hk
 refine qX (wrap64 (by omega) (by omega)) ?_
 refine yV (fun hb3=>?_) (fun hb3=>?_)
 ·simp only [decide_eq_true_eq] at hb3
  rw [if_pos (by omega)] at hk
  exact hk _ _ (h.jo _ _)
 simp only [decide_eq_false_iff_not] at hb3
 rw [if_neg (by omega)] at hk
 have e6:(6:Int) + (n:Int) = ((6 + n:Nat):Int):=by omega
 refine qX (e':=((6 + n:Nat):Int)) (by rw [wrap64 (by omega) (by omega)]; omega) ?_
 refine ⟨_,by omega,by omega,by omega,by omega,rfl,?_⟩
 simp only [Int.toNat_natCast,show (6:Int).toNat = 6 from rfl]
 have hd6:∀ w,Holds B Γ w→RdB w ⟨vY s.a 6 s.c 1,6 + n - 6,s.c - 6⟩ ((d.drop 6).take n):=fun w h=>by
  have h1:=(hr w h).drop (l:=6) (c:=s.c) (by omega) hcap hsp
  have h2:=h1.take (m:=n) (c:=s.c - 6) (by simp only; omega)
  have e:6 + n - 6 = n:=by omega
  rw [e]
  show RdC w _ 1 (((d.drop 6).take n).map qA)
  rw [List.map_take,List.map_drop]
  simpa using h2
 have hdl:((d.drop 6).take n).length = n:=by simp; omega
 refine uZ (b:=(d.drop 6).take n) (by omega) h hd6 fun f w h=>?_
 refine qX (e':=((6 + n:Nat):Int)) (by rw [wrap64 (by omega) (by omega)]; omega) ?_
 refine ⟨_,by omega,by omega,by omega,by omega,rfl,?_⟩
 simp only [Int.toNat_natCast,show (0:Int).toNat = 0 from rfl,zMg hsp,Nat.sub_zero]
 have hfl:=yj ((d.drop 6).take n)
 refine jV (xs:=qN ((d.drop 6).take n)) (ys:=d.take (6 + n)) (by omega) h (fun w h=>Bytes.rd h List.mem_cons_self) (fun w h=>by
  have h1:=(hr w h.tail).take (m:=6 + n) (c:=s.c) (by omega)
  show RdC w _ 1 ((d.take (6 + n)).map qA)
  rw [List.map_take]
  simpa using h1) fun w h=>?_
 by_cases he:qN ((d.drop 6).take n) = d.take (6 + n)
 ·rw [if_pos he] at hk
  rw [decide_eq_true he]
  refine zf rfl ?_
  have hfn:=Bytes.len h
  have hfc:=h.jK
  refine ⟨_,by omega,by omega,by omega,by omega,rfl,?_⟩
  simp only [Int.toNat_natCast,show (6:Int).toNat = 6 from rfl]
  have h2:=h.imp (SlC.zNw (l:=6) (by omega))
  have e2:((qN ((d.drop 6).take n)).map qA).drop (6 * 1) = ((d.drop 6).take n).map qA:=by
   rw [← List.map_drop]
   congr 1
  rw [e2] at h2
  have e3:f.n = 6 + n:=by omega
  have:=hk _ _ h2
  rw [e3] at this ⊢
  exact this
 ·rw [if_neg he] at hk
  rw [decide_eq_false he]
  refine qJ rfl ?_
  exact hk _ _ (h.tail.jo _ _)
end
theorem uR {b:List UInt8} (rest:List UInt8) (hb:b.length ≤ 4096):zS (qN b++rest) = (b,6 + b.length,0):=by
 have hl:(qN b++rest).length = 6 + b.length + rest.length:=by rw [List.length_append,yj]
 have h0:(qN b++rest).getD 0 0 = u8 (b.length / 256):=rfl
 have h1:(qN b++rest).getD 1 0 = u8 b.length:=rfl
 have hd:(qN b++rest).drop 6 = b++rest:=rfl
 have ht:(qN b++rest).take (6 + b.length) = qN b:=by rw [List.take_append_of_le_length (by rw [yj]; omega),List.take_of_length_le (by rw [yj]; omega)]
 have hn:256 * (u8 (b.length / 256)).toNat + (u8 b.length).toNat = b.length:=by rw [u8N,u8N]; omega
 unfold zS
 rw [if_neg (by omega),h0,h1]
 simp only [hn]
 rw [if_neg (by omega),if_neg (by omega),hd,ht,List.take_append_of_le_length (Nat.le_refl _),List.take_length,if_pos rfl]
structure zMs (d:List UInt8):Prop where
 le:(zS d).2.1 ≤ d.length
 ok:(zS d).2.2 = 0→6 ≤ (zS d).2.1∧(zS d).1.length + 6 = (zS d).2.1∧d = qN (zS d).1++d.drop (zS d).2.1
 no:(zS d).2.2 ≠ 0→(zS d).1 = []∧(zS d).2.1 = 0
 small:(zS d).1.length ≤ 4096
 err:(zS d).2.2 ≤ 33
theorem zIP (d:List UInt8):zMs d:=by
 by_cases h1:d.length < 6
 ·have e:zS d = ([],0,30):=by unfold zS; rw [if_pos h1]
  constructor <;> simp [e]
 by_cases h2:4096 < 256 * (d.getD 0 0).toNat + (d.getD 1 0).toNat
 ·have e:zS d = ([],0,31):=by unfold zS; rw [if_neg h1]; simp only; rw [if_pos h2]
  constructor <;> simp [e]
 by_cases h3:d.length - 6 < 256 * (d.getD 0 0).toNat + (d.getD 1 0).toNat
 ·have e:zS d = ([],0,30):=by unfold zS; rw [if_neg h1]; simp only; rw [if_neg h2,if_pos h3]
  constructor <;> simp [e]
 obtain ⟨n,hn⟩:∃ n,n = 256 * (d.getD 0 0).toNat + (d.getD 1 0).toNat:=⟨_,rfl⟩
 by_cases h4:qN ((d.drop 6).take n) = d.take (6 + n)
 ·have e:zS d = ((d.drop 6).take n,6 + n,0):=by unfold zS; rw [if_neg h1]; simp only; rw [← hn,if_neg (by omega),if_neg (by omega),if_pos h4]
  constructor
  ·rw [e]; simp only; omega
  ·intro _
   rw [e]
   refine ⟨by simp only; omega,by simp; omega,?_⟩
   simp only
   rw [h4,List.take_append_drop]
  ·intro h; rw [e] at h; exact absurd rfl h
  ·rw [e]; simp; omega
  ·rw [e]; simp
 ·have e:zS d = ([],0,33):=by unfold zS; rw [if_neg h1]; simp only; rw [← hn,if_neg (by omega),if_neg (by omega),if_neg h4]
  constructor <;> simp [e]
theorem zMs.all {d:List UInt8}:zMs d:=zIP d
theorem zEd {x y r s:List UInt8} (hx:x.length ≤ 4096) (hy:y.length ≤ 4096) (h:qN x++r = qN y++s):x = y∧r = s:=by
 have h1:=uR r hx
 rw [h,uR s hy] at h1
 have h2:x = y:=(congrArg Prod.fst h1).symm
 subst h2
 exact ⟨rfl,List.append_cancel_left h⟩
section
variable {B w:World} {Γ:List zC}
theorem zGM {w:World} {s:Sl} {d:List UInt8} {i:Nat} (h:RdB w s d) (hi:i ≤ s.n) (hcap:s.n ≤ s.c) (hsp:∀ a,s.a = some a→a.spot = none):RdB w ⟨vY s.a i s.c 1,s.n - i,s.c - i⟩ (d.drop i):=by
 have h2:=h.drop (l:=i) (c:=s.c) hi hcap hsp
 simp only [Nat.mul_one] at h2
 show RdC w _ 1 ((d.drop i).map qA)
 rw [List.map_drop]
 exact h2
end
end
section
open Go Go.Sep
def uD (n:Nat):List UInt8:=if h:n < 128 then [u8 n] else u8 (n % 128 + 128)::uD (n / 128)
termination_by n
decreasing_by omega
theorem uO {n:Nat} (h:n < 128):uD n = [u8 n]:=by rw [uD,dif_pos h]
theorem zAd {n:Nat} (h:¬ n < 128):uD n = u8 (n % 128 + 128)::uD (n / 128):=by rw [uD,dif_neg h]
theorem xP:∀ (k n:Nat),n < 128 ^ (k + 1)→(uD n).length ≤ k + 1
 | 0,n,h=>by rw [uO (by omega)]; simp
 | k + 1,n,h=>by
  by_cases hn:n < 128
  ·rw [uO hn]; simp
  ·rw [zAd hn]
   have:n / 128 < 128 ^ (k + 1):=Nat.div_lt_of_lt_mul (by rw [Nat.pow_succ] at h; omega)
   have:=xP k _ this
   simp only [List.length_cons]; omega
theorem zLs (n:Nat):bitsOf .or .u8 (IntKind.wrap .u8 (n:Int)) 128 = ((u8 (n % 128 + 128)).toNat:Int):=by
 rw [zAK]
 unfold bitsOf
 simp only
 have key:∀ x:BitVec 8,(x ||| 128#8).toNat = x.toNat % 128 + 128:=by decide
 have h2:(BitVec.ofInt (IntKind.bits .u8) ((u8 n).toNat:Int) ||| BitVec.ofInt (IntKind.bits .u8) 128).toNat = (BitVec.ofInt (IntKind.bits .u8) ((u8 n).toNat:Int)).toNat % 128 + 128:=key (BitVec.ofInt 8 ((u8 n).toNat:Int))
 have h3:(BitVec.ofInt (IntKind.bits .u8) ((u8 n).toNat:Int)).toNat = (u8 n).toNat:=by
  show (BitVec.ofInt 8 ((u8 n).toNat:Int)).toNat = _
  rw [BitVec.ofInt_natCast,BitVec.toNat_ofNat,Nat.mod_eq_of_lt (by have:=(u8 n).toNat_lt; omega)]
 rw [h2,h3,zAK]
 simp only [u8N]
 omega
theorem zJo (n:Nat) (k:Nat) (hk:k < 64):uo .u64 (n:Int) (k:Int) = ((n / 2 ^ k:Nat):Int):=by
 unfold uo
 have:min ((k:Int).toNat) (IntKind.bits .u64) = k:=by simp [IntKind.bits]; omega
 rw [this,Int.fdiv_eq_ediv_of_nonneg _ (Int.le_of_lt (Int.pow_pos (by decide))),Int.natCast_ediv,Int.natCast_pow]
 rfl
end
section
open Go Go.Sep
section
variable {B w:World} {Γ:List zC}
theorem qb {b:Sl} {xs:List UInt8} {k:Sl→K} (h:Holds B Γ w) (hr:∀ w,Holds B Γ w→RdB w b xs) (hl:xs.length ≤ 1000000000)
  (hk:∀ s w,Holds B (Bytes zP s xs::Γ) w→s.a.isNone = b.a.isNone→k s w):zh.call b k w:=by
 refine jA _ _ _ ?_
 unfold zh
 refine yV (fun hb=>?_) (fun hb=>?_)
 ·have hx:xs = []:=by
   have h1:=(hr w h).nil (by simpa using hb)
   have h2:=(hr w h).len
   rw [h1] at h2; simpa using h2
  subst hx
  exact hk _ _ (h.jo _ _) (by rw [hb]; rfl)
 ·refine vR h ?_
  clear h
  intro t w h
  try simp only [yC,Nat.zero_add,Nat.reduceAdd]
  replace h:=jE (xs:=[]) (n:=0) (by rfl) rfl h
  refine zAb h (hr w h.tail) (by simp; omega) fun s w h hs ha=>?_
  refine hk s w h ?_
  rw [hb]
  have:=ha rfl
  cases hh:s.a <;> simp [hh] at this ⊢
end
end
section
open Go Go.Sep
section
variable {B w:World} {Γ:List zC}
theorem zBt {p:Nat} {g:Sl} {xs:List UInt8} {n:Nat} {k:K} (hl:xs.length + n ≤ 1000000) (h:Holds B (blk p (.cells #[g.val] q8 (0,0))::Bytes zP g xs::Γ) w)
  (hk:∀ g' w,Holds B (blk p (.cells #[g'.val] q8 (0,0))::Bytes zP g' (xs++uD n)::Γ) w→k w):yY.call (some ⟨p,0,none⟩) (n:Int) k w:=by
 refine zAJ _ _ _ _ ?_
 unfold yY
 refine yR.of (fun t w=>∃ (m:Nat) (ys:List UInt8) (g':Sl),t = (m:Int)∧xs++uD n = ys++uD m∧ys.length + m ≤ 1000000∧Holds B (blk p (.cells #[g'.val] q8 (0,0))::Bytes zP g' ys::Γ) w) (fun t _=>t.toNat) ⟨n,xs,g,rfl,rfl,hl,h⟩ ?_
 clear h
 rintro t w ⟨m,ys,g',rfl,he,hm,h⟩
 unfold yY.b1
 refine yV (fun hb=>?_) (fun hb=>?_)
 ·simp only [decide_eq_true_eq] at hb
  refine uV rfl ?_
  refine xL (x:=g') h rfl (by first | with_reducible exact M0 | with_reducible exact M1 | with_reducible exact M2 | with_reducible exact M3 | with_reducible exact M4 | with_reducible exact M5 | with_reducible exact M6 | with_reducible exact M7 | with_reducible exact M8 | with_reducible exact M9 | with_reducible exact M10 | with_reducible exact M11 | with_reducible exact M12) ?_ ?_
  ·exact rfl
  refine qX rfl ?_
  refine qX (zLs m) ?_
  refine vR h ?_
  clear h
  intro t16 w h
  try simp only [yC,Nat.zero_add,Nat.reduceAdd]
  replace h:=jE (xs:=[u8 (m % 128 + 128)]) (n:=1) (by rfl) rfl h
  replace h:=P1 h
  replace h:=P1 h
  replace h:=P2 h
  try simp only [N1,N2,N3,N4,N5,N6,N7] at h
  refine zAb h (Bytes.rd h.tail List.mem_cons_self) (by simp; omega) fun t17 w h _ _=>?_
  replace h:=P2 h
  replace h:=D2 h
  try simp only [N1,N2,N3,N4,N5,N6,N7] at h
  first | refine S0 h rfl ?_ rfl ?_ | refine S1 h rfl ?_ rfl ?_ | refine S2 h rfl ?_ rfl ?_ | refine S3 h rfl ?_ rfl ?_ | refine S4 h rfl ?_ rfl ?_ | refine S5 h rfl ?_ rfl ?_ | refine S6 h rfl ?_ rfl ?_ | refine S7 h rfl ?_ rfl ?_ | refine S8 h rfl ?_ rfl ?_
  ·first | exact Nat.lt_of_ble_eq_true rfl | (simp; done) | (simp; omega)
  clear h
  intro w h
  try simp only [N1,N2,N3,N4,N5,N6,N7] at h
  refine zD6 (by decide) ?_
  refine qX (zJo m 7 (by decide)) ?_
  refine ⟨⟨m / 128,ys++[u8 (m % 128 + 128)],t17,rfl,?_,by simp; omega,h⟩,by omega⟩
  rw [he,zAd (by omega)]
  simp
 ·simp only [decide_eq_false_iff_not] at hb
  refine uV rfl ?_
  refine xL (x:=g') h rfl (by first | with_reducible exact M0 | with_reducible exact M1 | with_reducible exact M2 | with_reducible exact M3 | with_reducible exact M4 | with_reducible exact M5 | with_reducible exact M6 | with_reducible exact M7 | with_reducible exact M8 | with_reducible exact M9 | with_reducible exact M10 | with_reducible exact M11 | with_reducible exact M12) ?_ ?_
  ·exact rfl
  refine qX (zAK m) ?_
  refine vR h ?_
  clear h
  intro t27 w h
  try simp only [yC,Nat.zero_add,Nat.reduceAdd]
  replace h:=jE (xs:=[u8 m]) (n:=1) (by rfl) rfl h
  replace h:=P1 h
  replace h:=P1 h
  replace h:=P2 h
  try simp only [N1,N2,N3,N4,N5,N6,N7] at h
  refine zAb h (Bytes.rd h.tail List.mem_cons_self) (by simp; omega) fun t17 w h _ _=>?_
  replace h:=P2 h
  replace h:=D2 h
  try simp only [N1,N2,N3,N4,N5,N6,N7] at h
  first | refine S0 h rfl ?_ rfl ?_ | refine S1 h rfl ?_ rfl ?_ | refine S2 h rfl ?_ rfl ?_ | refine S3 h rfl ?_ rfl ?_ | refine S4 h rfl ?_ rfl ?_ | refine S5 h rfl ?_ rfl ?_ | refine S6 h rfl ?_ rfl ?_ | refine S7 h rfl ?_ rfl ?_ | refine S8 h rfl ?_ rfl ?_
  ·first | exact Nat.lt_of_ble_eq_true rfl | (simp; done) | (simp; omega)
  clear h
  intro w h
  try simp only [N1,N2,N3,N4,N5,N6,N7] at h
  refine hk t17 _ ?_
  rw [he,uO (by omega)]
  exact h
theorem zBJ {p:Nat} {g:Sl} {xs:List UInt8} {k:Sl→K} (hl:xs.length ≤ 1000000) (h:Holds B (blk p (.cells #[g.val] q8 (0,0))::Bytes zP g xs::Γ) w)
  (hk:∀ s w,Holds B (Bytes zP s xs::Γ) w→k s w):qU.call (some ⟨p,0,none⟩) k w:=by
 refine jq _ _ _ ?_
 unfold qU
 refine uV rfl ?_
 refine xL (x:=g) h rfl (by first | with_reducible exact M0 | with_reducible exact M1 | with_reducible exact M2 | with_reducible exact M3 | with_reducible exact M4 | with_reducible exact M5 | with_reducible exact M6 | with_reducible exact M7 | with_reducible exact M8 | with_reducible exact M9 | with_reducible exact M10 | with_reducible exact M11 | with_reducible exact M12) ?_ ?_
 ·exact rfl
 refine qb h (fun w h=>Bytes.rd h (List.mem_cons_of_mem _ List.mem_cons_self)) (by omega) fun s w h _=>?_
 replace h:=D1 h
 replace h:=D1 h
 try simp only [N1,N2,N3,N4,N5,N6,N7] at h
 exact hk _ _ h
end
end
end Go.Proofs.YtgmbfnboiobeaaaGreat
namespace Go.Sep
section
open Go Go.RowKit Go.MapKept
section
variable {α β:Type} [DecidableEq α]
def za (k:α):List (α×β)→Option β
 | []=>none
 | p::m=>if k = p.1 then some p.2 else za k m
def yQ (k:α) (v:β):List (α×β)→List (α×β)
 | []=>[(k,v)]
 | p::m=>if k = p.1 then (k,v)::m else p::yQ k v m
def xJ (k:α):List (α×β)→List (α×β)
 | []=>[]
 | p::m=>if k = p.1 then m else p::xJ k m
theorem zGN (k:α):∀ m:List (α×β),(za k m = none∧(∀ v,yQ k v m = m++[(k,v)])∧xJ k m = m∧∀ p ∈ m,p.1 ≠ k) ∨
  ∃ j x,j < m.length∧m[j]? = some (k,x)∧(∀ i,i < j→∀ p,m[i]? = some p→p.1 ≠ k)∧za k m = some x∧(∀ v,yQ k v m = m.set j (k,v))∧xJ k m = m.eraseIdx j
 | []=>.inl ⟨rfl,fun _=>rfl,rfl,by simp⟩
 | p::m=>by
  by_cases hk:k = p.1
  ·refine .inr ⟨0,p.2,by simp,by rw [hk]; rfl,fun i hi=>by omega,by simp [za,hk],fun v=>by simp [yQ,hk],by simp [xJ,hk]⟩
  ·rcases zGN k m with ⟨h1,h2,h3,h4⟩ | ⟨j,x,hj,h0,hb,h1,h2,h3⟩
   ·refine .inl ⟨by simp [za,hk,h1],fun v=>by simp [yQ,hk,h2],by simp [xJ,hk,h3],fun q hq=>?_⟩
    rcases List.mem_cons.1 hq with rfl | hq
    ·exact fun e=>hk e.symm
    ·exact h4 q hq
   ·refine .inr ⟨j + 1,x,by simpa using hj,by simpa using h0,fun i hi q hq=>?_,by simp [za,hk,h1],fun v=>by simp [yQ,hk,h2],by simp [xJ,hk,h3]⟩
    cases i with
    | zero=>simp at hq; subst hq; exact fun e=>hk e.symm
    | succ i=>exact hb i (by omega) q (by simpa using hq)
end
structure zC4 {α:Type} (d:TypeDesc) (enc:α→Value):Prop where
 key:∀ a,IsKey d (enc a)
 inj:∀ a b,enc a = enc b→a = b
 bits:∀ a,Instr.sameBits 10000 (enc a) (enc a) = true
theorem zBu (k:IntKind):zC4 (.int k) (Value.int k):=⟨fun _=>rfl,fun a b h=>by injection h,fun a=>by simp [Instr.sameBits]⟩
theorem zGO:zC4 .string Value.string:=⟨fun _=>trivial,fun a b h=>by injection h,fun a=>by
 show (a == a) = true
 rw [bytes_beq]⟩
section
variable {α β:Type} [DecidableEq α] {P:Program} {B w:World} {Γ:List zC} {enc:α→Value} {cV:β→Value}
def zBv (enc:α→Value) (cV:β→Value) (es:Array MapEntry) (m:List (α×β)):Prop:=es.toList.map (fun e=>(e.key,e.val)) = m.map fun p=>(enc p.1,cV p.2)
def stamps (es:Array MapEntry) (c:Nat):Prop:=(es.toList.map (·.born)).Nodup∧∀ e ∈ es.toList,e.born < c
theorem zDm (c:Nat):stamps #[] c:=⟨by simp,by simp⟩
theorem zGP {es:Array MapEntry} {c:Nat} (h:stamps es c) (k v:Value):stamps (es.push { key:=k,val:=v,born:=c }) (c + 1):=by
 refine ⟨?_,fun e he=>?_⟩
 ·simp only [Array.toList_push,List.map_append,List.map_cons,List.map_nil]
  rw [List.nodup_append]
  refine ⟨h.1,by simp,fun x hx y hy=>?_⟩
  simp only [List.mem_singleton] at hy
  subst hy
  obtain ⟨e,he,rfl⟩:=List.mem_map.1 hx
  have:=h.2 e he
  omega
 ·simp only [Array.toList_push] at he
  rcases List.mem_append.1 he with he | he
  ·have:=h.2 e he; omega
  ·simp only [List.mem_singleton] at he; subst he; exact Nat.lt_succ_self _
theorem zEF {es:Array MapEntry} {c:Nat} (h:stamps es c) (j:Nat) (k v:Value):stamps (es.modify j fun e=>{ e with key:=k,val:=v }) c:=by
 have e1:(es.modify j fun e=>{ e with key:=k,val:=v }).toList.map (·.born) = es.toList.map (·.born):=by
  apply List.ext_getElem?
  intro i
  simp only [List.getElem?_map,Array.getElem?_toList,Array.getElem?_modify]
  split
  ·cases es[i]? <;> rfl
  ·rfl
 refine ⟨by rw [e1]; exact h.1,fun e he=>?_⟩
 have:e.born ∈ es.toList.map (·.born):=by rw [← e1]; exact List.mem_map_of_mem he
 obtain ⟨e',he',hb⟩:=List.mem_map.1 this
 rw [← hb]; exact h.2 e' he'
theorem zFa {es:Array MapEntry} {c:Nat} (h:stamps es c) (j:Nat):stamps (es.eraseIdxIfInBounds j) c:=by
 have hs:List.Sublist (es.eraseIdxIfInBounds j).toList es.toList:=by
  unfold Array.eraseIdxIfInBounds
  split
  ·rw [Array.toList_eraseIdx]; exact List.eraseIdx_sublist _ _
  ·exact List.Sublist.refl _
 exact ⟨h.1.sublist (hs.map _),fun e he=>h.2 e (hs.subset he)⟩
def qH (enc:α→Value) (cV:β→Value) (b:Nat) (m:List (α×β)):zC:=ex fun es:Array MapEntry=>ex fun c:Nat=>fun g=>(zBv enc cV es m∧stamps es c)∧blk b (.map es c) g
theorem qH.opens {b:Nat} {m:List (α×β)} (h:Holds B (qH enc cV b m::Γ) w):∃ es c,(zBv enc cV es m∧stamps es c)∧Holds B (blk b (.map es c)::Γ) w:=by
 obtain ⟨es,h⟩:=Holds.ex.1 h
 obtain ⟨c,h⟩:=Holds.ex.1 h
 exact ⟨es,c,h.fact fun g hg=>hg.1,h.imp fun g hg=>hg.2⟩
theorem qH.shuts {b:Nat} {m:List (α×β)} {es:Array MapEntry} {c:Nat} (hr:zBv enc cV es m∧stamps es c) (h:Holds B (blk b (.map es c)::Γ) w):Holds B (qH enc cV b m::Γ) w :=
 Holds.ex.2 ⟨es,Holds.ex.2 ⟨c,h.imp fun g hg=>⟨hr,hg⟩⟩⟩
theorem zDH {es:Array MapEntry} {m:List (α×β)} (hr:zBv enc cV es m) (i:Nat):(es.toList[i]?).map (fun e=>(e.key,e.val)) = (m[i]?).map fun p=>(enc p.1,cV p.2):=by
 have:=congrArg (·[i]?) hr
 simpa using this
theorem zIQ {d:TypeDesc} (hE:zC4 d enc) {es:Array MapEntry} {m:List (α×β)} (hr:zBv enc cV es m):∀ x ∈ es.toList,IsKey d x.key:=by
 intro x hx
 have:(x.key,x.val) ∈ m.map fun p=>(enc p.1,cV p.2):=by rw [← hr]; exact List.mem_map_of_mem hx
 obtain ⟨p,_,hp⟩:=List.mem_map.1 this
 have:enc p.1 = x.key:=congrArg Prod.fst hp
 rw [← this]; exact hE.key _
theorem zFb {d:TypeDesc} (hE:zC4 d enc) {es:Array MapEntry} {m:List (α×β)} (hr:zBv enc cV es m) (k:α) :
  (Instr.findNow d (enc k) es.toList 0 = some none∧za k m = none∧(∀ v,yQ k v m = m++[(k,v)])∧xJ k m = m) ∨
  ∃ j x,Instr.findNow d (enc k) es.toList 0 = some (some (j,cV x))∧j < m.length∧m[j]? = some (k,x)∧za k m = some x∧(∀ v,yQ k v m = m.set j (k,v))∧xJ k m = m.eraseIdx j:=by
 have hlen:es.toList.length = m.length:=by have:=congrArg List.length hr; simpa using this
 rcases zGN k m with ⟨h1,h2,h3,h4⟩ | ⟨j,x,hj,h0,hb,h1,h2,h3⟩
 ·refine .inl ⟨?_,h1,h2,h3⟩
  rcases findNow_spec (hE.key k) es.toList 0 (zIQ hE hr) with ⟨g1,_⟩ | ⟨i,e,g1,g2,g3⟩
  ·exact g1
  ·have:=zDH hr i
   rw [g2] at this
   cases hm:m[i]? with
   | none=>rw [hm] at this; simp at this
   | some p=>
    rw [hm] at this
    simp only [Option.map_some,Option.some.injEq,Prod.mk.injEq] at this
    exact absurd (hE.inj _ _ (this.1.symm.trans g3)) (h4 p (List.mem_of_getElem? hm))
 ·have key:∀ (l:List MapEntry) (m:List (α×β)) (j i:Nat),l.map (fun e=>(e.key,e.val)) = m.map (fun p=>(enc p.1,cV p.2))→m[j]? = some (k,x)→(∀ i,i < j→∀ p,m[i]? = some p→p.1 ≠ k) →
    Instr.findNow d (enc k) l i = some (some (i + j,cV x)):=by
   intro l
   induction l with
   | nil=>intro m j i hr hm _; cases m <;> simp at hr hm
   | cons e l ih=>
    intro m j i hr hm hb
    cases m with
    | nil=>simp at hr
    | cons p m=>
     simp only [List.map_cons,List.cons.injEq,Prod.mk.injEq] at hr
     obtain ⟨⟨e1,e2⟩,hr⟩:=hr
     obtain ⟨r,hs,hiff⟩:=sameNow_of_keys (hE.key k) (hE.key p.1)
     unfold Instr.findNow
     rw [e1,hs]
     cases j with
     | zero=>
      simp only [List.getElem?_cons_zero,Option.some.injEq] at hm
      subst hm
      have:r = true:=hiff.2 rfl
      subst this
      simp only [e2,Nat.add_zero]
     | succ j=>
      have hne:p.1 ≠ k:=hb 0 (by omega) p rfl
      have:r = false:=by
       cases r with
       | false=>rfl
       | true=>exact absurd (hE.inj _ _ (hiff.1 rfl)) (fun e=>hne e.symm)
      subst this
      simp only
      rw [ih m j (i + 1) hr (by simpa using hm) (fun i' hi' q hq=>hb (i' + 1) (by omega) q (by simpa using hq))]
      congr 3; omega
  refine .inr ⟨j,x,?_,hj,h0,h1,h2,h3⟩
  have:=key es.toList m j 0 hr h0 hb
  rwa [Nat.zero_add] at this
def zAL (P:Program) (T:TypeId) (d:TypeDesc) (E:TypeId):Prop:=∃ kt,P.underlying T = some (.map kt E)∧P.underlying kt = some d
theorem zHs {T:TypeId} {d:TypeDesc} {E:TypeId} {k:Option Nat→K} (h:Holds B Γ w) (hk:∀ b w,Holds B (qH enc cV b []::Γ) w→k (some b) w) :
  Do P (Instr.makeMap T none) Value.map k w:=by
 refine ⟨some w.heap.size,{ w with heap:=w.heap.push (.map #[] 0) },rfl,hk _ _ (qH.shuts (es:=#[]) (c:=0) ⟨rfl,zDm 0⟩ (h.alloc _))⟩
theorem zJp {T E:TypeId} {d:TypeDesc} {b:Nat} {m:List (α×β)} {z:β} {a:α} (hT:zAL P T d E) (hE:zC4 d enc) (hz:uE P E (cV z)) {es:Array MapEntry} {c:Nat} (hb:w.heap[b]? = some (.map es c)) (hr:zBv enc cV es m) (ok:Bool) :
  (Instr.lookup T (.map (some b)) (enc a) ok).run P w = .ok (if ok then .tuple #[cV ((za a m).getD z),.bool (za a m).isSome] else cV ((za a m).getD z)) w:=by
 obtain ⟨kt,hT,hd⟩:=hT
 unfold Instr.lookup
 simp only [Sem.run_bind,run_underlying hT,Result.andThen,MapKept.run_getObj_map hb,run_checkKey hd (hE.key a),Sem.run_pure]
 rcases zFb hE hr a with ⟨h1,h2,_⟩ | ⟨j,x,h1,_,_,h2,_⟩
 ·simp only [run_findKey hd h1,Result.andThen,Sem.run_bind,uG hz,Sem.run_pure,h2]
  cases ok <;> rfl
 ·simp only [run_findKey hd h1,Result.andThen,Sem.run_bind,Sem.run_pure,h2]
  cases ok <;> rfl
theorem zK3 {T E:TypeId} {d:TypeDesc} {b:Nat} {m:List (α×β)} {z:β} {a:α} {k:β→K} (hT:zAL P T d E) (hE:zC4 d enc) (hz:uE P E (cV z)) (h:Holds B (qH enc cV b m::Γ) w)
  (hk:k ((za a m).getD z) w):Rd P (Instr.lookup T (.map (some b)) (enc a) false) cV k w:=by
 obtain ⟨es,c,⟨hr,hst⟩,h⟩:=qH.opens h
 exact ⟨_,zJp hT hE hz h.block hr false,hk⟩
theorem Holds.zFc {b:Nat} {es es':Array MapEntry} {c c':Nat} (h:Holds B (blk b (.map es c)::Γ) w):(setObj b (.map es' c')).run P w = .ok () { w with heap:=w.heap.setIfInBounds b (.map es' c') } ∧
  Holds B (blk b (.map es' c')::Γ) { w with heap:=w.heap.setIfInBounds b (.map es' c') } :=
 ⟨run_setObj_map _ h.block,h.setBlock rfl⟩
theorem zHt {T E:TypeId} {d:TypeDesc} {b:Nat} {m:List (α×β)} {a:α} {v:β} {k:K} (hT:zAL P T d E) (hE:zC4 d enc) (h:Holds B (qH enc cV b m::Γ) w)
  (hk:∀ w',Holds B (qH enc cV b (yQ a v m)::Γ) w'→k w'):DoU P (Instr.mapUpdate T (.map (some b)) (enc a) (cV v)) k w:=by
 obtain ⟨kt,hT,hd⟩:=hT
 obtain ⟨es,c,⟨hr,hst⟩,h⟩:=qH.opens h
 have hb:=h.block
 have hlen:es.size = m.length:=by have:=congrArg List.length hr; simpa using this
 unfold Instr.mapUpdate DoU
 simp only [Sem.run_bind,run_underlying hT,Result.andThen,MapKept.run_getObj_map hb,run_checkKey hd (hE.key a)]
 rcases zFb hE hr a with ⟨h1,_,h2,_⟩ | ⟨j,x,h1,hj,h0,_,h2,_⟩
 ·simp only [run_findKey hd h1,Result.andThen]
  obtain ⟨e1,h3⟩:=h.zFc (P:=P) (es':=es.push { key:=enc a,val:=cV v,born:=c }) (c':=c + 1)
  refine ⟨_,_,e1,hk _ (qH.shuts ⟨?_,zGP hst _ _⟩ h3)⟩
  rw [h2]
  simp only [zBv,Array.toList_push,List.map_append,List.map_cons,List.map_nil]
  rw [show es.toList.map (fun e=>(e.key,e.val)) = _ from hr]
 ·have hes:∃ e,es.toList[j]? = some e∧e.key = enc a:=by
   have:=zDH hr j
   rw [h0] at this
   cases he:es.toList[j]? with
   | none=>rw [he] at this; simp at this
   | some e=>
    rw [he] at this
    simp only [Option.map_some,Option.some.injEq,Prod.mk.injEq] at this
    exact ⟨e,rfl,this.1⟩
  obtain ⟨e,he,hek⟩:=hes
  have he2:es[j]? = some e:=by rw [← he,Array.getElem?_toList]
  simp only [run_findKey hd h1,Result.andThen,Sem.run_bind,he2,Option.map_some,Option.getD_some,hek,Instr.keyThatStays,hE.bits,if_true,Sem.run_pure]
  obtain ⟨e1,h3⟩:=h.zFc (P:=P) (es':=es.modify j fun e=>{ e with key:=enc a,val:=cV v }) (c':=c)
  refine ⟨_,_,e1,hk _ (qH.shuts ⟨?_,zEF hst _ _ _⟩ h3)⟩
  rw [h2]
  simp only [zBv]
  apply List.ext_getElem?
  intro i
  have hi:=zDH hr i
  simp only [List.getElem?_map,Array.getElem?_toList,Array.getElem?_modify] at hi ⊢
  by_cases hij:j = i
  ·subst hij
   rw [List.getElem?_set_self hj,he2]
   simp
  ·rw [List.getElem?_set_ne hij,if_neg hij]
   exact hi
theorem zEe {T KT E t:TypeId} {d:TypeDesc} {b:Nat} {m:List (α×β)} {a:α} {k:Value→K} (hT:zAL P T d E) (hE:zC4 d enc) (h:Holds B (qH enc cV b m::Γ) w)
  (hk:∀ w',Holds B (qH enc cV b (xJ a m)::Γ) w'→k (.tuple #[]) w'):Do P (Builtin.delete_ #[T,KT] t #[.map (some b),enc a]) id k w:=by
 obtain ⟨kt,hT,hd⟩:=hT
 obtain ⟨es,c,⟨hr,hst⟩,h⟩:=qH.opens h
 have hb:=h.block
 have hlen:es.size = m.length:=by have:=congrArg List.length hr; simpa using this
 have e0:#[T,KT][0]? = some T:=rfl
 have e1:#[Value.map (some b),enc a][0]? = some (.map (some b)):=rfl
 have e2:#[Value.map (some b),enc a][1]? = some (enc a):=rfl
 unfold Builtin.delete_ Do
 simp only [e0,e1,e2,Sem.run_bind,run_underlying hT,Result.andThen,MapKept.run_getObj_map hb,run_checkKey hd (hE.key a)]
 rcases zFb hE hr a with ⟨h1,_,_,h2⟩ | ⟨j,x,h1,hj,h0,_,_,h2⟩
 ·simp only [run_findKey hd h1,Result.andThen,Sem.run_bind]
  obtain ⟨e3,h3⟩:=h.zFc (P:=P) (es':=es) (c':=c)
  refine ⟨.tuple #[],_,?_,hk _ (qH.shuts ⟨?_,hst⟩ h3)⟩
  ·simp only [Sem.run_bind,e3,Result.andThen,Sem.run_pure]; rfl
  rw [h2]; exact hr
 ·simp only [run_findKey hd h1,Result.andThen,Sem.run_bind]
  obtain ⟨e3,h3⟩:=h.zFc (P:=P) (es':=es.eraseIdxIfInBounds j) (c':=c)
  refine ⟨.tuple #[],_,?_,hk _ (qH.shuts ⟨?_,zFa hst _⟩ h3)⟩
  ·simp only [Sem.run_bind,e3,Result.andThen,Sem.run_pure]; rfl
  rw [h2]
  have hjs:j < es.size:=by omega
  simp only [zBv,Array.eraseIdxIfInBounds,dif_pos hjs,Array.toList_eraseIdx]
  have mape:∀ {α β:Type} (f:α→β) (l:List α) (i:Nat),(l.eraseIdx i).map f = (l.map f).eraseIdx i:=by
   intro α β f l
   induction l with
   | nil=>intro i; simp
   | cons x l ih=>intro i; cases i <;> simp [ih]
  rw [mape,mape,show es.toList.map (fun e=>(e.key,e.val)) = _ from hr]
end
section
variable {α β γ:Type} [DecidableEq α]
theorem zGQ (g:β→γ) (k:α):∀ m:List (α×β),za k (m.map fun p=>(p.1,g p.2)) = (za k m).map g
 | []=>rfl
 | p::m=>by
  simp only [List.map_cons,za]
  split
  ·rfl
  ·exact zGQ g k m
theorem zDn (g:β→γ) (k:α):∀ m:List (α×β),xJ k (m.map fun p=>(p.1,g p.2)) = (xJ k m).map fun p=>(p.1,g p.2)
 | []=>rfl
 | p::m=>by
  simp only [List.map_cons,xJ]
  split
  ·rfl
  ·rw [List.map_cons,zDn g k m]
theorem zAe (g:β→γ) (k:α) (v:β):∀ m:List (α×β),yQ k (g v) (m.map fun p=>(p.1,g p.2)) = (yQ k v m).map fun p=>(p.1,g p.2)
 | []=>rfl
 | p::m=>by
  simp only [List.map_cons,yQ]
  split
  ·rfl
  ·rw [List.map_cons,zAe g k v m]
theorem vU {k:α} {v:β} {m:List (α×β)} (h:za k m = none):yQ k v m = m++[(k,v)]:=by
 rcases zGN k m with ⟨_,h2,_⟩ | ⟨_,_,_,_,_,h1,_⟩
 ·exact h2 v
 ·rw [h] at h1; cases h1
end
end
section
open Go Go.RowKit
section
variable {α β:Type} [DecidableEq α] {P:Program} {B w:World} {Γ Δ:List zC} {enc:α→Value} {cV:β→Value} {k:K}
instance (priority:=high) zOH {α β:Type} [DecidableEq α] {enc:α→Value} {cV:β→Value} {b:Nat} {m:List (α×β)} {Γ:List zC}:Own b (qH enc cV b m::Γ) (qH enc cV b m) Γ:=⟨.refl _⟩
theorem zHu {T:TypeId} {k:Option Nat→K} (h:∀ b,HG B (qH enc cV b []::Γ) (k (some b))):HG B Γ (Do P (Instr.makeMap T none) Value.map k):=fun w hw=>by
 refine ⟨some w.heap.size,{ w with heap:=w.heap.push (.map #[] 0) },rfl,h _ _ (qH.shuts (es:=#[]) (c:=0) ⟨rfl,zDm 0⟩ (hw.alloc _))⟩
theorem zHv {γ:Type} {cG:γ→Value} {g:β→γ} {T E:TypeId} {d:TypeDesc} {b:Nat} {m:List (α×β)} {z:β} {a:α} {k:γ→K} (hc:∀ x,cV x = cG (g x)) (hT:zAL P T d E) (hE:zC4 d enc) (hz:uE P E (cV z)) (h:HG B Γ (k (g ((za a m).getD z)))) [p:Own b Γ (qH enc cV b m) Δ] :
  HG B Γ (Rd P (Instr.lookup T (.map (some b)) (enc a) false) cG k):=fun w hw=>by
 obtain ⟨x,hx,hk⟩:=zK3 (P:=P) (T:=T) (a:=a) (k:=fun y w=>y = (za a m).getD z∧k (g y) w) hT hE hz (hw.perm p.perm) ⟨rfl,h w hw⟩
 obtain ⟨rfl,hk⟩:=hk
 exact ⟨_,by rw [hx,hc],hk⟩
theorem zLt {γ:Type} {cG:γ→Value} {T E:TypeId} {d:TypeDesc} {b:Nat} {m:List (α×β)} {a:α} {v:β} {x:Value} (hx:x = cV v) (hT:zAL P T d E) (hE:zC4 d enc) (h:HG B (qH enc cV b (yQ a v m)::Δ) k) [p:Own b Γ (qH enc cV b m) Δ] :
  HG B Γ (DoU P (Instr.mapUpdate T (.map (some b)) (enc a) x) k):=fun w hw=>by subst hx; exact zHt hT hE (hw.perm p.perm) fun w' h'=>h w' h'
theorem qz (m:List (α×β)) (a a':α) (v:β):za a' (yQ a v m) = if a' = a then some v else za a' m:=by
 induction m with
 | nil=>simp [yQ,za]
 | cons p m ih=>
  unfold yQ
  split
  ·rename_i h
   subst h
   by_cases h2:a' = p.1 <;> simp [za,h2]
  ·rename_i h
   by_cases h2:a' = p.1
   ·simp [za,h2]
    intro h3; exact absurd h3.symm h
   ·simp [za,h2,ih]
end
end
section
open Go Go.RowKit
class Nx (B:World) (Γ:List zC) (k:K) (Δ:outParam (List zC)) (j:outParam K):Prop where h:HG B Δ j→HG B Γ k
class zGR (l:List Value) (n:Nat) (v:outParam Value):Prop where h:nth l n = some v
class Cv {α:Type} (c:α→Value) (v:Value) (x:outParam α):Prop where h:v = c x
class zK4 (l:List Value) (n:Nat) (v:Value) (l':outParam (List Value)):Prop where h:l.set n v = l'∧n < l.length
class zDo (l:List Value) (m n:Nat) (l':outParam (List Value)):Prop where h:(l.drop m).take n = l'∧l'.length = n
class zCo (v:Value):Prop where h:qV v = true
class zHw (l:List Value):Prop where h:l.all qV = true
class zGS (l:List Value) (n:outParam Nat):Prop where h:l.length = n
class zA7 (b:Bool) (v:outParam Bool):Prop where h:b = v
instance zPL {v:Value} {l:List Value}:zGR (v::l) 0 v:=⟨rfl⟩
instance zPM {v u:Value} {l:List Value} {n:Nat} [h:zGR l n v]:zGR (u::l) (n + 1) v:=⟨h.h⟩
instance zOu {b:Bool}:Cv Value.bool (.bool b) b:=⟨rfl⟩
instance zPN {k:IntKind} {n:Int}:Cv (Value.int k) (.int k n) n:=⟨rfl⟩
instance zPO {b:ByteArray}:Cv Value.string (.string b) b:=⟨rfl⟩
instance zPP {p:Option Addr}:Cv Value.pointer (.pointer p) p:=⟨rfl⟩
instance zPQ {p:Option Nat}:Cv Value.map (.map p) p:=⟨rfl⟩
instance (priority:=high) zPd {s:Sl}:Cv Sl.val s.val s:=⟨rfl⟩
instance zPR {a:Option Addr} {n c:Nat}:Cv Sl.val (.slice a n c) ⟨a,n,c⟩:=⟨rfl⟩
instance zPe {v:Value}:Cv id v v:=⟨rfl⟩
instance zPS {v:Array Value}:Cv Value.agg (.agg v) v:=⟨rfl⟩
instance zPT {v u:Value} {l:List Value}:zK4 (u::l) 0 v (v::l):=⟨⟨rfl,Nat.zero_lt_succ _⟩⟩
instance zPU {v u:Value} {l l':List Value} {n:Nat} [h:zK4 l n v l']:zK4 (u::l) (n + 1) v (u::l'):=⟨⟨by rw [List.set_cons_succ,h.h.1],Nat.succ_lt_succ h.h.2⟩⟩
instance zOv {l:List Value}:zDo l 0 0 []:=⟨⟨rfl,rfl⟩⟩
instance zOw {u:Value} {l l':List Value} {n:Nat} [h:zDo l 0 n l']:zDo (u::l) 0 (n + 1) (u::l'):=⟨⟨by have:=h.h.1; rw [List.drop_zero] at this ⊢; rw [List.take_succ_cons,this],by rw [List.length_cons,h.h.2]⟩⟩
instance zOx {u:Value} {l l':List Value} {m n:Nat} [h:zDo l m n l']:zDo (u::l) (m + 1) n l':=⟨h.h⟩
instance zOy {b:Bool}:zCo (.bool b):=⟨rfl⟩
instance zOz {k:IntKind} {n:Int}:zCo (.int k n):=⟨rfl⟩
instance zO0 {b:ByteArray}:zCo (.string b):=⟨rfl⟩
instance zO1 {p:Option Addr}:zCo (.pointer p):=⟨rfl⟩
instance zO2 {p:Option Nat}:zCo (.map p):=⟨rfl⟩
instance zOI {a:Option Addr} {n c:Nat}:zCo (.slice a n c):=⟨rfl⟩
instance zO3:zHw []:=⟨rfl⟩
instance zO4 {v:Value} {l:List Value} [h:zCo v] [g:zHw l]:zHw (v::l):=⟨by rw [List.all_cons,h.h,g.h]; rfl⟩
instance zPV:zGS [] 0:=⟨rfl⟩
instance zPW {v:Value} {l:List Value} {n:Nat} [h:zGS l n]:zGS (v::l) (n + 1):=⟨by rw [List.length_cons,h.h]⟩
instance zO5:zA7 true true:=⟨rfl⟩
instance zO6:zA7 false false:=⟨rfl⟩
instance zOJ {b:Bool} [h:zA7 b true]:zA7 (!b) false:=⟨by rw [h.h]; rfl⟩
instance zOK {b:Bool} [h:zA7 b false]:zA7 (!b) true:=⟨by rw [h.h]; rfl⟩
instance zO7 {α:Type} {x:α}:zA7 (some x).isNone false:=⟨rfl⟩
instance zO8 {α:Type}:zA7 (none:Option α).isNone true:=⟨rfl⟩
instance (priority:=high) zN4 {b n:Nat}:jL ((⟨b,0,none⟩:Addr).add n) b n:=⟨by rw [yC,Nat.zero_add]⟩
section
variable {B:World} {Γ Δ Γ0:List zC} {k j:K}
theorem zN5 {k:(World→Prop)→K} (Γ0:List zC) (h:HG B Γ (k (Holds B Γ0))) [d:Drops Γ Γ0]:HG B Γ (xK k):=fun w hw=>⟨Holds B Γ0,hw.drops,h w hw⟩
theorem zHA (h:HG B Δ j) [n:Nx B Γ k Δ j]:HG B Γ k:=n.h h
instance zPX {a:Addr} {k:Addr→K}:Nx B Γ (Nn (some a) k) Γ (k a):=⟨zAD⟩
instance zPY:Nx B Γ (Dr k) Γ k:=⟨zMo⟩
instance zPZ {k:(World→Prop)→K}:Nx B Γ (xK k) Γ (k (Holds B Γ)):=⟨zOq⟩
instance zPa [d:Drops Γ Δ]:Nx B Γ (Sv (Holds B Δ) k) Γ k:=⟨fun h=>zN0 h⟩
instance zPb {α:Type} {a:Addr} {b off:Nat} {l:List Value} {T:TypeId} {fz:Nat×Nat} {c:α→Value} {v:Value} {x:α} {k:α→K} [ad:jL a b off] [p:Own b Γ (blk b (.cells l.toArray T fz)) Δ] [n:zGR l off v] [e:Cv c v x]:Nx B Γ (Ld a c k) Γ (k x):=⟨fun h=>uN h (by rw [n.h,e.h])⟩
instance zO9 {α:Type} {a:Addr} {b off:Nat} {l:List Value} {T:TypeId} {fz:Nat×Nat} {c:α→Value} {v:Value} {x:α} {k:α→K} [ad:jL a b off] [p:Own b Γ0 (blk b (.cells l.toArray T fz)) Δ] [n:zGR l off v] [e:Cv c v x]:Nx B Γ (LdS (Holds B Γ0) a c k) Γ (k x):=⟨fun h=>zHp h (by rw [n.h,e.h])⟩
instance zPA {a:Addr} {b off n:Nat} {l l':List Value} {T:TypeId} {fz:Nat×Nat} {k:Array Value→K} [ad:jL a b off] [p:Own b Γ (blk b (.cells l.toArray T fz)) Δ] [t:zDo l off n l']:Nx B Γ (LdN a n k) Γ (k l'.toArray):=⟨fun h=>zN2 h t.h.1 t.h.2⟩
instance zOL {a:Addr} {b off n:Nat} {l l':List Value} {T:TypeId} {fz:Nat×Nat} {k:Array Value→K} [ad:jL a b off] [p:Own b Γ0 (blk b (.cells l.toArray T fz)) Δ] [t:zDo l off n l']:Nx B Γ (ji (Holds B Γ0) a n k) Γ (k l'.toArray):=⟨fun h=>zMq h t.h.1 t.h.2⟩
instance zPc {a:Addr} {b off:Nat} {l l':List Value} {T:TypeId} {v:Value} [ad:jL a b off] [p:Own b Γ (blk b (.cells l.toArray T (0,0))) Δ] [s:zK4 l off v l'] [f:zCo v]:Nx B Γ (St a v k) (blk b (.cells l'.toArray T (0,0))::Δ) k:=⟨fun h=>zGK h (Nat.ble_eq_true_of_le s.h.2) s.h.1 f.h⟩
instance zPB {a:Addr} {b n:Nat} {l l':List Value} {T:TypeId} [ad:jL a b 0] [p:Own b Γ (blk b (.cells l.toArray T (0,0))) Δ] [h1:zGS l n] [h2:zGS l' n] [f:zHw l']:Nx B Γ (StN a n l'.toArray k) (blk b (.cells l'.toArray T (0,0))::Δ) k:=⟨fun h=>zN3 h h1.h h2.h f.h⟩
instance zPC {α:Type} {l:List Value} {off:Nat} {c:α→Value} {v:Value} {x:α} {k:α→K} [n:zGR l off v] [e:Cv c v x]:Nx B Γ (Fld l.toArray off c k) Γ (k x):=⟨fun h=>zN1 h (by rw [n.h,e.h])⟩
instance zOM {zero cs:List Value} {n:Nat} {k:Array Value→K} [h1:zGS zero n] [h2:zGS cs n]:Nx B Γ (Bld zero.toArray (fun i=>some (i * n,n)) [(0,.agg cs.toArray)] k) Γ (k cs.toArray):=⟨fun h=>zMp h h1.h h2.h⟩
instance zPf {b:Bool} {x y:K} [h:zA7 b true]:Nx B Γ (Ite b x y) Γ x:=⟨fun g=>s_t g h.h⟩
instance zPg {b:Bool} {x y:K} [h:zA7 b false]:Nx B Γ (Ite b x y) Γ y:=⟨fun g=>s_f g h.h⟩
end
class zAf (v:Value) (us:outParam (List Value)):Prop where h:v.cells = us.toArray
class zEf (z:List Value) (off:Nat) (us:List Value) (z':outParam (List Value)):Prop where h:off + us.length ≤ z.length∧z' = z.take off++us++z.drop (off + us.length)
class zFd (pl:List (Nat×Nat)) (i:Nat) (off n:outParam Nat):Prop where h:pl[i]? = some (off,n)
class zHx (pl:List (Nat×Nat)) (z:List Value) (ps:List (Nat×Value)) (cs:outParam (List Value)):Prop where h:Instr.fill (pl[·]?) z.toArray ps = some cs.toArray
instance zON {l:List Value}:zAf (.agg l.toArray) l:=⟨rfl⟩
instance zOO {b:Bool}:zAf (.bool b) [.bool b]:=⟨rfl⟩
instance zOP {k:IntKind} {n:Int}:zAf (.int k n) [.int k n]:=⟨rfl⟩
instance zOQ {b:ByteArray}:zAf (.string b) [.string b]:=⟨rfl⟩
instance zOR {p:Option Addr}:zAf (.pointer p) [.pointer p]:=⟨rfl⟩
instance zOS {p:Option Nat}:zAf (.map p) [.map p]:=⟨rfl⟩
instance zN6 {a:Option Addr} {n c:Nat}:zAf (.slice a n c) [.slice a n c]:=⟨rfl⟩
instance zPD {z:List Value}:zEf z 0 [] z:=⟨⟨by simp,by simp⟩⟩
instance zPE {v u:Value} {z us z':List Value} [h:zEf z 0 us z']:zEf (v::z) 0 (u::us) (u::z'):=⟨by
 obtain ⟨h1,h2⟩:=h.h
 simp only [Nat.zero_add,List.take_zero,List.nil_append] at h1 h2
 refine ⟨by simp; omega,?_⟩
 simp only [List.length_cons,Nat.zero_add,List.take_zero,List.nil_append,List.drop_succ_cons,List.cons_append]
 rw [h2]⟩
instance zPF {v:Value} {z us z':List Value} {off:Nat} [h:zEf z off us z']:zEf (v::z) (off + 1) us (v::z'):=⟨by
 obtain ⟨h1,h2⟩:=h.h
 refine ⟨by simp; omega,?_⟩
 rw [h2,show off + 1 + us.length = (off + us.length) + 1 by omega]
 simp⟩
instance zOT {o n:Nat} {pl:List (Nat×Nat)}:zFd ((o,n)::pl) 0 o n:=⟨rfl⟩
instance zOU {x:Nat×Nat} {o n i:Nat} {pl:List (Nat×Nat)} [h:zFd pl i o n]:zFd (x::pl) (i + 1) o n:=⟨h.h⟩
instance zPG {pl:List (Nat×Nat)} {z:List Value}:zHx pl z [] z:=⟨rfl⟩
theorem zIR {pl:Nat→Option (Nat×Nat)} {z us z':List Value} {i off:Nat} {v:Value} {ps:List (Nat×Value)} (hp:pl i = some (off,us.length)) (hc:v.cells = us.toArray) (h:off + us.length ≤ z.length∧z' = z.take off++us++z.drop (off + us.length)) :
  Instr.fill pl z.toArray ((i,v)::ps) = Instr.fill pl z'.toArray ps:=by
 obtain ⟨h1,rfl⟩:=h
 rw [Instr.fill,hp,hc]
 simp only [List.size_toArray]
 rw [if_neg (by simp; omega)]
 congr 1
 have hl:(z.take off).length = off:=by rw [List.length_take]; omega
 have key:∀ (us m pre C:List Value),pre.length = off→m.length = us.length→∀ (o:Nat) (pre2:List Value),pre2.length = off + o→(us.zipIdx o).foldl (fun (cs:Array Value) (p:Value×Nat)=>cs.setIfInBounds (off + p.2) p.1) (pre2++m++C).toArray = (pre2++us++C).toArray:=by
  intro us
  induction us with
  | nil=>intro m pre C _ hm o pre2 _; rw [List.length_eq_zero_iff.1 hm]; rfl
  | cons u us ih=>
   intro m pre C hp hm o pre2 hp2
   cases m with
   | nil=>simp at hm
   | cons x m=>
    simp only [List.zipIdx_cons,List.foldl_cons]
    have e:(pre2++x::m++C).toArray.setIfInBounds (off + o) u = ((pre2++[u])++m++C).toArray:=by
     apply Array.ext'
     rw [← hp2]
     simp
    rw [e,ih m pre C hp (by simpa using hm) (o + 1) (pre2++[u]) (by simp; omega)]
    simp
 have e:z = z.take off++(z.drop off).take us.length++z.drop (off + us.length):=by
  rw [← List.drop_drop,List.append_assoc,List.take_append_drop,List.take_append_drop]
 have h3:=key us ((z.drop off).take us.length) (z.take off) (z.drop (off + us.length)) hl (by rw [List.length_take,List.length_drop]; omega) 0 (z.take off) (by omega)
 rw [← e] at h3
 rw [← Array.foldl_toList,Array.toList_zipIdx]
 exact h3
instance zPH {pl:List (Nat×Nat)} {z z' us cs:List Value} {i off n:Nat} {v:Value} {ps:List (Nat×Value)} [p:zFd pl i off n] [c:zAf v us] [l:zGS us n] [o:zEf z off us z'] [f:zHx pl z' ps cs]:zHx pl z ((i,v)::ps) cs :=
 ⟨by rw [zIR (by rw [l.h]; exact p.h) c.h o.h]; exact f.h⟩
instance zPI {pl:List (Nat×Nat)} {B:World} {Γ:List zC} {z cs:List Value} {ps:List (Nat×Value)} {k:Array Value→K} [f:zHx pl z ps cs]:Nx B Γ (Bld z.toArray (pl[·]?) ps k) Γ (k cs.toArray):=⟨fun h w hw=>⟨_,f.h,h w hw⟩⟩
end
end Go.Sep
namespace Go.Proofs.YtgmbfnboiobeaaaGreat
section
open Go Go.Sep
structure zCp (s0:Sl) (x0:List UInt8) (s:Sl) (xs:List UInt8):Prop where
 rd:∀ w,RdB w s0 x0→RdB w s xs
 n:s.n = xs.length
 cap:s.n ≤ s.c
 spot:∀ a,s.a = some a→a.spot = none
theorem zCp.drop {s0 s:Sl} {x0 xs:List UInt8} {l:Nat} (h:zCp s0 x0 s xs) (hl:l ≤ s.n):zCp s0 x0 ⟨vY s.a l s.c 1,s.n - l,s.c - l⟩ (xs.drop l):=by
 refine ⟨fun w hw=>?_,by simp [h.n],by have:=h.cap; simp only; omega,fun a ha=>?_⟩
 ·have h1:=(h.rd w hw).drop (l:=l) (c:=s.c) hl h.cap h.spot
  rw [Nat.mul_one,← List.map_drop] at h1
  exact h1
 ·simp only [vY] at ha
  split at ha
  ·exact h.spot a ha
  ·cases hx:s.a with
   | none=>rw [hx] at ha; cases ha
   | some a0=>
    rw [hx] at ha
    simp only [Option.map_some,Option.some.injEq] at ha
    subst ha
    unfold Addr.add
    split
    ·exact h.spot a0 hx
    ·rfl
theorem zN7 {w:World} {s:Sl} {xs:List UInt8} (h:RdB w s xs):RdC w s 1 ((xs.map fun b=>(b.toNat:Int)).map (Value.int .u8)):=by
 rw [List.map_map]; exact h
def zDp (e:Nat) (xs:List UInt8):zC:=ex fun s0:Sl=>ex fun x0:List UInt8=>ex fun s:Sl=>Sep.stars [pur (zCp s0 x0 s xs),blk e (.cells [s.val].toArray xQ (0,0)),Bytes zP s0 x0]
theorem zMt (i:Nat):2 ^ (7 * i) = 128 ^ i:=by rw [Nat.pow_mul]
theorem zLu {a c i:Nat} (ha:a < 128 ^ i) (hc:a + c * 128 ^ i < 18446744073709551616) (hi:7 * i < 64):bitsOf .or .u64 (a:Int) (zBU .u64 (c:Int) ((7 * i:Nat):Int)) = ((a + c * 128 ^ i:Nat):Int):=by
 have h1:zBU .u64 (c:Int) ((7 * i:Nat):Int) = ((c * 128 ^ i:Nat):Int):=by
  unfold zBU
  have:min (((7 * i:Nat):Int).toNat) (IntKind.bits .u64) = 7 * i:=by simp [IntKind.bits]; omega
  rw [this]
  have e:(c:Int) * 2 ^ (7 * i) = ((c * 128 ^ i:Nat):Int):=by
   rw [← zMt]; push_cast; rfl
  rw [e,zAl (by omega) (by omega)]
 rw [h1]
 unfold bitsOf
 simp only
 have h2:(BitVec.ofInt (IntKind.bits .u64) (a:Int) ||| BitVec.ofInt (IntKind.bits .u64) ((c * 128 ^ i:Nat):Int)).toNat = a + c * 128 ^ i:=by
  show (BitVec.ofInt 64 (a:Int) ||| BitVec.ofInt 64 ((c * 128 ^ i:Nat):Int)).toNat = _
  rw [BitVec.toNat_or,BitVec.ofInt_natCast,BitVec.ofInt_natCast,BitVec.toNat_ofNat,BitVec.toNat_ofNat,Nat.mod_eq_of_lt (by omega),Nat.mod_eq_of_lt (by omega)]
  have h4:=Nat.two_pow_add_eq_or_of_lt (i:=7 * i) (b:=a) (by rw [zMt]; exact ha) c
  rw [zMt,Nat.mul_comm,Nat.or_comm] at h4
  rw [← h4,Nat.add_comm]
 rw [h2,zAl (by omega) (by omega)]
section
variable {B:World} {Γ Δ:List zC} {k Q:K} {e:Nat} {xs:List UInt8}
theorem zJq (h:∀ s0 x0 s,zCp s0 x0 s xs→HG B (blk e (.cells [s.val].toArray xQ (0,0))::Bytes zP s0 x0::Γ) k):HG B (zDp e xs::Γ) k:=zG9 fun s0=>zG9 fun x0=>zG9 fun s=>zFY <| zLp fun h1=>h s0 x0 s h1
theorem zDI {s0 s:Sl} {x0:List UInt8} (h1:zCp s0 x0 s xs) (h:HG B (zDp e xs::Γ) k):HG B (blk e (.cells [s.val].toArray xQ (0,0))::Bytes zP s0 x0::Γ) k:=fun w hw=>by
 refine h w ?_
 have h3:Holds B (Sep.stars [pur (zCp s0 x0 s xs),blk e (.cells [s.val].toArray xQ (0,0)),Bytes zP s0 x0]::Γ) w:=Holds.flat.2 (Holds.pur.2 ⟨h1,hw⟩)
 exact h3.imp fun g hg=>⟨s0,x0,s,hg⟩
instance (priority:=high) zOV:Sep.Own e (zDp e xs::Γ) (zDp e xs) Γ:=⟨.refl _⟩
theorem zEg {s:Sl} {q:Option Addr→K} (hl:xs.length ≤ 1000000) (hr:∀ w,Holds B Γ w→RdB w s xs) (h:∀ e,HG B (zDp e xs::Γ) (q (some ⟨e,0,none⟩))):HG B Γ (xu.call s q):=fun w hw=>by
 refine zDg _ _ _ ?_
 unfold xu
 refine qb hw hr (by omega) fun s1 w hw _=>?_
 refine hg hw ?_
 clear hw w
 refine uF fun e=>?_
 refine fun w hw=>?_
 have hc:=hw.tail.jK
 rw [List.length_map,Nat.mul_one] at hc
 exact zDI (e:=e) (xs:=xs) (s0:=s1) (x0:=xs) (s:=s1) ⟨fun w h=>h,hc.1.symm,hc.2.1,hc.2.2.1⟩ (h e) w hw
theorem zEh {q:Int→K} (h:HG B (zDp e xs::Γ) (q (if xs = [] then 0 else 32))):HG B (zDp e xs::Γ) (q9.call (some ⟨e,0,none⟩) q):=by
 refine fun w hw=>zC0 _ _ _ ?_
 refine hg hw ?_
 clear hw w
 unfold q9
 refine zJq fun s0 x0 s ho=>?_
 refine zAD ?_
 refine uN (b:=e) (l:=[s.val]) (x:=s) ?_
 have hn:=ho.n
 have back:=zDI (B:=B) (Γ:=Γ) (e:=e) ho h
 refine zA6 (fun hb=>?_) fun hb=>?_
 ·rw [if_neg (by rintro rfl; simp only [decide_eq_true_eq] at hb; simp at hn; omega)] at back
  exact back
 ·rw [if_pos (by simp only [decide_eq_false_iff_not] at hb; exact List.eq_nil_of_length_eq_zero (by omega))] at back
  exact back
theorem zJr {s0 s:Sl} {x0:List UInt8} {l:Nat} {ll:Int} {ks:Sl→K} (ho:zCp s0 x0 s xs) (hl:l ≤ s.n) (hll:ll = (l:Int)) (h:HG B Γ (ks ⟨vY s.a l s.c 1,s.n - l,s.c - l⟩)):HG B Γ (Slc s ll (s.n:Int) (s.c:Int) 1 ks):=fun w hw=>by
 subst hll
 exact ⟨_,by omega,by omega,by have:=ho.cap; omega,by omega,by simp,h w hw⟩
theorem zDq {b:UInt8} {rest:List UInt8} {q:Int→Int→K} (hx:xs = b::rest) (h:HG B (zDp e rest::Γ) (q (b.toNat:Int) 0)):HG B (zDp e xs::Γ) (xH.call (some ⟨e,0,none⟩) q):=by
 refine fun w hw=>zCJ _ _ _ ?_
 refine hg hw ?_
 clear hw w
 unfold xH
 refine zJq fun s0 x0 s ho=>?_
 have hn:=ho.n
 have hl:1 ≤ s.n:=by rw [hn,hx]; simp
 refine zAD ?_
 refine uN (b:=e) (l:=[s.val]) (x:=s) ?_
 refine s_f ?_ (by simp; omega)
 refine uN (b:=e) (l:=[s.val]) (x:=s) ?_
 refine zDl (L:=xs.map fun b=>(b.toNat:Int)) (c:=Value.int .u8) (j:=0) (x:=(b.toNat:Int)) (fun w hw=>zN7 (ho.rd w (Bytes.rd hw (List.mem_cons_of_mem _ List.mem_cons_self)))) (by rw [hx]; rfl) ?_
 refine uN (b:=e) (l:=[s.val]) (x:=s) ?_
 refine zJr ho hl rfl ?_
 refine zGK (b:=e) (l:=[s.val]) (l':=[Sl.val ⟨vY s.a 1 s.c 1,s.n - 1,s.c - 1⟩]) ?_ rfl rfl
 have h1:=ho.drop hl
 rw [hx] at h1
 exact zDI h1 h
theorem zEi {n:Nat} {rest:List UInt8} {q:Int→Int→K} (hn:n < 18446744073709551616) (hx:xs = uD n++rest) (hl:xs.length ≤ 1000000) (h:HG B (zDp e rest::Γ) (q (n:Int) 0)):HG B (zDp e xs::Γ) (zY.call (some ⟨e,0,none⟩) q):=by
 refine fun w hw=>zCz _ _ _ ?_
 refine hg hw ?_
 clear hw w
 unfold zY
 refine zJq fun s0 x0 s ho=>?_
 have hsn:=ho.n
 refine zAD ?_
 refine uN (b:=e) (l:=[s.val]) (x:=s) ?_
 refine zCN (α:=Int×Int) (ι:=Nat×Nat×Nat) (fun y i=>y.1 = (i.2.1:Int)∧y.2 = (i.1:Int)∧n = i.2.1 + i.2.2 * 128 ^ i.1∧i.2.1 < 128 ^ i.1∧(0 < i.1→1 ≤ i.2.2)∧xs.drop i.1 = uD i.2.2++rest) (fun y i=>blk e (.cells [s.val].toArray xQ (0,0))::Bytes zP s0 x0::Γ) (fun y i=>xs.length - i.1) (0,0,n) ⟨rfl,rfl,by simp,by simp,by simp,by simpa using hx⟩ ?_
 rintro k' ⟨_,_⟩ ⟨i,a,m⟩ ⟨rfl,rfl,hnm,ha,hm1,hd⟩ hk'
 simp only at hnm ha hm1 hd hk' ⊢
 have hi9:i ≤ 9:=by
  refine Nat.le_of_not_lt fun h10=>?_
  have h1:=hm1 (by omega)
  have h2:128 ^ 10 ≤ 128 ^ i:=Nat.pow_le_pow_right (by omega) h10
  have h3:128 ^ i ≤ m * 128 ^ i:=Nat.le_mul_of_pos_left _ h1
  omega
 have hne:uD m ≠ []:=by
  by_cases h1:m < 128
  ·rw [uO h1]; simp
  ·rw [zAd h1]; simp
 have hil:i < xs.length:=by
  refine Nat.lt_of_not_le fun h1=>?_
  rw [List.drop_of_length_le h1] at hd
  exact hne (List.append_eq_nil_iff.1 hd.symm).1
 unfold zY.b1
 refine s_t ?_ (by simp; omega)
 have step:∀ {b:UInt8},xs[i]? = some b→HG B (blk e (.cells [s.val].toArray xQ (0,0))::Bytes zP s0 x0::Γ) (zY.s2 q (fun n2 t11=>k' (n2,t11)) ⟨e,0,none⟩ (a:Int) (i:Int) (b.toNat:Int) s (s.n:Int) (i:Int) false)→(i = 9→b.toNat ≤ 1) →
   HG B (blk e (.cells [s.val].toArray xQ (0,0))::Bytes zP s0 x0::Γ) (Idx s (i:Int) 1 fun t14=>Ld t14 (Value.int .u8) fun t15=>Ite (decide ((i:Int) = 9)) (zY.s2 q (fun n2 t11=>k' (n2,t11)) ⟨e,0,none⟩ (a:Int) (i:Int) t15 s (s.n:Int) (i:Int) (decide ((1:Int) < t15))) (zY.s2 q (fun n2 t11=>k' (n2,t11)) ⟨e,0,none⟩ (a:Int) (i:Int) t15 s (s.n:Int) (i:Int) false)):=fun {b} hb hs hb9=>by
  refine zDl (L:=xs.map fun b=>(b.toNat:Int)) (c:=Value.int .u8) (j:=i) (x:=(b.toNat:Int)) (fun w hw=>zN7 (ho.rd w (Bytes.rd hw (List.mem_cons_of_mem _ List.mem_cons_self)))) (by rw [List.getElem?_map,hb]; rfl) ?_
  refine zA6 (fun h9=>?_) fun h9=>hs
  have:=hb9 (by simp only [decide_eq_true_eq] at h9; omega)
  rw [show decide ((1:Int) < (b.toNat:Int)) = false by simp; omega]
  exact hs
 have hget:xs[i]? = (xs.drop i)[0]?:=by simp
 by_cases hm:m < 128
 ·rw [uO hm] at hd
  have hub:(u8 m).toNat = m:=by rw [u8N,Nat.mod_eq_of_lt (by omega)]
  refine step (b:=u8 m) (by rw [hget,hd]; rfl) ?_ fun h9=>?_
  ·unfold zY.s2
   refine s_f ?_ (by rfl)
   refine zJl (by decide) ?_
   rw [hub]
   have e1:Int.tmod (m:Int) 128 = (m:Int):=Int.tmod_eq_of_lt (by omega) (by omega)
   refine jR e1 ?_
   refine jR (zAl (by omega) (by omega)) ?_
   refine jR (show IntKind.wrap .i64 (7 * (i:Int)) = ((7 * i:Nat):Int) by rw [wrap64 (by omega) (by omega)]; push_cast; rfl) ?_
   refine zJl (by omega) ?_
   refine jR rfl ?_
   refine jR (zLu ha (by omega) (by omega)) ?_
   refine s_t ?_ (by simp; omega)
   have s3:HG B (blk e (.cells [s.val].toArray xQ (0,0))::Bytes zP s0 x0::Γ) (zY.s3 q (fun n2 t11=>k' (n2,t11)) ⟨e,0,none⟩ ((a + m * 128 ^ i:Nat):Int) (i:Int) false):=by
    unfold zY.s3
    refine s_f ?_ (by rfl)
    refine uN (b:=e) (l:=[s.val]) (x:=s) ?_
    refine zJk ?_
    refine zJr ho (l:=i + 1) (by omega) (by push_cast; rfl) ?_
    refine zGK (b:=e) (l:=[s.val]) (l':=[Sl.val ⟨vY s.a (i + 1) s.c 1,s.n - (i + 1),s.c - (i + 1)⟩]) ?_ rfl rfl
    have h1:=ho.drop (l:=i + 1) (by omega)
    have h2:xs.drop (i + 1) = rest:=by
     rw [← List.drop_drop,hd]; rfl
    rw [h2] at h1
    rw [← hnm]
    exact zDI h1 h
   refine zA6 (fun h0=>?_) fun h0=>s3
   by_cases hi0:0 < i
   ·have:=hm1 hi0
    simp only [decide_eq_true_eq] at h0
    omega
   ·rw [show decide ((0:Int) < (i:Int)) = false by simp; omega]
    exact s3
  ·rw [hub]
   subst h9
   have h3:m * 128 ^ 9 ≤ n:=by omega
   have h4:(128:Nat) ^ 9 = 9223372036854775808:=by decide
   rw [h4] at h3
   omega
 ·rw [zAd hm] at hd
  have hub:(u8 (m % 128 + 128)).toNat = m % 128 + 128:=by rw [u8N,Nat.mod_eq_of_lt (by omega)]
  have hi8:i ≤ 8:=by
   refine Nat.le_of_not_lt fun h9=>?_
   have h2:128 ^ 9 ≤ 128 ^ i:=Nat.pow_le_pow_right (by omega) h9
   have h3:128 * 128 ^ 9 ≤ m * 128 ^ i:=Nat.mul_le_mul (by omega) h2
   omega
  refine step (b:=u8 (m % 128 + 128)) (by rw [hget,hd]; rfl) ?_ fun h9=>by omega
  unfold zY.s2
  refine s_f ?_ (by rfl)
  refine zJl (by decide) ?_
  rw [hub]
  have e1:Int.tmod ((m % 128 + 128:Nat):Int) 128 = ((m % 128:Nat):Int):=by rw [Int.tmod_eq_emod_of_nonneg (by omega)]; omega
  refine jR e1 ?_
  refine jR (zAl (by omega) (by omega)) ?_
  refine jR (show IntKind.wrap .i64 (7 * (i:Int)) = ((7 * i:Nat):Int) by rw [wrap64 (by omega) (by omega)]; push_cast; rfl) ?_
  refine zJl (by omega) ?_
  refine jR rfl ?_
  have hmm:m = m % 128 + 128 * (m / 128):=by omega
  have hmul:m * 128 ^ i = m % 128 * 128 ^ i + m / 128 * 128 ^ (i + 1):=by
   rw [Nat.pow_succ]
   conv=>lhs; rw [hmm]
   rw [Nat.add_mul,Nat.mul_comm 128 (m / 128),Nat.mul_assoc,Nat.mul_comm 128 (128 ^ i)]
  refine jR (zLu ha (by omega) (by omega)) ?_
  refine s_f ?_ (by simp; omega)
  refine zJk ?_
  refine hk' (((a + m % 128 * 128 ^ i:Nat):Int),(i:Int) + 1) (i + 1,a + m % 128 * 128 ^ i,m / 128) ⟨rfl,by simp,by simp only; omega,?_,fun _=>by simp only; omega,?_⟩ (by simp only; omega)
  ·simp only
   rw [Nat.pow_succ]
   have h5:m % 128 * 128 ^ i ≤ 127 * 128 ^ i:=Nat.mul_le_mul_right _ (by omega)
   omega
  ·simp only
   rw [← List.drop_drop,hd]; rfl
end
end
section
open Go Go.Sep
def zCP (p:Nat) (xs:List UInt8):zC:=ex fun s:Sl=>Sep.stars [blk p (.cells [s.val].toArray q8 (0,0)),SlC zP 1 s (xs.map qA)]
section
variable {B:World} {Γ Δ:List zC} {p:Nat} {xs:List UInt8} {k Q:K}
theorem zHy (h:∀ s,HG B (blk p (.cells [s.val].toArray q8 (0,0))::SlC zP 1 s (xs.map qA)::Γ) k):HG B (zCP p xs::Γ) k:=zG9 fun s=>zFY (h s)
theorem zBw {s:Sl} (h:HG B (zCP p xs::Γ) k):HG B (blk p (.cells [s.val].toArray q8 (0,0))::SlC zP 1 s (xs.map qA)::Γ) k:=fun w hw=>by
 refine h w ?_
 have h3:Holds B (Sep.stars [blk p (.cells [s.val].toArray q8 (0,0)),SlC zP 1 s (xs.map qA)]::Γ) w:=Holds.flat.2 hw
 exact h3.imp fun g hg=>⟨s,hg⟩
instance (priority:=high) zOW:Sep.Own p (zCP p xs::Γ) (zCP p xs) Γ:=⟨.refl _⟩
theorem zIS {q0:Addr→K} (h:∀ p,HG B (zCP p []::Γ) (q0 ⟨p,0,none⟩)):HG B Γ (New q8 #[Sl.val ⟨none,0,0⟩] q0):=by
 refine uF fun p=>?_
 refine fun w hw=>?_
 refine hg (show Holds B (SlC zP 1 ⟨none,0,0⟩ (([]:List UInt8).map qA)::_) w from hw.jo _ _) ?_
 refine zMn ?_
 exact zBw (h p)
theorem zMu {n:Nat} (hn:n < 1180591620717411303424) (hx:xs.length ≤ 50000000) (h:HG B (zCP p (xs++uD n)::Γ) Q):HG B (zCP p xs::Γ) (yY.call (some ⟨p,0,none⟩) (n:Int) Q):=by
 refine fun w hw=>zAJ _ _ _ _ ?_
 refine hg hw ?_
 clear hw w
 have hnl:=xP 9 n (by simpa using hn)
 unfold yY
 refine zCN (α:=Int) (ι:=Nat×List UInt8) (fun x i=>x = (i.1:Int)∧i.2++uD i.1 = xs++uD n) (fun x i=>zCP p i.2::Γ) (fun x i=>i.1) (n,xs) ⟨rfl,rfl⟩ ?_
 rintro k' _ ⟨m,ys⟩ ⟨rfl,he⟩ hk'
 simp only at he hk' ⊢
 have hyl:ys.length ≤ 50000010:=by have:=congrArg List.length he; simp only [List.length_append] at this; omega
 unfold yY.b1
 refine zA6 (fun hb=>?_) fun hb=>?_
 ·have hm:¬ m < 128:=by simp only [decide_eq_true_eq] at hb; omega
  refine zAD ?_
  refine zHy fun s=>?_
  refine zEc s fun a1 a2 a3 a4=>?_
  simp only [List.length_map] at a1
  repeat refine zHA ?_
  refine jR rfl ?_
  refine jR (zLs m) ?_
  refine uF fun t16=>?_
  refine zDk (s:=s) (esz:=1) (us:=[qA (u8 (m % 128 + 128))]) (zAc rfl) (by simp [qA,qV]) (by simp only; omega) fun s2 _=>?_
  rw [show ys.map qA++[qA (u8 (m % 128 + 128))] = (ys++[u8 (m % 128 + 128)]).map qA by simp]
  repeat refine zHA ?_
  refine zJl (by decide) ?_
  refine jR (zJo m 7 (by decide)) ?_
  refine zFZ s2 ?_
  refine zBs p ?_
  refine zBw ?_
  refine xD (hk' ((m / 2 ^ 7:Nat):Int) (m / 2 ^ 7,ys++[u8 (m % 128 + 128)]) ⟨rfl,?_⟩ (by simp only; omega))
  simp only
  rw [← he,zAd hm]; simp
 ·have hm:m < 128:=by simp only [decide_eq_false_iff_not] at hb; omega
  refine zAD ?_
  refine zHy fun s=>?_
  refine zEc s fun a1 a2 a3 a4=>?_
  simp only [List.length_map] at a1
  repeat refine zHA ?_
  refine jR (zAK m) ?_
  refine uF fun t16=>?_
  refine zDk (s:=s) (esz:=1) (us:=[qA (u8 m)]) (zAc rfl) (by simp [qA,qV]) (by simp only; omega) fun s2 _=>?_
  rw [show ys.map qA++[qA (u8 m)] = (ys++[u8 m]).map qA by simp]
  repeat refine zHA ?_
  refine zFZ s2 ?_
  refine zBs p ?_
  refine zBw ?_
  rw [← uO hm,he]
  exact xD h
theorem zK5 {q:Sl→K} (hx:xs.length ≤ 50000000) (h:∀ s,HG B (Bytes zP s xs::zCP p xs::Γ) (q s)):HG B (zCP p xs::Γ) (qU.call (some ⟨p,0,none⟩) q):=by
 refine fun w hw=>jq _ _ _ ?_
 refine hg hw ?_
 clear hw w
 unfold qU
 refine zAD ?_
 refine zHy fun s=>?_
 repeat refine zHA ?_
 refine fun w hw=>qb hw (fun w h=>(zCM (s:=s) h).1) (by omega) fun s1 w hw _=>?_
 refine hg hw ?_
 clear hw w
 refine zFZ s ?_
 refine zBs p ?_
 refine zBw ?_
 exact xD (h s1)
theorem zHz {b:UInt8} (hx:xs.length ≤ 50000000) (h:HG B (zCP p (xs++[b])::Γ) Q):HG B (zCP p xs::Γ) (xG.call (some ⟨p,0,none⟩) (b.toNat:Int) Q):=by
 refine fun w hw=>zCI _ _ _ _ ?_
 refine hg hw ?_
 clear hw w
 unfold xG
 refine zAD ?_
 refine zHy fun s=>?_
 refine zEc s fun a1 a2 a3 a4=>?_
 simp only [List.length_map] at a1
 repeat refine zHA ?_
 refine uF fun t16=>?_
 refine zDk (s:=s) (esz:=1) (us:=[qA b]) (zAc rfl) (by simp [qA,qV]) (by simp only; omega) fun s2 _=>?_
 rw [show xs.map qA++[qA b] = (xs++[b]).map qA by simp]
 repeat refine zHA ?_
 refine zFZ s2 ?_
 refine zBs p ?_
 refine zBw ?_
 exact xD h
end
end
section
open Go Go.Sep
def qc (b:List UInt8):List UInt8:=if h:b = [] then [] else qN (b.take 1024)++qc (b.drop 1024)
termination_by b.length
decreasing_by
 have:0 < b.length:=List.length_pos_iff.2 h
 simp; omega
theorem vV:qc [] = []:=by rw [qc,dif_pos rfl]
theorem xE {b:List UInt8} (h:b ≠ []):qc b = qN (b.take 1024)++qc (b.drop 1024):=by rw [qc,dif_neg h]
def yG (b:List UInt8):List UInt8:=qN (uD b.length)++qc b
theorem zAg:∀ (n:Nat) (b:List UInt8),b.length = n→(qc b).length ≤ 7 * b.length:=by
 intro n
 induction n using Nat.strongRecOn with
 | _ n ih=>
  intro b hb
  by_cases h:b = []
  ·subst h; rw [vV]; simp
  ·have hp:0 < b.length:=List.length_pos_iff.2 h
   rw [xE h,List.length_append,yj]
   have:=ih (b.drop 1024).length (by simp; omega) _ rfl
   simp only [List.length_drop,List.length_take] at this ⊢
   omega
section
variable {B w:World} {Γ:List zC}
theorem zBx {s:Sl} {k:Value→K} (h:Holds B Γ w)
  (hk:∀ s2 n3 w,Holds B (blk s2 (.cells #[s.val] zT (0,0))::blk n3 (.cells #[.int .i64 1024] zAA (0,0))::Γ) w→k (.func (.func 121) #[] #[.pointer (some ⟨s2,0,none⟩),.pointer (some ⟨n3,0,none⟩)]) w):zq.call s 1024 k w:=by
 refine jB _ _ _ _ ?_
 unfold zq
 refine vR h ?_
 clear h
 intro s2 w h
 try simp only [yC,Nat.zero_add,Nat.reduceAdd]
 refine vR h ?_
 clear h
 intro n3 w h
 try simp only [yC,Nat.zero_add,Nat.reduceAdd]
 refine xL (x:=(1024:Int)) h rfl (by first | with_reducible exact M0 | with_reducible exact M1 | with_reducible exact M2 | with_reducible exact M3 | with_reducible exact M4 | with_reducible exact M5 | with_reducible exact M6 | with_reducible exact M7 | with_reducible exact M8 | with_reducible exact M9 | with_reducible exact M10 | with_reducible exact M11 | with_reducible exact M12) ?_ ?_
 ·exact rfl
 refine zf (by decide) ?_
 unfold zq.s1
 exact hk s2 n3 _ h.swap
theorem zK6 {w:World} {s:Sl} {d:List UInt8} {i n:Nat} (h:RdB w s d) (hi:i + n ≤ s.n) (hcap:s.n ≤ s.c) (hsp:∀ a,s.a = some a→a.spot = none):RdB w ⟨vY s.a i (i + n) 1,n,n⟩ ((d.drop i).take n):=by
 have h1:=h.take (m:=i + n) (c:=i + n) hi
 have h2:=h1.drop (l:=i) (c:=i + n) (by simp only; omega) (by simp only; omega) hsp
 simp only [Nat.mul_one] at h2
 have e:i + n - i = n:=by omega
 rw [e] at h2
 show RdC w _ 1 (((d.drop i).take n).map qA)
 rw [List.map_take,List.map_drop]
 rw [List.drop_take,e] at h2
 exact h2
theorem zAh {s:Sl} {xs:List UInt8} {k:Sl→K} (hl:xs.length ≤ 100000) (hcap:s.n ≤ s.c) (h:Holds B Γ w) (hr:∀ w,Holds B Γ w→RdB w s xs)
  (hk:∀ f w,Holds B (Bytes zP f (yG xs)::Γ) w→k f w):uK.call s k w:=by
 have hn:xs.length = s.n:=by have:=(hr w h).len; simpa using this
 refine zFV _ _ _ ?_
 unfold uK
 refine vR h ?_
 clear h
 intro t10 w h
 try simp only [yC,Nat.zero_add,Nat.reduceAdd]
 rw [← hn]
 refine qX (zAl (by omega) (by omega)) ?_
 replace h:=(h.jo zP 1).swap
 refine zBt (xs:=[]) (n:=xs.length) (by simp; omega) h fun g' w h=>?_
 have hnl:(uD xs.length).length ≤ 3:=xP 2 _ (by omega)
 refine zBJ (by simp; omega) h fun d w h=>?_
 simp only [List.nil_append] at h
 refine uZ (by omega) h (fun w h=>Bytes.rd h List.mem_cons_self) fun f w h=>?_
 refine vR h ?_
 clear h
 intro out w h
 try simp only [yC,Nat.zero_add,Nat.reduceAdd]
 first | refine S0 h rfl ?_ rfl ?_ | refine S1 h rfl ?_ rfl ?_ | refine S2 h rfl ?_ rfl ?_ | refine S3 h rfl ?_ rfl ?_ | refine S4 h rfl ?_ rfl ?_ | refine S5 h rfl ?_ rfl ?_ | refine S6 h rfl ?_ rfl ?_ | refine S7 h rfl ?_ rfl ?_ | refine S8 h rfl ?_ rfl ?_
 ·first | exact Nat.lt_of_ble_eq_true rfl | (simp; done) | (simp; omega)
 clear h
 intro w h
 try simp only [N1,N2,N3,N4,N5,N6,N7] at h
 refine zBx h fun s2 n3 w h=>?_
 refine zFu h rfl (by kernel_rfl) fun D l r w hr1 hr2 h hy=>?_
 have hfl:=zAg _ xs rfl
 refine zDT (uS (yv l) ⟨s2,0,none⟩ ⟨n3,0,none⟩ (fun w3=>∃ Δ,Holds B (blk l (.loop r)::Δ) w3∧∀ w,Holds B Δ w→(Ld ⟨out,0,none⟩ Sl.val fun t33=>vL D (k t33)) w) w ?_) fun v w h=>h.2
 unfold yB
 refine yR.of (fun t w=>∃ (i:Nat) (o:Sl) (ys:List UInt8),t = (i:Int)∧i ≤ xs.length + 1024∧ys++qc (xs.drop i) = yG xs ∧
   Holds B (blk l (.loop r)::blk D (.deferred (some []))::blk s2 (.cells #[s.val] zT (0,0))::blk n3 (.cells #[.int .i64 1024] zAA (0,0))::blk out (.cells #[o.val] zT (0,0))::Bytes zP o ys::Γ) w)
  (fun t _=>((s.n:Int) - t).toNat) ⟨0,f,qN (uD xs.length),rfl,by omega,rfl,by
   replace h:=P5 h
   replace h:=P5 h
   replace h:=P5 h
   replace h:=P5 h
   replace h:=P5 h
   replace h:=P5 h
   replace h:=D6 h
   try simp only [N1,N2,N3,N4,N5,N6,N7] at h
   exact h⟩ ?_
 clear h
 rintro t w ⟨i,o,ys,rfl,hi,he,h⟩
 unfold yB.b1
 refine xL (x:=s) h rfl (by first | with_reducible exact M0 | with_reducible exact M1 | with_reducible exact M2 | with_reducible exact M3 | with_reducible exact M4 | with_reducible exact M5 | with_reducible exact M6 | with_reducible exact M7 | with_reducible exact M8 | with_reducible exact M9 | with_reducible exact M10 | with_reducible exact M11 | with_reducible exact M12) ?_ ?_
 ·exact rfl
 have hR:∀ w,Holds B (blk l (.loop r)::blk D (.deferred (some []))::blk s2 (.cells #[s.val] zT (0,0))::blk n3 (.cells #[.int .i64 1024] zAA (0,0))::blk out (.cells #[o.val] zT (0,0))::Bytes zP o ys::Γ) w→RdB w s xs:=fun w h=>hr _ h.tail.tail.tail.tail.tail.tail
 refine yV (fun hb=>?_) (fun hb=>?_)
 ·simp only [decide_eq_true_eq] at hb
  have hne:xs.drop i ≠ []:=fun e=>by have:=congrArg List.length e; simp at this; omega
  rw [xE hne] at he
  have hsp:=zFW (hR w h) (fun e=>by rw [e] at hn; simp at hn; omega)
  refine zDS h ?_
  clear h
  intro w h
  refine xL (x:=(1024:Int)) h rfl (by first | with_reducible exact M0 | with_reducible exact M1 | with_reducible exact M2 | with_reducible exact M3 | with_reducible exact M4 | with_reducible exact M5 | with_reducible exact M6 | with_reducible exact M7 | with_reducible exact M8 | with_reducible exact M9 | with_reducible exact M10 | with_reducible exact M11 | with_reducible exact M12) ?_ ?_
  ·exact rfl
  refine xL (x:=s) h rfl (by first | with_reducible exact M0 | with_reducible exact M1 | with_reducible exact M2 | with_reducible exact M3 | with_reducible exact M4 | with_reducible exact M5 | with_reducible exact M6 | with_reducible exact M7 | with_reducible exact M8 | with_reducible exact M9 | with_reducible exact M10 | with_reducible exact M11 | with_reducible exact M12) ?_ ?_
  ·exact rfl
  refine ⟨_,by omega,by omega,by omega,by omega,rfl,?_⟩
  simp only [Int.toNat_natCast]
  obtain ⟨m,hm⟩:∃ m:Nat,m = min 1024 (xs.length - i):=⟨_,rfl⟩
  refine qX (e':=(m:Int)) (by split <;> omega) ?_
  refine xL (x:=s) h rfl (by first | with_reducible exact M0 | with_reducible exact M1 | with_reducible exact M2 | with_reducible exact M3 | with_reducible exact M4 | with_reducible exact M5 | with_reducible exact M6 | with_reducible exact M7 | with_reducible exact M8 | with_reducible exact M9 | with_reducible exact M10 | with_reducible exact M11 | with_reducible exact M12) ?_ ?_
  ·exact rfl
  refine qX (e':=((i + m:Nat):Int)) (by rw [wrap64 (by omega) (by omega)]; omega) ?_
  refine qX (e':=((i + m:Nat):Int)) (by rw [wrap64 (by omega) (by omega)]; omega) ?_
  refine ⟨_,by omega,by omega,by omega,by omega,rfl,?_⟩
  simp only [Int.toNat_natCast,show i + m - i = m by omega]
  have hmt:(xs.drop i).take 1024 = (xs.drop i).take m:=by
   have h1:(xs.drop i).length = xs.length - i:=by simp
   by_cases hle:xs.length - i ≤ 1024
   ·rw [List.take_of_length_le (by omega),List.take_of_length_le (by omega)]
   ·have:m = 1024:=by omega
    rw [this]
  have hyl:ys.length ≤ 800000:=by
   have h1:=congrArg List.length he
   have h2:(yG xs).length ≤ 9 + 7 * xs.length:=by
    unfold yG
    rw [List.length_append,yj]
    omega
   simp only [List.length_append] at h1
   omega
  refine zDU (hy ⟨vY s.a i (i + m) 1,m,m⟩ (fun w=>∃ o',Holds B (blk l (.loop r)::blk D (.deferred (some []))::blk s2 (.cells #[s.val] zT (0,0))::blk n3 (.cells #[.int .i64 1024] zAA (0,0))::blk out (.cells #[Sl.val o'] zT (0,0))::Bytes zP o' (ys++qN ((xs.drop i).take 1024))::Γ) w) w _ h fun W h=>?_) fun v w hv=>?_
  ·have hc:=fun w (h:Holds B (blk l (.loop { r with state:=.busy })::blk D (.deferred (some []))::blk s2 (.cells #[s.val] zT (0,0))::blk n3 (.cells #[.int .i64 1024] zAA (0,0))::blk out (.cells #[o.val] zT (0,0))::Bytes zP o ys::Γ) w)=>zK6 (i:=i) (n:=m) (hr _ h.tail.tail.tail.tail.tail.tail) (by omega) hcap hsp
   rw [hmt]
   have hml:((xs.drop i).take m).length = m:=by simp; omega
   refine uZ (b:=(xs.drop i).take m) (by omega) h hc fun f w h=>?_
   refine xL (x:=o) h rfl (by first | with_reducible exact M0 | with_reducible exact M1 | with_reducible exact M2 | with_reducible exact M3 | with_reducible exact M4 | with_reducible exact M5 | with_reducible exact M6 | with_reducible exact M7 | with_reducible exact M8 | with_reducible exact M9 | with_reducible exact M10 | with_reducible exact M11 | with_reducible exact M12) ?_ ?_
   ·exact rfl
   have hfl2:=yj ((xs.drop i).take m)
   replace h:=P5 h
   replace h:=P5 h
   replace h:=P5 h
   replace h:=P5 h
   replace h:=P5 h
   replace h:=P5 h
   replace h:=P6 h
   try simp only [N1,N2,N3,N4,N5,N6,N7] at h
   refine zAb h (Bytes.rd h (List.mem_cons_of_mem _ List.mem_cons_self)) (by omega) fun o' w h _ _=>?_
   first | refine S0 h rfl ?_ rfl ?_ | refine S1 h rfl ?_ rfl ?_ | refine S2 h rfl ?_ rfl ?_ | refine S3 h rfl ?_ rfl ?_ | refine S4 h rfl ?_ rfl ?_ | refine S5 h rfl ?_ rfl ?_ | refine S6 h rfl ?_ rfl ?_ | refine S7 h rfl ?_ rfl ?_ | refine S8 h rfl ?_ rfl ?_
   ·first | exact Nat.lt_of_ble_eq_true rfl | (simp; done) | (simp; omega)
   clear h
   intro w h
   try simp only [N1,N2,N3,N4,N5,N6,N7] at h
   replace h:=P6 h
   replace h:=P6 h
   replace h:=P6 h
   replace h:=P6 h
   replace h:=P6 h
   replace h:=D6 h
   try simp only [N1,N2,N3,N4,N5,N6,N7] at h
   refine zIy h fun w h=>?_
   have e:({ ({ r with state:=.busy }:Loop) with state:=.ready,pending:=none }:Loop) = r:=by
    cases r
    simp only at hr1 hr2
    simp only [hr1,hr2]
   rw [e] at h
   exact ⟨o',h⟩
  ·obtain ⟨rfl,o',h⟩:=hv
   refine ⟨true,rfl,?_⟩
   refine zf rfl ?_
   refine xL (x:=(1024:Int)) h rfl (by first | with_reducible exact M0 | with_reducible exact M1 | with_reducible exact M2 | with_reducible exact M3 | with_reducible exact M4 | with_reducible exact M5 | with_reducible exact M6 | with_reducible exact M7 | with_reducible exact M8 | with_reducible exact M9 | with_reducible exact M10 | with_reducible exact M11 | with_reducible exact M12) ?_ ?_
   ·exact rfl
   refine qX (e':=((i + 1024:Nat):Int)) (by rw [wrap64 (by omega) (by omega)]; omega) ?_
   refine ⟨⟨i + 1024,o',_,rfl,by omega,?_,h⟩,by omega⟩
   rw [← he,List.append_assoc,List.drop_drop]
 ·simp only [decide_eq_false_iff_not] at hb
  have e0:xs.drop i = []:=List.drop_of_length_le (by omega)
  rw [e0,vV,List.append_nil] at he
  subst he
  refine ⟨_,h,fun w h=>?_⟩
  refine xL (x:=o) h rfl (by first | with_reducible exact M0 | with_reducible exact M1 | with_reducible exact M2 | with_reducible exact M3 | with_reducible exact M4 | with_reducible exact M5 | with_reducible exact M6 | with_reducible exact M7 | with_reducible exact M8 | with_reducible exact M9 | with_reducible exact M10 | with_reducible exact M11 | with_reducible exact M12) ?_ ?_
  ·exact rfl
  replace h:=h
  refine zE6 h fun w h=>?_
  replace h:=P3 h
  replace h:=D1 h
  replace h:=D1 h
  replace h:=D1 h
  try simp only [N1,N2,N3,N4,N5,N6,N7] at h
  exact hk _ _ h
end
end
section
open Go Go.Sep
theorem jM {b:List UInt8} (h:qc b = []):b = []:=by
 by_cases hb:b = []
 ·exact hb
 ·rw [xE hb] at h
  have:=congrArg List.length h
  rw [List.length_append,yj] at this
  simp at this
theorem zDr (b:List UInt8):b.length ≤ (qc b).length:=by
 have key:∀ (n:Nat) (b:List UInt8),b.length = n→b.length ≤ (qc b).length:=by
  intro n
  induction n using Nat.strongRecOn with
  | _ n ih=>
   intro b hb
   by_cases hbn:b = []
   ·subst hbn; simp
   ·have hp:0 < b.length:=List.length_pos_iff.2 hbn
    rw [xE hbn,List.length_append,yj]
    have:=ih (b.drop 1024).length (by simp; omega) _ rfl
    simp only [List.length_drop,List.length_take] at this ⊢
    omega
 exact key _ b rfl
theorem zGT {b:List UInt8} (hb:b.length ≤ 1000000):(uD b.length).length ≤ 4096:=by have:=xP 2 b.length (by omega); omega
theorem zGU (b:List UInt8):b.length ≤ (yG b).length:=by
 have:=zDr b
 unfold yG
 rw [List.length_append]; omega
theorem zCq {b:List UInt8} (hb:b.length ≤ 100000):(yG b).length ≤ 9 + 7 * b.length:=by
 have h2:=zAg _ b rfl
 have h3:=xP 2 b.length (by omega)
 unfold yG
 rw [List.length_append,yj]
 omega
theorem zHB (a b:List UInt8) (h:qc a = qc b):a = b:=by
 have key:∀ (n:Nat) (a b:List UInt8),a.length = n→qc a = qc b→a = b:=by
  intro n
  induction n using Nat.strongRecOn with
  | _ n ih=>
   intro a b hn h
   by_cases ha:a = []
   ·subst ha; rw [vV] at h; exact (jM h.symm).symm
   ·by_cases hb:b = []
    ·subst hb; rw [vV] at h; exact jM h
    ·have hp:0 < a.length:=List.length_pos_iff.2 ha
     rw [xE ha,xE hb] at h
     obtain ⟨h1,h2⟩:=zEd (by simp; omega) (by simp; omega) h
     have h3:=ih (a.drop 1024).length (by simp; omega) _ _ rfl h2
     rw [← List.take_append_drop 1024 a,h1,h3,List.take_append_drop]
 exact key _ a b rfl h
theorem pack_inj {a b:List UInt8} (ha:a.length ≤ 100000) (h:yG a = yG b):a = b:=by
 have h1:=zGU b
 have h2:=zCq ha
 rw [← h] at h1
 have h3:=zEd (zGT (by omega)) (zGT (by omega)) h
 exact zHB _ _ h3.2
section
variable {B w:World} {Γ:List zC}
theorem zCQ {s:Sl} {d:List UInt8} {k:Sl→Int→K} (hl:d.length ≤ 100000) (hcap:s.n ≤ s.c) (h:Holds B Γ w) (hr:∀ w,Holds B Γ w→RdB w s d)
  (hok:∀ b f w,yG b = d→Holds B (Bytes zP f b::Γ) w→k f 0 w) (hno:(∀ b,yG b ≠ d)→∀ w,Holds B Γ w→k ⟨none,0,0⟩ 61 w):yD.call s k w:=by
 have hn:d.length = s.n:=by have:=(hr w h).len; simpa using this
 refine zDi _ _ _ ?_
 unfold yD
 refine vv (by omega) h hr hcap fun f w h=>?_
 replace h:=h.tail
 refine vR h ?_
 clear h
 intro t16 w h
 try simp only [yC,Nat.zero_add,Nat.reduceAdd]
 replace h:=jE (xs:=[]) (n:=0) (by rfl) rfl h
 have hF:=zIP d
 have hF1:=hF.le
 refine yR.of (fun t w=>∃ (i e:Nat) (o:Sl) (b:List UInt8),t = ((i:Int),(e:Int),o)∧i ≤ d.length∧e ≤ 33∧b.length ≤ i ∧
   (∀ b0,yG b0 = d→e = 0∧∃ j,b = b0.take j∧j ≤ b0.length∧d.drop i = qc (b0.drop j))∧Holds B (Bytes zP o b::Γ) w)
  (fun t _=>2 * ((s.n:Int) - t.1).toNat + (if t.2.1 = 0 then 1 else 0)) ⟨(zS d).2.1,(zS d).2.2,_,[],rfl,hF.le,hF.err,by simp,fun b0 hb0=>?_,h⟩ ?_
 ·have hnl:(uD b0.length).length ≤ 4096:=by
   have h1:(yG b0).length ≤ 100000:=by rw [hb0]; omega
   unfold yG at h1
   rw [List.length_append,yj] at h1
   have h3:(uD b0.length).length ≤ 4∨¬ b0.length < 128 ^ 4:=by
    by_cases hb:b0.length < 128 ^ 4
    ·exact .inl (xP 3 _ hb)
    ·exact .inr hb
   rcases h3 with h3 | h3
   ·omega
   ·exfalso
    have h4:=zDr b0
    omega
  have hu:=uR (b:=uD b0.length) (qc b0) hnl
  have hu2:zS d = (uD b0.length,6 + (uD b0.length).length,0):=by rw [← hb0]; exact hu
  rw [hu2]
  refine ⟨rfl,0,rfl,by omega,?_⟩
  rw [← hb0]
  unfold yG
  simp only [List.drop_zero]
  rw [← yj,List.drop_left]
 clear h hF hF1
 rintro t w ⟨i,e,o,b,rfl,hi,he33,hbl,hall,h⟩
 dsimp only
 have hlast:(∀ b0,yG b0 = d→e = 0∧d.drop i = []→b = b0):=fun b0 hb0 hx=>by
  obtain ⟨_,j,h1,h2,h3⟩:=hall b0 hb0
  rw [hx.2] at h3
  have h4:=jM h3.symm
  have:b0.length ≤ j:=by have:=congrArg List.length h4; simp at this; omega
  rw [h1,List.take_of_length_le this]
 unfold yD.b1
 refine yV (fun hb=>?_) (fun hb=>?_)
 ·simp only [decide_eq_true_eq] at hb
  have he0:e = 0:=by omega
  unfold yD.s2
  refine yV (fun hb2=>?_) (fun hb2=>?_)
  ·simp only [decide_eq_true_eq] at hb2
   refine ⟨_,by omega,by omega,by omega,by omega,rfl,?_⟩
   simp only [Int.toNat_natCast]
   have hsp:=zFW (hr w h.tail) (fun e=>by rw [e] at hn; simp at hn; omega)
   have hG:=zIP (d.drop i)
   have hG1:=hG.le
   have hG2:=hG.small
   simp only [List.length_drop] at hG1
   refine vv (d:=d.drop i) (by simp; omega) h (fun w h=>zGM (hr w h.tail) (by omega) hcap hsp) (by simp only; omega) fun f w h=>?_
   have hbb:b.length + (zS (d.drop i)).1.length ≤ i + (zS (d.drop i)).2.1:=by
    by_cases hz:(zS (d.drop i)).2.2 = 0
    ·have:=(hG.ok hz).2.1; omega
    ·have:=(hG.no hz).1; rw [this]; simp; omega
   refine zAb h.swap (Bytes.rd h List.mem_cons_self) (by omega) fun o' w h _ _=>?_
   replace h:=h.del 1 at1
   try simp only [N1,N2,N3,N4,N5,N6,N7] at h
   refine qX (e':=((i + (zS (d.drop i)).2.1:Nat):Int)) (by rw [wrap64 (by omega) (by omega)]; omega) ?_
   refine ⟨⟨_,_,o',_,rfl,by omega,hG.err,?_,fun b0 hb0=>?_,h⟩,?_⟩
   ·rw [List.length_append]; omega
   ·obtain ⟨_,j,h1,h2,h3⟩:=hall b0 hb0
    have hbn:b0.drop j ≠ []:=fun e=>by
     rw [e,vV] at h3
     have:=congrArg List.length h3
     simp at this; omega
    rw [xE hbn] at h3
    have hu:=uR (b:=(b0.drop j).take 1024) (qc ((b0.drop j).drop 1024)) (by simp; omega)
    rw [← h3] at hu
    rw [hu]
    refine ⟨rfl,min (j + 1024) b0.length,?_,by omega,?_⟩
    ·simp only
     rw [h1,← List.take_add]
     by_cases hle:j + 1024 ≤ b0.length
     ·rw [Nat.min_eq_left hle]
     ·rw [Nat.min_eq_right (by omega),List.take_of_length_le (by omega),List.take_length]
    ·simp only
     rw [← List.drop_drop,h3,← yj,List.drop_left]
     rw [List.drop_drop]
     by_cases hle:j + 1024 ≤ b0.length
     ·rw [Nat.min_eq_left hle]
     ·rw [Nat.min_eq_right (by omega),List.drop_of_length_le (by omega),List.drop_length]
   ·by_cases hz:(zS (d.drop i)).2.2 = 0
    ·have:=(hG.ok hz).1
     simp only [hz,he0]
     split <;> omega
    ·have:=(hG.no hz).2
     have hz2:¬ (((zS (d.drop i)).2.2:Int) = 0):=by omega
     simp only [he0,this,if_neg hz2]
     simp
  ·simp only [decide_eq_false_iff_not] at hb2
   have hdi:d.drop i = []:=List.drop_of_length_le (by omega)
   refine zf (by simp only [decide_eq_false_iff_not]; omega) ?_
   have hsc:=h.jK
   refine zAh (xs:=b) (by omega) hsc.2.1 h (fun w h=>Bytes.rd h List.mem_cons_self) fun f w h=>?_
   have hpl:(yG b).length ≤ 1000000:=by
    have h2:=zAg _ b rfl
    have h3:=xP 2 b.length (by omega)
    unfold yG
    rw [List.length_append,yj]
    omega
   refine jV (by omega) h (fun w h=>Bytes.rd h List.mem_cons_self) (fun w h=>hr w h.tail.tail) fun w h=>?_
   unfold yD.s3
   refine yV (fun hb3=>?_) (fun hb3=>?_)
   ·simp only [Bool.not_eq_true',decide_eq_false_iff_not] at hb3
    refine hno (fun b0 hb0=>?_) _ h.tail.tail
    have:=hlast b0 hb0 ⟨he0,hdi⟩
    rw [this] at hb3
    exact hb3 hb0
   ·simp only [Bool.not_eq_false',decide_eq_true_eq] at hb3
    exact hok b o _ hb3 h.tail
 ·simp only [decide_eq_false_iff_not] at hb
  unfold yD.s2
  refine zf rfl ?_
  refine qJ (by simp only [decide_eq_true_eq]; omega) ?_
  unfold yD.s3
  refine qJ rfl ?_
  refine hno (fun b0 hb0=>?_) _ h.tail
  have:=(hall b0 hb0).1
  omega
end
end
section
open Go.Proofs Go.Shelf
def zK7:Go.Shelf.Ren:=⟨fun | 6=>104 | 8=>126 | 9=>125 | 19=>141 | 20=>142 | 21=>132 | 22=>133 | 23=>134 | 24=>135 | 25=>136 | 26=>137 | 27=>138 | 28=>139 | 29=>140 | 36=>150 | 31=>151 | 32=>152 | 37=>153 | 38=>154 | 39=>155 | 41=>161 | n=>n,fun | 27=>71 | 29=>9 | 3=>3 | 32=>40 | 26=>71 | 0=>0 | 44=>213 | 46=>33 | 4=>4 | 36=>233 | 35=>232 | 41=>224 | 5=>5 | 9=>9 | 53=>248 | 57=>206 | 63=>257 | 64=>180 | n=>n,fun | n=>n⟩
theorem zH0:Go.Proofs.SlLaysM.n6 Tryz.prog zK7:={
 mixed:=by kernel_rfl
 f6:=⟨Tryz.f104.name,by decide,Tryz.func104.trans (congrArg some (by kernel_rfl))⟩
 f8:=Tryz.func126.trans (congrArg some (by kernel_rfl))
 f9:=⟨Tryz.f125.name,by decide,Tryz.func125.trans (congrArg some (by kernel_rfl))⟩
 f19:=Tryz.func141.trans (congrArg some (by kernel_rfl))
 f20:=Tryz.func142.trans (congrArg some (by kernel_rfl))
 f21:=⟨Tryz.f132.name,by decide,Tryz.func132.trans (congrArg some (by kernel_rfl))⟩
 f22:=⟨Tryz.f133.name,by decide,Tryz.func133.trans (congrArg some (by kernel_rfl))⟩
 f23:=⟨Tryz.f134.name,by decide,Tryz.func134.trans (congrArg some (by kernel_rfl))⟩
 f24:=⟨Tryz.f135.name,by decide,Tryz.func135.trans (congrArg some (by kernel_rfl))⟩
 f25:=⟨Tryz.f136.name,by decide,Tryz.func136.trans (congrArg some (by kernel_rfl))⟩
 f26:=⟨Tryz.f137.name,by decide,Tryz.func137.trans (congrArg some (by kernel_rfl))⟩
 f27:=⟨Tryz.f138.name,by decide,Tryz.func138.trans (congrArg some (by kernel_rfl))⟩
 f28:=⟨Tryz.f139.name,by decide,Tryz.func139.trans (congrArg some (by kernel_rfl))⟩
 f29:=⟨Tryz.f140.name,by decide,Tryz.func140.trans (congrArg some (by kernel_rfl))⟩
 f31:=Tryz.func151.trans (congrArg some (by kernel_rfl))
 f32:=Tryz.func152.trans (congrArg some (by kernel_rfl))
 f36:=⟨Tryz.f150.name,by decide,Tryz.func150.trans (congrArg some (by kernel_rfl))⟩
 f37:=⟨Tryz.f153.name,by decide,Tryz.func153.trans (congrArg some (by kernel_rfl))⟩
 f38:=⟨Tryz.f154.name,by decide,Tryz.func154.trans (congrArg some (by kernel_rfl))⟩
 f39:=⟨Tryz.f155.name,by decide,Tryz.func155.trans (congrArg some (by kernel_rfl))⟩
 f41:=⟨Tryz.f161.name,by decide,Tryz.func161.trans (congrArg some (by kernel_rfl))⟩
 t0:=Tryz.underlying0
 a0:=Tryz.isAgg0
 z0:=Tryz.sizeOf0
 v0:=Tryz.zeroValue0
 t3:=Tryz.underlying3
 a3:=Tryz.isAgg3
 z3:=Tryz.sizeOf3
 v3:=Tryz.zeroValue3
 t4:=Tryz.underlying4
 a4:=Tryz.isAgg4
 z4:=Tryz.sizeOf4
 v4:=Tryz.zeroValue4
 t5:=Tryz.underlying5
 a5:=Tryz.isAgg5
 z5:=Tryz.sizeOf5
 v5:=Tryz.zeroValue5
 t9:=Tryz.underlying9
 a9:=Tryz.isAgg9
 z9:=Tryz.sizeOf9
 v9:=Tryz.zeroValue9
 t26:=Tryz.underlying71
 a26:=Tryz.isAgg71
 z26:=Tryz.sizeOf71
 v26:=Tryz.zeroValue71
 t27:=Tryz.underlying71
 a27:=Tryz.isAgg71
 z27:=Tryz.sizeOf71
 v27:=Tryz.zeroValue71
 t29:=Tryz.underlying9
 a29:=Tryz.isAgg9
 z29:=Tryz.sizeOf9
 v29:=Tryz.zeroValue9
 t32:=Tryz.underlying40
 a32:=Tryz.isAgg40
 z32:=Tryz.sizeOf40
 v32:=Tryz.zeroValue40
 t35:=Tryz.underlying232
 a35:=Tryz.isAgg232
 z35:=Tryz.sizeOf232
 v35:=Tryz.zeroValue232
 t36:=Tryz.underlying233
 a36:=Tryz.isAgg233
 z36:=Tryz.sizeOf233
 v36:=Tryz.zeroValue233
 t41:=Tryz.underlying224
 a41:=Tryz.isAgg224
 z41:=Tryz.sizeOf224
 v41:=Tryz.zeroValue224
 t44:=Tryz.underlying213
 a44:=Tryz.isAgg213
 z44:=Tryz.sizeOf213
 v44:=Tryz.zeroValue213
 t46:=Tryz.underlying33
 a46:=Tryz.isAgg33
 z46:=Tryz.sizeOf33
 v46:=Tryz.zeroValue33
 t53:=Tryz.underlying248
 a53:=Tryz.isAgg248
 z53:=Tryz.sizeOf248
 v53:=Tryz.zeroValue248
 t57:=Tryz.underlying206
 a57:=Tryz.isAgg206
 z57:=Tryz.sizeOf206
 v57:=Tryz.zeroValue206
 t63:=Tryz.underlying257
 a63:=Tryz.isAgg257
 z63:=Tryz.sizeOf257
 v63:=Tryz.zeroValue257
 t64:=Tryz.underlying180
 a64:=Tryz.isAgg180
 z64:=Tryz.sizeOf180
 v64:=Tryz.zeroValue180 }
end
section
open Go Go.Sep
abbrev uT (ss:List (List UInt8)):List (List UInt8):=ss.mergeSort fun x y=>decide (x ≤ y)
section
variable {B w:World} {Γ:List zC}
theorem holds_grow (h:Holds B Γ w) (os:Array Obj):Holds B Γ (Sort.grow w os):=by
 obtain ⟨l⟩:=os
 induction l generalizing w with
 | nil=>simpa [Sort.grow] using h
 | cons o l ih=>
  have h1:=ih (h.alloc o).tail
  have e:Sort.grow { w with heap:=w.heap.push o } ⟨l⟩ = Sort.grow w ⟨o::l⟩:=by
   have e2:w.heap.push o++(⟨l⟩:Array Obj) = w.heap++(⟨o::l⟩:Array Obj):=by
    apply Array.ext'
    rw [Array.toList_append,Array.toList_append,Array.toList_push,List.append_assoc]
    rfl
   unfold Sort.grow
   rw [← e2]
  rw [e] at h1
  exact h1
theorem zCR {s:Sl} {ss:List (List UInt8)} {k:K} (hl:ss.length ≤ 1000000) (h:Holds B (SlC qY 1 s (ss.map xW)::Γ) w) (hk:∀ w,Holds B (SlC qY 1 s ((uT ss).map xW)::Γ) w→k w):qG.call s k w:=by
 have hsc:=h.jK
 have hn:ss.length = s.n:=by have:=hsc.1; simpa using this
 unfold qG.call zX
 cases ha:s.a with
 | none=>
  have hs0:s.n = 0:=by have:=hsc.2.2.2 ha; omega
  have hss:ss = []:=List.length_eq_zero_iff.1 (by omega)
  subst hss
  have h1:=AnyM.slices_Sort_string_none zH0 none s.c w
  have e:[Sl.val s].toArray = #[.slice none 0 s.c]:=by
   show #[Value.slice s.a s.n s.c] = _
   rw [ha,hs0]
  rw [e]
  refine Calls.mono h1 fun e w' he=>?_
  obtain ⟨rfl,rfl⟩:=he
  exact ⟨rfl,hk _ (by simpa [uT] using h)⟩
 | some a=>
  obtain ⟨cs,fz,h,hsp,hf,hsz,hr,hlen,hc⟩:=zMh h ha
  obtain ⟨b,off,sp⟩:=a
  simp only at hsp
  subst hsp
  simp only at h hf hsz hr
  have hb:=h.block
  have hH:Sort.Holds Proofs.encStr w b off ss.toArray:=fun j hj=>by
   simp only [List.size_toArray] at hj
   have h1:=hr j (by simpa using hj)
   constructor
   ·refine qQ hb ?_
    rw [h1,List.getElem?_map,List.getElem?_eq_getElem hj]
    simp [getElem!_pos,hj]
   ·exact uz hb (hf _ (by omega) (by omega))
  have h1:=AnyM.slices_Sort_string zH0 b off s.c ss w hH (Array.getElem?_eq_some_iff.1 hb).1 (by omega)
  have e:[Sl.val s].toArray = #[.slice (some ⟨b,off,none⟩) ss.length s.c]:=by
   show #[Value.slice s.a s.n s.c] = _
   rw [ha,hn]
  rw [e]
  refine Calls.mono h1 fun e w' he=>?_
  obtain ⟨rfl,n,os,rfl⟩:=he
  refine ⟨rfl,hk _ ?_⟩
  have h2:Holds B (blk b (.cells cs qY fz)::Γ) (Sort.ahead w n):=h.drew _
  have h3:=h2.setBlock (o':=.cells (Sort.putCells Proofs.encStr off (uT ss).toArray cs) qY fz) rfl
  have e2:({ (Sort.ahead w n) with heap:=(Sort.ahead w n).heap.setIfInBounds b (.cells (Sort.putCells Proofs.encStr off (uT ss).toArray cs) qY fz) }:World) = Sort.putRow Proofs.encStr (Sort.ahead w n) b off (uT ss).toArray:=by
   have harr:(Sort.ahead w n).heap.setIfInBounds b (.cells (Sort.putCells Proofs.encStr off (uT ss).toArray cs) qY fz) = (Sort.ahead w n).heap.modify b (Sort.onCells (Sort.putCells Proofs.encStr off (uT ss).toArray)):=by
    apply Array.ext_getElem?
    intro i
    rw [Array.getElem?_modify]
    by_cases hi:b = i
    ·subst hi
     rw [if_pos rfl,h2.block,Array.getElem?_setIfInBounds_self_of_lt (Array.getElem?_eq_some_iff.1 h2.block).1]
     rfl
    ·rw [if_neg hi,Array.getElem?_setIfInBounds_ne hi]
   unfold Sort.putRow Sort.mapBlock
   rw [← harr]
  rw [e2] at h3
  have h4:=holds_grow h3 os
  have hsl:(uT ss).length = ss.length:=by simp [uT]
  refine zMi (a:=⟨b,off,none⟩) ha h4 ⟨rfl,hf,?_,fun i hi=>?_,by rw [List.length_map,hsl]; simpa using hlen,hc⟩
  ·have:(Sort.putCells Proofs.encStr off (uT ss).toArray cs).size = cs.size:=by simp [Sort.putCells]
   rw [this]; exact hsz
  ·simp only [List.length_map] at hi
   unfold Sort.putCells
   rw [Array.getElem?_mapIdx]
   have hlt:off + i < cs.size:=by omega
   rw [Array.getElem?_eq_getElem hlt,Option.map_some,if_pos (by simp; omega),List.getElem?_map,List.getElem?_eq_getElem hi,Option.map_some,Nat.add_sub_cancel_left,getElem!_pos (uT ss).toArray i (by simpa using hi)]
   simp
end
end
end Go.Proofs.YtgmbfnboiobeaaaGreat
namespace Go.Sep
section
open Go Go.RowKit Go.MapKept
section
variable {α β:Type} [DecidableEq α] {P:Program} {B w:World} {Γ:List zC} {enc:α→Value} {cV:β→Value}
def zHC (es:Array MapEntry) (seen:Array Nat) (m:List (α×β)):List (α×β):=((es.toList.zip m).filter fun p=>!seen.contains p.1.born).map Prod.snd
structure ItF (enc:α→Value) (cV:β→Value) (es:Array MapEntry) (c:Nat) (seen:Array Nat) (m left:List (α×β)) (cur:Option (α×β)):Prop where
 rel:zBv enc cV es m
 st:stamps es c
 lf:left = zHC es seen m
 cnt:seen.size + left.length = m.length
 cur:∀ p,cur = some p→∃ (seen':Array Nat) (e:MapEntry),seen = seen'.push e.born∧e ∈ es.toList∧e.key = enc p.1∧e.val = cV p.2
def vD (enc:α→Value) (cV:β→Value) (b r:Nat) (m left:List (α×β)) (cur:Option (α×β)):zC:=ex fun es:Array MapEntry=>ex fun c:Nat=>ex fun seen:Array Nat=>
 stars [pur (ItF enc cV es c seen m left cur),blk b (.map es c),blk r (.mapIter (some b) c seen c)]
theorem vD.opens {b r:Nat} {m left:List (α×β)} {cur:Option (α×β)} (h:Holds B (vD enc cV b r m left cur::Γ) w):∃ es c seen,ItF enc cV es c seen m left cur∧Holds B (blk b (.map es c)::blk r (.mapIter (some b) c seen c)::Γ) w:=by
 obtain ⟨es,h⟩:=Holds.ex.1 h
 obtain ⟨c,h⟩:=Holds.ex.1 h
 obtain ⟨seen,h⟩:=Holds.ex.1 h
 obtain ⟨hp,h⟩:=Holds.pur.1 (Holds.flat.1 h)
 exact ⟨es,c,seen,hp,h⟩
theorem vD.shuts {b r:Nat} {m left:List (α×β)} {cur:Option (α×β)} {es:Array MapEntry} {c:Nat} {seen:Array Nat} (hp:ItF enc cV es c seen m left cur) (h:Holds B (blk b (.map es c)::blk r (.mapIter (some b) c seen c)::Γ) w):Holds B (vD enc cV b r m left cur::Γ) w :=
 Holds.ex.2 ⟨es,Holds.ex.2 ⟨c,Holds.ex.2 ⟨seen,Holds.flat.2 (Holds.pur.2 ⟨hp,h⟩)⟩⟩⟩
theorem vD.ends {b r:Nat} {m left:List (α×β)} {cur:Option (α×β)} (h:Holds B (vD enc cV b r m left cur::Γ) w):Holds B (qH enc cV b m::Γ) w:=by
 obtain ⟨es,c,seen,hp,h⟩:=vD.opens h
 exact qH.shuts ⟨hp.rel,hp.st⟩ (h.del 1 rfl)
theorem zGV {es:Array MapEntry} {m:List (α×β)} (h:zBv enc cV es m):es.toList.length = m.length:=by have:=congrArg List.length h; simpa using this
theorem zJs {es:Array MapEntry} {m:List (α×β)} (h:zBv enc cV es m):∀ p ∈ es.toList.zip m,p.1.key = enc p.2.1∧p.1.val = cV p.2.2:=by
 intro p hp
 obtain ⟨i,hi⟩:=List.getElem?_of_mem hp
 rw [List.getElem?_zip_eq_some] at hi
 have:=zDH h i
 rw [hi.1,hi.2] at this
 simp only [Option.map_some,Option.some.injEq,Prod.mk.injEq] at this
 exact this
theorem zH1 {T E:TypeId} {d:TypeDesc} {b:Nat} {m:List (α×β)} {k:Option Addr→K} (hT:zAL P T d E) (h:Holds B (qH enc cV b m::Γ) w) (hk:∀ r w,Holds B (vD enc cV b r m m none::Γ) w→k (some ⟨r,0,none⟩) w) :
  Do P (Instr.range T (.map (some b))) Value.pointer k w:=by
 obtain ⟨kt,hT,hd⟩:=hT
 obtain ⟨es,c,⟨hr,hst⟩,h⟩:=qH.opens h
 have hb:=h.block
 refine ⟨some ⟨w.heap.size,0,none⟩,{ w with heap:=w.heap.push (.mapIter (some b) c #[] c) },?_,hk _ _ (vD.shuts (seen:=#[]) ⟨hr,hst,?_,by simp,fun p hp=>by cases hp⟩ (h.alloc _).swap)⟩
 ·unfold Instr.range
  simp only [Sem.run_bind,run_underlying hT,Result.andThen,MapKept.run_getObj_map hb,Sem.run_pure]
  rfl
 ·unfold zHC
  have e:(es.toList.zip m).filter (fun p=>!(#[]:Array Nat).contains p.1.born) = es.toList.zip m:=List.filter_eq_self.2 (fun p _=>by simp)
  rw [e,List.map_snd_zip (by rw [zGV hr]; exact Nat.le_refl _)]
theorem zCS {es:List MapEntry} {m:List (α×β)} (seen:Array Nat) (hn:(es.map (·.born)).Nodup) (hl:es.length = m.length) {e:MapEntry} (he:e ∈ es.filter (fun e=>!seen.contains e.born)) :
  ∃ l1 p l2,(e,p) ∈ es.zip m∧((es.zip m).filter fun p=>!seen.contains p.1.born).map Prod.snd = l1++p::l2∧((es.zip m).filter fun p=>!(seen.push e.born).contains p.1.born).map Prod.snd = l1++l2:=by
 induction es generalizing m with
 | nil=>simp at he
 | cons x es ih=>
  cases m with
  | nil=>simp at hl
  | cons q m=>
   simp only [List.map_cons,List.nodup_cons] at hn
   simp only [List.zip_cons_cons]
   by_cases hx:x = e
   ·subst hx
    have hxs:(!seen.contains x.born) = true:=(List.mem_filter.1 he).2
    refine ⟨[],q,((es.zip m).filter fun p=>!seen.contains p.1.born).map Prod.snd,List.mem_cons_self,?_,?_⟩
    ·simp only [List.filter_cons]; rw [if_pos hxs]; rfl
    ·simp only [List.filter_cons]
     rw [if_neg (by simp)]
     simp only [List.nil_append]
     congr 1
     refine List.filter_congr fun p hp=>?_
     have hpe:p.1.born ≠ x.born:=fun heq=>hn.1 (by rw [← heq]; exact List.mem_map_of_mem (List.of_mem_zip hp).1)
     simp [Array.contains_push,hpe]
   ·have he2:e ∈ es.filter (fun e=>!seen.contains e.born):=by
     have h1:=List.mem_filter.1 he
     rcases List.mem_cons.1 h1.1 with h2 | h2
     ·exact absurd h2.symm hx
     ·exact List.mem_filter.2 ⟨h2,h1.2⟩
    obtain ⟨l1,p,l2,h1,h2,h3⟩:=ih hn.2 (by simpa using hl) he2
    have hxb:x.born ≠ e.born:=fun heq=>hn.1 (by rw [heq]; exact List.mem_map_of_mem (List.mem_filter.1 he2).1)
    by_cases hs:(!seen.contains x.born) = true
    ·refine ⟨q::l1,p,l2,List.mem_cons_of_mem _ h1,?_,?_⟩
     ·simp only [List.filter_cons]
      rw [if_pos hs,List.map_cons,h2]; rfl
     ·simp only [List.filter_cons]
      rw [if_pos (by simp [Array.contains_push,hxb] at hs ⊢; exact hs),List.map_cons,h3]; rfl
    ·refine ⟨l1,p,l2,List.mem_cons_of_mem _ h1,?_,?_⟩
     ·simp only [List.filter_cons]
      rw [if_neg hs,h2]
     ·simp only [List.filter_cons]
      rw [if_neg (by simp [Array.contains_push,hxb] at hs ⊢; exact hs),h3]
theorem zJt {b r:Nat} {m left:List (α×β)} {cur:Option (α×β)} {k:Value→K} (h:Holds B (vD enc cV b r m left cur::Γ) w)
  (h0:left = []→∀ w,Holds B (qH enc cV b m::Γ) w→k (.tuple #[.bool false]) w)
  (h1:∀ l1 p l2 w,left = l1++p::l2→p ∈ m→Holds B (vD enc cV b r m (l1++l2) (some p)::Γ) w→k (.tuple #[.bool true,enc p.1,cV p.2]) w) :
  Do P (Instr.next (.pointer (some ⟨r,0,none⟩)) false 0) id k w:=by
 have hend:=vD.ends h
 obtain ⟨es,c,seen,hp,h⟩:=vD.opens h
 have hb:=h.block
 have hr:=h.tail.block
 rcases run_next_at (P:=P) w 0 r b c c seen es c hr hb hp.st.2 (Nat.le_refl _) with ⟨hz,hrun⟩ | ⟨e,he,w1,hw1,hrun⟩
 ·refine ⟨_,w,hrun,h0 ?_ w hend⟩
  rw [hp.lf]
  unfold zHC
  have hnone:es.toList.filter (fun e=>!seen.contains e.born) = []:=by
   have:(leftOf es seen).toList.length = 0:=by simpa using hz
   unfold leftOf at this
   rw [Array.toList_filter] at this
   exact List.length_eq_zero_iff.1 this
  have:(es.toList.zip m).filter (fun p=>!seen.contains p.1.born) = []:=by
   rw [List.filter_eq_nil_iff] at hnone ⊢
   intro p hpz
   exact hnone p.1 (List.of_mem_zip hpz).1
  rw [this]; rfl
 ·have he2:e ∈ es.toList.filter (fun e=>!seen.contains e.born):=by
   unfold leftOf at he
   rw [Array.toList_filter] at he
   exact he
  obtain ⟨l1,p,l2,hz,hl,hl2⟩:=zCS seen hp.st.1 (zGV hp.rel) he2
  have hkv:=zJs hp.rel _ hz
  simp only at hkv
  refine ⟨_,_,hrun,?_⟩
  show k (.tuple #[.bool true,e.key,e.val]) _
  rw [hkv.1,hkv.2]
  have hw:∃ w',w1 = w'∧Holds B (blk b (.map es c)::blk r (.mapIter (some b) c seen c)::Γ) w':=by
   rcases hw1 with rfl | rfl
   ·exact ⟨_,rfl,h⟩
   ·exact ⟨_,rfl,h.drew _⟩
  obtain ⟨w',rfl,h⟩:=hw
  refine h1 l1 p l2 _ (by rw [hp.lf]; exact hl) (List.of_mem_zip hz).2 (vD.shuts (es:=es) (c:=c) (seen:=seen.push e.born) ⟨hp.rel,hp.st,hl2.symm,?_,fun q hq=>?_⟩ ?_)
  ·have h3:=hp.cnt
   have h4:left = l1++p::l2:=by rw [hp.lf]; exact hl
   rw [h4] at h3
   simp only [List.length_append,List.length_cons,Array.size_push] at h3 ⊢
   omega
  ·cases hq
   exact ⟨seen,e,rfl,(List.of_mem_zip hz).1,hkv.1,hkv.2⟩
  ·exact (h.swap.setBlock (o':=.mapIter (some b) c (seen.push e.born) c) rfl).swap
def zDJ (r n:Nat) (w:World):Nat:=match w.heap[r]? with
 | some (.mapIter _ _ seen _)=>n - seen.size
 | _=>0
theorem zBy {b r:Nat} {m left:List (α×β)} {cur:Option (α×β)} (h:Holds B (vD enc cV b r m left cur::Γ) w):zDJ r m.length w = left.length:=by
 obtain ⟨es,c,seen,hp,h⟩:=vD.opens h
 have:=hp.cnt
 unfold zDJ
 rw [h.tail.block]
 simp only
 omega
theorem zH2 {b r:Nat} {m left:List (α×β)} {p:α×β} {k:Value→K} (h:Holds B (vD enc cV b r m left (some p)::Γ) w) (hk:k (.tuple #[enc p.1,cV p.2]) w) :
  Do P (Instr.entry (.pointer (some ⟨r,0,none⟩))) id k w:=by
 obtain ⟨es,c,seen,hp,h⟩:=vD.opens h
 obtain ⟨seen',e,hs,he,hk1,hk2⟩:=hp.cur p rfl
 subst hs
 refine ⟨_,w,run_entry_at (P:=P) w r b c seen' es c e h.tail.block h.block he hp.st.1,?_⟩
 show k (.tuple #[e.key,e.val]) w
 rw [hk1,hk2]
 exact hk
theorem zEj {zv:Value} {T E:TypeId} {d:TypeDesc} {b:Nat} {m:List (α×β)} {a:α} (hT:zAL P T d E) (hE:zC4 d enc) (hz:uE P E zv) {es:Array MapEntry} {c:Nat} (hb:w.heap[b]? = some (.map es c)) (hr:zBv enc cV es m) (ok:Bool) :
  (Instr.lookup T (.map (some b)) (enc a) ok).run P w = .ok (if ok then .tuple #[((za a m).map cV).getD zv,.bool (za a m).isSome] else ((za a m).map cV).getD zv) w:=by
 obtain ⟨kt,hT,hd⟩:=hT
 unfold Instr.lookup
 simp only [Sem.run_bind,run_underlying hT,Result.andThen,MapKept.run_getObj_map hb,run_checkKey hd (hE.key a),Sem.run_pure]
 rcases zFb hE hr a with ⟨h1,h2,_⟩ | ⟨j,x,h1,_,_,h2,_⟩
 ·simp only [run_findKey hd h1,Result.andThen,Sem.run_bind,uG hz,Sem.run_pure,h2]
  cases ok <;> rfl
 ·simp only [run_findKey hd h1,Result.andThen,Sem.run_bind,Sem.run_pure,h2]
  cases ok <;> rfl
end
end
end Go.Sep
namespace Go.Proofs.YtgmbfnboiobeaaaGreat
section
open Go Go.Sep
theorem jN:zC4 .string xW:=⟨fun _=>trivial,fun a b h=>by
 have h1:bs a = bs b:=by injection h
 have h2:=congrArg (fun x:ByteArray=>x.data.toList) h1
 simpa using h2,fun a=>zGO.bits (bs a)⟩
theorem zHD {l l':List (List UInt8)} (h:l.Perm l'):uT l = uT l':=by
 have tr:∀ a b c:List UInt8,decide (a ≤ b) = true→decide (b ≤ c) = true→decide (a ≤ c) = true:=fun a b c h1 h2=>by
  simp only [decide_eq_true_eq] at *
  exact List.le_trans h1 h2
 have tot:∀ a b:List UInt8,(decide (a ≤ b) || decide (b ≤ a)) = true:=fun a b=>by
  simp only [Bool.or_eq_true,decide_eq_true_eq]
  exact List.le_total a b
 refine List.Perm.eq_of_pairwise (le:=fun a b=>decide (a ≤ b) = true) (fun a b _ _ h1 h2=>?_) (List.pairwise_mergeSort tr tot l) (List.pairwise_mergeSort tr tot l') ?_
 ·simp only [decide_eq_true_eq] at h1 h2
  exact List.le_antisymm h1 h2
 ·exact ((List.mergeSort_perm l _).trans h).trans (List.mergeSort_perm l' _).symm
theorem zIT (l:List (List UInt8)):(uT l).length = l.length:=(List.mergeSort_perm l _).length_eq
theorem zIU {l:List (List UInt8)} {x:List UInt8}:x ∈ uT l ↔ x ∈ l:=(List.mergeSort_perm l _).mem_iff
abbrev SlS (s:Sl) (ss:List (List UInt8)):zC:=SlC qY 1 s (ss.map xW)
end
section
open Go Go.Sep
theorem zEG:zAL Tryz.prog qO .string xq:=⟨9,by kernel_rfl,by kernel_rfl⟩
section
variable {B w:World} {Γ:List zC} {β:Type} {cV:β→Value}
theorem zA2 {mb t1:Nat} {m:List (List UInt8×β)} {k:Sl→K} (hm:m.length ≤ 1000000) (h:Holds B (blk t1 (.cells #[.map (some mb)] qO (0,0))::qH xW cV mb m::Γ) w)
  (hk:∀ s ss w,ss.Perm (m.map Prod.fst)→Holds B (SlS s ss::qH xW cV mb m::Γ) w→k s w):y9.call (.func (.func 105) #[] #[.pointer (some ⟨t1,0,none⟩)]) k w:=by
 refine jd _ _ _ ?_
 unfold y9
 refine vN _ _ _ _ ?_
 unfold yL
 refine vR h ?_
 clear h
 intro s2 w h
 try simp only [yC,Nat.zero_add,Nat.reduceAdd]
 refine zFu h rfl (by kernel_rfl) fun D l r w hr1 hr2 h hy=>?_
 refine zDT (qj (yv l) ⟨t1,0,none⟩ (fun w3=>∃ Δ,Holds B (blk l (.loop r)::Δ) w3∧∀ w,Holds B Δ w→(Ld ⟨s2,0,none⟩ Sl.val fun t12=>vL D (k t12)) w) w ?_) fun v w h=>h.2
 unfold zL
 refine xL (x:=(some mb)) h rfl (by first | with_reducible exact M0 | with_reducible exact M1 | with_reducible exact M2 | with_reducible exact M3 | with_reducible exact M4 | with_reducible exact M5 | with_reducible exact M6 | with_reducible exact M7 | with_reducible exact M8 | with_reducible exact M9 | with_reducible exact M10 | with_reducible exact M11 | with_reducible exact M12) ?_ ?_
 ·exact rfl
 replace h:=P3 h
 replace h:=P3 h
 replace h:=P3 h
 replace h:=P3 h
 replace h:=P4 h
 try simp only [N1,N2,N3,N4,N5,N6,N7] at h
 refine zH1 zEG h fun r2 w h=>?_
 replace h:=h.del 4 at4
 try simp only [N1,N2,N3,N4,N5,N6,N7] at h
 have h0:=(h.jo qY 1)
 refine yR.of (fun _ w=>∃ (o:Sl) (ss:List (List UInt8)) (left:List (List UInt8×β)) (cur:Option (List UInt8×β)),(ss++left.map Prod.fst).Perm (m.map Prod.fst) ∧
   Holds B (blk l (.loop r)::blk D (.deferred (some []))::blk s2 (.cells #[o.val] zCj (0,0))::SlS o ss::vD xW cV mb r2 m left cur::Γ) w)
  (fun _ w=>zDJ r2 m.length w) ⟨⟨none,0,0⟩,[],m,none,List.Perm.refl _,?_⟩ ?_
 ·replace h:=h0
  replace h:=P1 h
  replace h:=P1 h
  replace h:=P4 h
  replace h:=P4 h
  replace h:=P4 h
  try simp only [N1,N2,N3,N4,N5,N6,N7] at h
  exact h
 clear h h0
 rintro _ w ⟨o,ss,left,cur,hperm,h⟩
 have hcnt:=zBy (h.pick 4 at4)
 have hlen:=hperm.length_eq
 simp only [List.length_append,List.length_map] at hlen
 unfold zL.b1
 replace h:=P3 h
 replace h:=P3 h
 replace h:=P3 h
 replace h:=P3 h
 replace h:=P4 h
 try simp only [N1,N2,N3,N4,N5,N6,N7] at h
 refine zJt h (fun hl0 w h=>?_) (fun l1 p l2 w hl1 hpm h=>?_)
 ·refine ⟨_,false,rfl,rfl,?_⟩
  refine zf rfl ?_
  replace h:=P4 h
  replace h:=P4 h
  replace h:=P4 h
  replace h:=P4 h
  try simp only [N1,N2,N3,N4,N5,N6,N7] at h
  refine ⟨_,h,fun w h=>?_⟩
  refine xL (x:=o) h rfl (by first | with_reducible exact M0 | with_reducible exact M1 | with_reducible exact M2 | with_reducible exact M3 | with_reducible exact M4 | with_reducible exact M5 | with_reducible exact M6 | with_reducible exact M7 | with_reducible exact M8 | with_reducible exact M9 | with_reducible exact M10 | with_reducible exact M11 | with_reducible exact M12) ?_ ?_
  ·exact rfl
  refine zE6 h fun w h=>?_
  replace h:=P2 h
  replace h:=P2 h
  replace h:=D2 h
  try simp only [N1,N2,N3,N4,N5,N6,N7] at h
  rw [hl0] at hperm
  simp only [List.map_nil,List.append_nil] at hperm
  exact hk o ss _ hperm h
 ·refine ⟨_,true,rfl,rfl,?_⟩
  refine qJ rfl ?_
  refine zH2 h ?_
  refine ⟨_,bs p.1,rfl,rfl,?_⟩
  replace h:=P4 h
  replace h:=P4 h
  replace h:=P4 h
  replace h:=P4 h
  try simp only [N1,N2,N3,N4,N5,N6,N7] at h
  refine zDU (hy (bs p.1) (fun w=>∃ o',Holds B (blk l (.loop r)::blk D (.deferred (some []))::blk s2 (.cells #[Sl.val o'] zCj (0,0))::SlS o' (ss++[p.1])::vD xW cV mb r2 m (l1++l2) (some p)::Γ) w) w _ h fun W h=>?_) fun v w hv=>?_
  ·have hon:ss.length = o.n:=by have:=(h.pick 3 at3).jK.1; simpa using this
   refine xL (x:=o) h rfl (by first | with_reducible exact M0 | with_reducible exact M1 | with_reducible exact M2 | with_reducible exact M3 | with_reducible exact M4 | with_reducible exact M5 | with_reducible exact M6 | with_reducible exact M7 | with_reducible exact M8 | with_reducible exact M9 | with_reducible exact M10 | with_reducible exact M11 | with_reducible exact M12) ?_ ?_
   ·exact rfl
   refine vR h ?_
   clear h
   intro t10 w h
   try simp only [yC,Nat.zero_add,Nat.reduceAdd]
   refine zBn (us:=[xW p.1]) (h.pick 4 at4) (by kernel_rfl) (by kernel_rfl) (by':=16) (by kernel_rfl) zDc rfl (RdC.zG5 (E:=qY) (b:=t10) (n:=1) (vs:=[xW p.1]) (cs:=#[xW p.1]) h List.mem_cons_self rfl rfl 1) (by simp [qV]) (by simp only; omega) (by decide) fun o' w h _ _=>?_
   try simp only [N1,N2,N3,N4,N5,N6,N7] at h
   first | refine S0 h rfl ?_ rfl ?_ | refine S1 h rfl ?_ rfl ?_ | refine S2 h rfl ?_ rfl ?_ | refine S3 h rfl ?_ rfl ?_ | refine S4 h rfl ?_ rfl ?_ | refine S5 h rfl ?_ rfl ?_ | refine S6 h rfl ?_ rfl ?_ | refine S7 h rfl ?_ rfl ?_ | refine S8 h rfl ?_ rfl ?_
   ·first | exact Nat.lt_of_ble_eq_true rfl | (simp; done) | (simp; omega)
   clear h
   intro w h
   try simp only [N1,N2,N3,N4,N5,N6,N7] at h
   replace h:=P5 h
   replace h:=P1 h
   replace h:=P5 h
   replace h:=P5 h
   replace h:=P5 h
   replace h:=D5 h
   try simp only [N1,N2,N3,N4,N5,N6,N7] at h
   refine zIy h fun w h=>?_
   have e:({ ({ r with state:=.busy }:Loop) with state:=.ready,pending:=none }:Loop) = r:=by
    cases r
    simp only at hr1 hr2
    simp only [hr1,hr2]
   rw [e] at h
   refine ⟨o',?_⟩
   have e2:ss.map xW++[xW p.1] = (ss++[p.1]).map xW:=by simp
   rw [e2] at h
   exact h
  ·obtain ⟨rfl,o',h⟩:=hv
   refine ⟨true,rfl,?_⟩
   refine zf rfl ?_
   have hcnt2:=zBy (h.pick 4 at4)
   refine ⟨⟨o',_,_,_,?_,h⟩,?_⟩
   ·refine List.Perm.trans ?_ hperm
    rw [hl1]
    simp only [List.map_append,List.map_cons,List.append_assoc]
    refine List.Perm.append_left _ ?_
    show (p.1::(l1.map Prod.fst++l2.map Prod.fst)).Perm _
    exact List.perm_middle.symm
   ·rw [hcnt,hcnt2,hl1]
    simp
theorem zCT {mb:Nat} {m:List (List UInt8×β)} {k:Sl→K} (hm:m.length ≤ 1000000) (h:Holds B (qH xW cV mb m::Γ) w)
  (hk:∀ s w,Holds B (SlS s (uT (m.map Prod.fst))::qH xW cV mb m::Γ) w→k s w) :
  zV.call (some mb) (fun t7=>qE.call t7 k) w:=by
 refine qp _ _ _ ?_
 unfold zV
 refine vR h ?_
 clear h
 intro m1 w h
 try simp only [yC,Nat.zero_add,Nat.reduceAdd]
 refine jr _ _ _ ?_
 unfold qE
 refine zA2 hm h fun s ss w hp h=>?_
 have hl:=hp.length_eq
 rw [List.length_map] at hl
 refine zCR (by omega) h fun w h=>?_
 rw [zHD hp] at h
 exact hk _ _ h
end
end
section
open Go Go.Sep
structure qP where
 data:List UInt8
 last:Nat
structure DkA where
 room:Int
 left:Int
 down:Bool
structure zI where
 a:DkA
 files:List (List UInt8×qP)
structure yE where
 f:qP
 p:Nat
 s:Sl
abbrev fV (x:yE):Value:=.pointer (some ⟨x.p,0,none⟩)
abbrev fA (f:qP) (s:Sl):Array Value:=#[s.val,.int .i64 (f.last:Int)]
def fB (x:List UInt8×yE):zC:=stars [blk x.2.p (.cells (fA x.2.f x.2.s) vF (0,0)),Bytes zP x.2.s x.2.f.data]
abbrev dA (a:DkA) (mb:Nat):Array Value:=#[.int .i64 a.room,.map (some mb),.int .i64 a.left,.bool a.down]
abbrev xU (fs:List (List UInt8×yE)):List (List UInt8×qP):=fs.map fun p=>(p.1,p.2.f)
def yH (d mb:Nat) (a:DkA) (fs:List (List UInt8×yE)):zC:=stars [blk d (.cells (dA a mb) xS (0,0)),qH xW fV mb fs,stars (fs.map fB)]
def zK (d:Nat) (D:zI):zC:=ex fun mb:Nat=>ex fun fs:List (List UInt8×yE)=>stars [pur (xU fs = D.files),yH d mb D.a fs]
section
variable {B w:World} {Γ:List zC}
theorem zK.opens {d:Nat} {D:zI} (h:Holds B (zK d D::Γ) w):∃ mb fs,xU fs = D.files∧Holds B (yH d mb D.a fs::Γ) w:=by
 obtain ⟨mb,h⟩:=Holds.ex.1 h
 obtain ⟨fs,h⟩:=Holds.ex.1 h
 obtain ⟨hp,h⟩:=Holds.pur.1 (Holds.flat.1 h)
 exact ⟨mb,fs,hp,h⟩
theorem zK.shuts {d mb:Nat} {D:zI} {a:DkA} {fs:List (List UInt8×yE)} (ha:a = D.a) (hp:xU fs = D.files) (h:Holds B (yH d mb a fs::Γ) w):Holds B (zK d D::Γ) w:=by
 subst ha
 exact Holds.ex.2 ⟨mb,Holds.ex.2 ⟨fs,Holds.flat.2 (Holds.pur.2 ⟨hp,h⟩)⟩⟩
theorem yH.opens {d mb:Nat} {a:DkA} {fs:List (List UInt8×yE)} (h:Holds B (yH d mb a fs::Γ) w):Holds B (blk d (.cells (dA a mb) xS (0,0))::qH xW fV mb fs::stars (fs.map fB)::Γ) w:=Holds.flat.1 h
theorem yH.shuts {d mb:Nat} {a:DkA} {fs:List (List UInt8×yE)} (h:Holds B (blk d (.cells (dA a mb) xS (0,0))::qH xW fV mb fs::stars (fs.map fB)::Γ) w):Holds B (yH d mb a fs::Γ) w:=Holds.flat.2 h
theorem yU {α β:Type} [DecidableEq α] {k:α} {x:β}:∀ {m:List (α×β)},za k m = some x→∃ l1 l2,m = l1++(k,x)::l2∧(∀ v,yQ k v m = l1++(k,v)::l2)∧xJ k m = l1++l2∧∀ p ∈ l1,p.1 ≠ k
 | [],h=>by cases h
 | p::m,h=>by
  by_cases hk:k = p.1
  ·simp only [za,if_pos hk,Option.some.injEq] at h
   subst h
   refine ⟨[],m,by rw [hk]; rfl,fun v=>by simp [yQ,hk],by simp [xJ,hk],by simp⟩
  ·simp only [za,if_neg hk] at h
   obtain ⟨l1,l2,h1,h2,h3,h4⟩:=yU h
   refine ⟨p::l1,l2,by rw [h1]; rfl,fun v=>by simp [yQ,hk,h2],by simp [xJ,hk,h3],fun q hq=>?_⟩
   rcases List.mem_cons.1 hq with rfl | hq
   ·exact fun e=>hk e.symm
   ·exact h4 q hq
theorem zHE {mb:Nat} {fs fs':List (List UInt8×yE)} (he:fs.map (fun p=>(xW p.1,fV p.2)) = fs'.map fun p=>(xW p.1,fV p.2)) (h:Holds B (qH xW fV mb fs::Γ) w):Holds B (qH xW fV mb fs'::Γ) w:=by
 obtain ⟨es,c,⟨hr,hst⟩,h⟩:=qH.opens h
 exact qH.shuts ⟨hr.trans he,hst⟩ h
theorem jv {L M:List zC}:Holds B (stars (L++M)::Γ) w ↔ Holds B (stars L::stars M::Γ) w:=by
 constructor
 ·intro h
  have h1:Holds B ((L++M)++Γ) w:=Holds.flat.1 h
  rw [List.append_assoc] at h1
  have h2:Holds B (M++(L++Γ)) w:=h1.perm (by rw [← List.append_assoc,← List.append_assoc]; exact List.perm_append_comm.append_right Γ)
  have h3:Holds B (stars M::(L++Γ)) w:=Holds.flat.2 h2
  have h4:Holds B (L++(stars M::Γ)) w:=h3.perm List.perm_middle.symm
  exact Holds.flat.2 h4
 ·intro h
  have h1:Holds B (L++(stars M::Γ)) w:=Holds.flat.1 h
  have h2:Holds B (stars M::(L++Γ)) w:=h1.perm List.perm_middle
  have h3:Holds B (M++(L++Γ)) w:=Holds.flat.1 h2
  refine Holds.flat.2 (h3.perm ?_)
  rw [← List.append_assoc]
  exact List.perm_append_comm.append_right Γ
theorem zBK {A:zC} {L:List zC}:Holds B (stars (A::L)::Γ) w ↔ Holds B (A::stars L::Γ) w:=by
 constructor
 ·intro h
  have h1:Holds B (A::(L++Γ)) w:=Holds.flat.1 h
  have h2:Holds B (L++(A::Γ)) w:=h1.perm List.perm_middle.symm
  exact (Holds.flat.2 h2:Holds B (stars L::A::Γ) w).swap
 ·intro h
  have h1:Holds B (L++(A::Γ)) w:=Holds.flat.1 h.swap
  have h2:Holds B (A::(L++Γ)) w:=h1.perm List.perm_middle
  exact Holds.flat.2 h2
theorem jO {l1 l2:List (List UInt8×yE)} {n:List UInt8} {x:yE} (h:Holds B (stars ((l1++(n,x)::l2).map fB)::Γ) w) :
  Holds B (blk x.p (.cells (fA x.f x.s) vF (0,0))::Bytes zP x.s x.f.data::stars (l1.map fB)::stars (l2.map fB)::Γ) w:=by
 rw [List.map_append,List.map_cons] at h
 have h1:=(jv.1 h).swap
 have h2:Holds B (fB (n,x)::stars (l2.map fB)::stars (l1.map fB)::Γ) w:=zBK.1 h1
 have h3:=Holds.flat.1 h2
 simp only [List.cons_append,List.nil_append] at h3
 have h:=h3
 replace h:=P2 h
 replace h:=P3 h
 replace h:=P3 h
 replace h:=P3 h
 try simp only [N1,N2,N3,N4,N5,N6,N7] at h
 exact h
theorem zEk {l1 l2:List (List UInt8×yE)} {n:List UInt8} {x:yE} (h:Holds B (blk x.p (.cells (fA x.f x.s) vF (0,0))::Bytes zP x.s x.f.data::stars (l1.map fB)::stars (l2.map fB)::Γ) w) :
  Holds B (stars ((l1++(n,x)::l2).map fB)::Γ) w:=by
 replace h:=P2 h
 replace h:=P3 h
 replace h:=P3 h
 replace h:=P3 h
 try simp only [N1,N2,N3,N4,N5,N6,N7] at h
 have h1:Holds B (fB (n,x)::stars (l2.map fB)::stars (l1.map fB)::Γ) w:=Holds.flat.2 h
 have h2:Holds B (stars (fB (n,x)::l2.map fB)::stars (l1.map fB)::Γ) w:=zBK.2 h1
 rw [List.map_append,List.map_cons]
 exact jv.2 h2.swap
theorem zEl:uE Tryz.prog xq (.pointer none):=zAx
abbrev zIV (o:Option yE):Option Addr:=o.map fun x=>⟨x.p,0,none⟩
theorem zGW (o:Option yE):(o.map fV).getD (.pointer none) = Value.pointer (zIV o):=by cases o <;> rfl
theorem zH3 {mb:Nat} {fs:List (List UInt8×yE)} {n:List UInt8} {k:Option Addr→Bool→K} (i:Nat) (h:Holds B Γ w) (hi:Γ[i]? = some (qH xW fV mb fs)) (hk:k (zIV (za n fs)) (za n fs).isSome w) :
  Rd2 Tryz.prog (Instr.lookup qO (.map (some mb)) (.string (bs n)) true) (fun x y=>.tuple #[Value.pointer x,.bool y]) k w:=by
 obtain ⟨es,c,⟨hr,hst⟩,h⟩:=qH.opens (h.pick i hi)
 have:=zEj (a:=n) zEG jN zEl h.block hr true
 exact ⟨zIV (za n fs),_,by rw [zGW] at this; exact this,hk⟩
theorem zK8 {mb:Nat} {fs:List (List UInt8×yE)} {n:List UInt8} {k:Option Addr→K} (i:Nat) (h:Holds B Γ w) (hi:Γ[i]? = some (qH xW fV mb fs)) (hk:k (zIV (za n fs)) w) :
  Rd Tryz.prog (Instr.lookup qO (.map (some mb)) (.string (bs n)) false) Value.pointer k w:=by
 obtain ⟨es,c,⟨hr,hst⟩,h⟩:=qH.opens (h.pick i hi)
 have:=zEj (a:=n) zEG jN zEl h.block hr false
 exact ⟨zIV (za n fs),by rw [zGW] at this; exact this,hk⟩
theorem zBL {n:List UInt8} {fs:List (List UInt8×yE)}:za n (xU fs) = (za n fs).map yE.f:=zGQ (fun x:yE=>x.f) n fs
def chg (a:DkA):DkA×Int:=if a.left = 0 then ({ a with down:=true },3) else if 0 < a.left then ({ a with left:=a.left - 1 },0) else (a,0)
def okA (a:DkA):Prop:=-9223372036854775808 < a.left∧a.left ≤ 9223372036854775807
theorem uU {d mb:Nat} {a:DkA} {fs:List (List UInt8×yE)} {k:Int→K} (ha:okA a) (h:Holds B (yH d mb a fs::Γ) w) (hk:∀ w,Holds B (yH d mb (chg a).1 fs::Γ) w→k (chg a).2 w):zu.call (some ⟨d,0,none⟩) k w:=by
 replace h:=yH.opens h
 obtain ⟨ha1,ha2⟩:=ha
 unfold chg at hk
 refine zA1 _ _ _ ?_
 unfold zu
 refine uV rfl ?_
 try simp only [yC,Nat.zero_add,Nat.reduceAdd]
 refine xL (x:=a.left) h rfl (by first | with_reducible exact M0 | with_reducible exact M1 | with_reducible exact M2 | with_reducible exact M3 | with_reducible exact M4 | with_reducible exact M5 | with_reducible exact M6 | with_reducible exact M7 | with_reducible exact M8 | with_reducible exact M9 | with_reducible exact M10 | with_reducible exact M11 | with_reducible exact M12) ?_ ?_
 ·exact rfl
 refine yV (fun hb=>?_) (fun hb=>?_)
 ·simp only [decide_eq_true_eq] at hb
  rw [if_pos hb] at hk
  first | refine S0 h rfl ?_ rfl ?_ | refine S1 h rfl ?_ rfl ?_ | refine S2 h rfl ?_ rfl ?_ | refine S3 h rfl ?_ rfl ?_ | refine S4 h rfl ?_ rfl ?_ | refine S5 h rfl ?_ rfl ?_ | refine S6 h rfl ?_ rfl ?_ | refine S7 h rfl ?_ rfl ?_ | refine S8 h rfl ?_ rfl ?_
  ·first | exact Nat.lt_of_ble_eq_true rfl | (simp; done) | (simp; omega)
  clear h
  intro w h
  try simp only [N1,N2,N3,N4,N5,N6,N7] at h
  exact hk _ (yH.shuts h)
 simp only [decide_eq_false_iff_not] at hb
 rw [if_neg hb] at hk
 refine xL (x:=a.left) h rfl (by first | with_reducible exact M0 | with_reducible exact M1 | with_reducible exact M2 | with_reducible exact M3 | with_reducible exact M4 | with_reducible exact M5 | with_reducible exact M6 | with_reducible exact M7 | with_reducible exact M8 | with_reducible exact M9 | with_reducible exact M10 | with_reducible exact M11 | with_reducible exact M12) ?_ ?_
 ·exact rfl
 refine yV (fun hb2=>?_) (fun hb2=>?_)
 ·simp only [decide_eq_true_eq] at hb2
  rw [if_pos hb2] at hk
  refine xL (x:=a.left) h rfl (by first | with_reducible exact M0 | with_reducible exact M1 | with_reducible exact M2 | with_reducible exact M3 | with_reducible exact M4 | with_reducible exact M5 | with_reducible exact M6 | with_reducible exact M7 | with_reducible exact M8 | with_reducible exact M9 | with_reducible exact M10 | with_reducible exact M11 | with_reducible exact M12) ?_ ?_
  ·exact rfl
  refine jT (by omega) (by omega) ?_
  first | refine S0 h rfl ?_ rfl ?_ | refine S1 h rfl ?_ rfl ?_ | refine S2 h rfl ?_ rfl ?_ | refine S3 h rfl ?_ rfl ?_ | refine S4 h rfl ?_ rfl ?_ | refine S5 h rfl ?_ rfl ?_ | refine S6 h rfl ?_ rfl ?_ | refine S7 h rfl ?_ rfl ?_ | refine S8 h rfl ?_ rfl ?_
  ·first | exact Nat.lt_of_ble_eq_true rfl | (simp; done) | (simp; omega)
  clear h
  intro w h
  try simp only [N1,N2,N3,N4,N5,N6,N7] at h
  unfold zu.s1
  exact hk _ (yH.shuts h)
 ·simp only [decide_eq_false_iff_not] at hb2
  rw [if_neg hb2] at hk
  unfold zu.s1
  exact hk _ (yH.shuts h)
theorem find_spec {d mb:Nat} {a:DkA} {fs:List (List UInt8×yE)} {n:List UInt8} {k:Option Addr→Int→K} (h:Holds B (yH d mb a fs::Γ) w)
  (hd:a.down = true→∀ w,Holds B (yH d mb a fs::Γ) w→k none 3 w) (hn:a.down = false→za n fs = none→∀ w,Holds B (yH d mb a fs::Γ) w→k none 60 w)
  (hs:∀ x,a.down = false→za n fs = some x→∀ w,Holds B (yH d mb a fs::Γ) w→k (some ⟨x.p,0,none⟩) 0 w):qB.call (some ⟨d,0,none⟩) (bs n) k w:=by
 replace h:=yH.opens h
 refine zBq _ _ _ _ ?_
 unfold qB
 refine uV rfl ?_
 try simp only [yC,Nat.zero_add,Nat.reduceAdd]
 refine xL (x:=(some mb)) h rfl (by first | with_reducible exact M0 | with_reducible exact M1 | with_reducible exact M2 | with_reducible exact M3 | with_reducible exact M4 | with_reducible exact M5 | with_reducible exact M6 | with_reducible exact M7 | with_reducible exact M8 | with_reducible exact M9 | with_reducible exact M10 | with_reducible exact M11 | with_reducible exact M12) ?_ ?_
 ·exact rfl
 refine zH3 1 h at1 ?_
 refine xL (x:=a.down) h rfl (by first | with_reducible exact M0 | with_reducible exact M1 | with_reducible exact M2 | with_reducible exact M3 | with_reducible exact M4 | with_reducible exact M5 | with_reducible exact M6 | with_reducible exact M7 | with_reducible exact M8 | with_reducible exact M9 | with_reducible exact M10 | with_reducible exact M11 | with_reducible exact M12) ?_ ?_
 ·exact rfl
 refine yV (fun hb=>hd hb _ (yH.shuts h)) (fun hb=>?_)
 cases hm:za n fs with
 | none=>exact qJ rfl (hn hb hm _ (yH.shuts h))
 | some x=>exact zf rfl (hs x hb hm _ (yH.shuts h))
def named (n:List UInt8):Bool:=decide (n ≠ []∧n.length ≤ 16)
theorem zDs {n:List UInt8} {k:Bool→K} (h:Holds B Γ w) (hk:k (named n) w):qR.call (bs n) k w:=by
 refine zEB _ _ _ ?_
 unfold qR
 have e1:(bs n).toList = n:=by rw [show bs n = ByteArray.mk n.toArray from rfl,uL]
 have e2:(⟨#[]⟩:ByteArray).toList = []:=uL []
 have e3:((bs n).size:Int) = (n.length:Int):=by simp [bs,ByteArray.size]
 rw [e1,e2,e3]
 by_cases hn:n = []
 ·refine zf (by simp [hn]) ?_
  unfold qR.s1
  have e:named n = false:=by simp [named,hn]
  rw [e] at hk
  exact hk
 ·refine qJ (by simp [hn]) ?_
  unfold qR.s1
  have e:named n = decide ((n.length:Int) ≤ 16):=by
   unfold named
   by_cases h16:n.length ≤ 16
   ·rw [decide_eq_true ⟨hn,h16⟩,decide_eq_true (by omega)]
   ·rw [decide_eq_false (fun hx=>h16 hx.2),decide_eq_false (by omega)]
  rw [e] at hk
  exact hk
def zI.new (room:Int):zI:=⟨⟨room,-1,false⟩,[]⟩
theorem zJu {room:Int} {k:Option Addr→Int→K} (h:Holds B Γ w) (hbad:room < 1∨1048576 < room→k none 1 w) (hok:∀ d w,1 ≤ room→room ≤ 1048576→Holds B (zK d (.new room)::Γ) w→k (some ⟨d,0,none⟩) 0 w):qm.call room k w:=by
 refine zGI _ _ _ ?_
 unfold qm
 have s1:∀ b,(b = true→room < 1∨1048576 < room)→(b = false→1 ≤ room∧room ≤ 1048576)→qm.s1 k room b w:=fun b h1 h2=>by
  unfold qm.s1
  refine yV (fun hb=>hbad (h1 hb)) (fun hb=>?_)
  obtain ⟨h3,h4⟩:=h2 hb
  refine zHs (d:=.string) (E:=xq) (enc:=xW) (cV:=fV) h fun mb w h=>?_
  refine vR h ?_
  clear h
  intro d w h
  try simp only [yC,Nat.zero_add,Nat.reduceAdd]
  exact hok d _ h3 h4 (zK.shuts (D:=.new room) (mb:=mb) (fs:=[]) rfl rfl (yH.shuts (by
   have h5:=h.jh
   replace h:=h5
   replace h:=P2 h
   replace h:=P2 h
   try simp only [N1,N2,N3,N4,N5,N6,N7] at h
   exact h)))
 refine yV (fun hb=>?_) (fun hb=>?_)
 ·simp only [decide_eq_true_eq] at hb
  exact s1 _ (fun _=>.inl hb) (fun h=>by cases h)
 ·simp only [decide_eq_false_iff_not] at hb
  exact s1 _ (fun h=>.inr (by simpa using h)) (fun h=>by simp only [decide_eq_false_iff_not] at h; omega)
end
end
section
open Go Go.Sep
abbrev Files:=List (List UInt8×qP)
def yt:Files→Nat
 | []=>0
 | p::fs=>p.2.data.length + yt fs
theorem uP (l1 l2:Files):yt (l1++l2) = yt l1 + yt l2:=by
 induction l1 with
 | nil=>simp [yt]
 | cons p l1 ih=>simp only [List.cons_append,yt,ih]; omega
theorem zEm {fs:Files} {p:List UInt8×qP} (h:p ∈ fs):p.2.data.length ≤ yt fs:=by
 induction fs with
 | nil=>cases h
 | cons q fs ih=>
  rcases List.mem_cons.1 h with rfl | h
  ·simp [yt]
  ·have:=ih h; simp only [yt]; omega
structure OkD (D:zI):Prop where
 room1:1 ≤ D.a.room
 roomN:D.a.room ≤ 1048576
 used:(yt D.files:Int) ≤ D.a.room
 few:D.files.length ≤ 32
 left:okA D.a
 last:∀ p ∈ D.files,p.2.last ≤ p.2.data.length
 nodup:(D.files.map Prod.fst).Nodup
def zI.read (D:zI) (n:List UInt8):List UInt8×Int:=if D.a.down = true then ([],3) else match za n D.files with
 | none=>([],60)
 | some f=>(f.data,0)
def zI.sync (D:zI) (n:List UInt8):zI×Int:=if D.a.down = true then (D,3) else match za n D.files with
 | none=>(D,60)
 | some f=>(⟨(chg D.a).1,if (chg D.a).2 = 0 then yQ n ⟨f.data,f.data.length⟩ D.files else D.files⟩,(chg D.a).2)
def zI.remove (D:zI) (n:List UInt8):zI×Int:=if D.a.down = true then (D,3) else match za n D.files with
 | none=>(D,60)
 | some _=>(⟨(chg D.a).1,if (chg D.a).2 = 0 then xJ n D.files else D.files⟩,(chg D.a).2)
def zI.rename (D:zI) (n m:List UInt8):zI×Int:=if D.a.down = true then (D,3) else match za n D.files with
 | none=>(D,60)
 | some f=>if named m = false then (D,1) else (⟨(chg D.a).1,if (chg D.a).2 = 0 then yQ m f (xJ n D.files) else D.files⟩,(chg D.a).2)
def zI.cut (D:zI) (n:List UInt8) (c:Int):zI×Int:=if D.a.down = true then (D,3) else match za n D.files with
 | none=>(D,60)
 | some f=>if c < 0∨(f.data.length:Int) < c then (D,1) else (⟨(chg D.a).1,if (chg D.a).2 = 0 then yQ n ⟨f.data.take c.toNat,min f.last c.toNat⟩ D.files else D.files⟩,(chg D.a).2)
def zI.append (D:zI) (n:List UInt8) (x:List UInt8):zI×Int:=if D.a.down = true then (D,3) else if named n = false then (D,1)
 else if (za n D.files = none∧32 ≤ D.files.length)∨D.a.room - yt D.files < x.length then (D,2)
 else (⟨(chg D.a).1,yQ n ⟨((za n D.files).getD ⟨[],0⟩).data++x,((za n D.files).getD ⟨[],0⟩).last⟩ D.files⟩,(chg D.a).2)
theorem zDt (a:DkA):(chg a).1.room = a.room:=by
 unfold chg
 split
 ·rfl
 ·split <;> rfl
theorem zMv {a:DkA} (h:okA a):okA (chg a).1:=by
 obtain ⟨h1,h2⟩:=h
 unfold chg
 split
 ·exact ⟨h1,h2⟩
 ·split
  ·exact ⟨by simp only; omega,by simp only; omega⟩
  ·exact ⟨h1,h2⟩
theorem OkD.chg {D:zI} (h:OkD D):OkD ⟨(chg D.a).1,D.files⟩ :=
 ⟨by rw [zDt]; exact h.room1,by rw [zDt]; exact h.roomN,by rw [zDt]; exact h.used,h.few,zMv h.left,h.last,h.nodup⟩
theorem OkD.set {D:zI} (h:OkD D) {n:List UInt8} {f f':qP} (hm:za n D.files = some f) (hl:f'.last ≤ f'.data.length) (hu:(yt D.files:Int) - f.data.length + f'.data.length ≤ D.a.room):OkD ⟨D.a,yQ n f' D.files⟩:=by
 obtain ⟨l1,l2,h1,h2,_,h4⟩:=yU hm
 have e:=h2 f'
 have hnd:=h.nodup
 have hfew:=h.few
 have hla:=h.last
 rw [h1] at hu hnd hfew hla
 rw [uP] at hu
 simp only [yt] at hu
 refine ⟨h.room1,h.roomN,?_,?_,h.left,?_,?_⟩
 ·simp only [e,uP,yt]; omega
 ·simp only [e]; simpa using hfew
 ·simp only [e]
  intro p hp
  rcases List.mem_append.1 hp with hp | hp
  ·exact hla p (List.mem_append_left _ hp)
  ·rcases List.mem_cons.1 hp with rfl | hp
   ·exact hl
   ·exact hla p (List.mem_append_right _ (List.mem_cons_of_mem _ hp))
 ·simp only [e]; simpa using hnd
theorem zA8 {α β:Type} [DecidableEq α] {k:α} {m:List (α×β)} (h:za k m = none):∀ p ∈ m,p.1 ≠ k:=by
 rcases zGN k m with ⟨_,_,_,h4⟩ | ⟨_,_,_,_,_,h1,_⟩
 ·exact h4
 ·rw [h] at h1; cases h1
theorem OkD.push {D:zI} (h:OkD D) {n:List UInt8} {f:qP} (hm:za n D.files = none) (hf:D.files.length < 32) (hl:f.last ≤ f.data.length) (hu:(yt D.files:Int) + f.data.length ≤ D.a.room):OkD ⟨D.a,yQ n f D.files⟩:=by
 have e:yQ n f D.files = D.files++[(n,f)]:=vU hm
 refine ⟨h.room1,h.roomN,?_,?_,h.left,?_,?_⟩
 ·simp only [e,uP,yt]; omega
 ·simp only [e,List.length_append,List.length_singleton]; omega
 ·simp only [e]
  intro p hp
  rcases List.mem_append.1 hp with hp | hp
  ·exact h.last p hp
  ·simp only [List.mem_singleton] at hp; subst hp; exact hl
 ·simp only [e,List.map_append,List.map_cons,List.map_nil]
  rw [List.nodup_append]
  refine ⟨h.nodup,by simp,fun x hx y hy=>?_⟩
  simp only [List.mem_singleton] at hy
  subst hy
  obtain ⟨p,hp,rfl⟩:=List.mem_map.1 hx
  exact zA8 hm p hp
theorem OkD.del {D:zI} (h:OkD D) {n:List UInt8} {f:qP} (hm:za n D.files = some f):OkD ⟨D.a,xJ n D.files⟩∧za n (xJ n D.files) = none∧(xJ n D.files).length + 1 = D.files.length∧yt (xJ n D.files) + f.data.length = yt D.files:=by
 obtain ⟨l1,l2,h1,_,h3,h4⟩:=yU hm
 have hnd:=h.nodup
 have hfew:=h.few
 have hla:=h.last
 have hus:=h.used
 rw [h1] at hnd hfew hla hus
 rw [uP] at hus
 simp only [yt] at hus
 have hsub:List.Sublist (l1++l2) (l1++(n,f)::l2):=List.Sublist.append (List.Sublist.refl _) (List.sublist_cons_self _ _)
 refine ⟨⟨h.room1,h.roomN,?_,?_,h.left,?_,?_⟩,?_,?_,?_⟩
 ·simp only [h3,uP]; omega
 ·simp only [h3,List.length_append,List.length_cons] at *; omega
 ·simp only [h3]; exact fun p hp=>hla p (hsub.subset hp)
 ·simp only [h3]; exact hnd.sublist (hsub.map _)
 ·rw [h3]
  cases hx:za n (l1++l2) with
  | none=>rfl
  | some y=>
   obtain ⟨a1,a2,e1,_⟩:=yU hx
   exfalso
   have hmem:n ∈ (l1++l2).map Prod.fst:=by rw [e1]; simp
   simp only [List.map_append,List.map_cons] at hnd hmem
   rw [List.nodup_append] at hnd
   obtain ⟨g1,g2,g3⟩:=hnd
   rcases List.mem_append.1 hmem with hmem | hmem
   ·exact g3 n hmem n List.mem_cons_self rfl
   ·exact (List.nodup_cons.1 g2).1 hmem
 ·rw [h3,h1]; simp; omega
 ·rw [h3,h1,uP,uP]; simp only [yt]; omega
theorem OkD.put {D:zI} (h:OkD D) {n:List UInt8} {f:qP} (hf:D.files.length < 32) (hl:f.last ≤ f.data.length) (hu:(yt D.files:Int) + f.data.length ≤ D.a.room):OkD ⟨D.a,yQ n f D.files⟩:=by
 cases hm:za n D.files with
 | none=>exact h.push hm hf hl hu
 | some g=>exact h.set hm hl (by omega)
section
variable {B w:World} {Γ:List zC}
theorem zBM {D:zI} {n:List UInt8} {fs:List (List UInt8×yE)} {x:yE} (hp:xU fs = D.files) (hx:za n fs = some x):za n D.files = some x.f:=by rw [← hp,zBL,hx]; rfl
theorem zAE {D:zI} {n:List UInt8} {fs:List (List UInt8×yE)} (hp:xU fs = D.files) (hx:za n fs = none):za n D.files = none:=by rw [← hp,zBL,hx]; rfl
theorem jW {D:zI} (h:OkD D) {n:List UInt8} {f:qP} (hm:za n D.files = some f):f.data.length ≤ 1048576∧f.last ≤ f.data.length:=by
 obtain ⟨l1,l2,h1,_⟩:=yU hm
 have hmem:(n,f) ∈ D.files:=by rw [h1]; simp
 have h2:=zEm hmem
 have h3:=h.used
 have h4:=h.roomN
 exact ⟨by simp only at h2; omega,h.last _ hmem⟩
theorem vO {d mb:Nat} {a:DkA} {l1 l2:List (List UInt8×yE)} {n:List UInt8} {x:yE} (h:Holds B (yH d mb a (l1++(n,x)::l2)::Γ) w) :
  Holds B (blk x.p (.cells (fA x.f x.s) vF (0,0))::Bytes zP x.s x.f.data::blk d (.cells (dA a mb) xS (0,0))::qH xW fV mb (l1++(n,x)::l2)::stars (l1.map fB)::stars (l2.map fB)::Γ) w:=by
 replace h:=yH.opens h
 replace h:=P1 h
 replace h:=P1 h
 replace h:=P2 h
 try simp only [N1,N2,N3,N4,N5,N6,N7] at h
 replace h:=jO h
 replace h:=P3 h
 replace h:=P3 h
 replace h:=P5 h
 replace h:=P5 h
 replace h:=P5 h
 replace h:=P5 h
 try simp only [N1,N2,N3,N4,N5,N6,N7] at h
 exact h
theorem vW {d mb:Nat} {a:DkA} {l1 l2:List (List UInt8×yE)} {n:List UInt8} {x:yE} {f:qP} {s:Sl} (h:Holds B (blk x.p (.cells (fA f s) vF (0,0))::Bytes zP s f.data::blk d (.cells (dA a mb) xS (0,0))::qH xW fV mb (l1++(n,x)::l2)::stars (l1.map fB)::stars (l2.map fB)::Γ) w) :
  Holds B (yH d mb a (l1++(n,⟨f,x.p,s⟩)::l2)::Γ) w:=by
 replace h:=P3 h
 replace h:=P3 h
 replace h:=P5 h
 replace h:=P5 h
 replace h:=P5 h
 replace h:=P5 h
 try simp only [N1,N2,N3,N4,N5,N6,N7] at h
 have h1:=zEk (n:=n) (x:=⟨f,x.p,s⟩) h
 clear h
 have h:=h1
 clear h1
 replace h:=P1 h
 replace h:=P2 h
 try simp only [N1,N2,N3,N4,N5,N6,N7] at h
 have h2:=zHE (fs':=l1++(n,⟨f,x.p,s⟩)::l2) (by simp) h
 exact yH.shuts h2.swap
theorem zEn {d:Nat} {D:zI} {n:List UInt8} {k:Sl→Int→K} (hD:OkD D) (h:Holds B (zK d D::Γ) w) (hk:∀ s w,Holds B (Bytes zP s (D.read n).1::zK d D::Γ) w→k s (D.read n).2 w):qo.call (some ⟨d,0,none⟩) (bs n) k w:=by
 obtain ⟨mb,fs,hp,h⟩:=zK.opens h
 refine zBo _ _ _ _ ?_
 unfold qo
 unfold zI.read at hk
 refine find_spec h (fun hd w h=>?_) (fun hd hx w h=>?_) (fun x hd hx w h=>?_)
 ·rw [if_pos hd] at hk
  refine qJ rfl ?_
  exact hk _ _ ((zK.shuts rfl hp h).jo _ _)
 ·rw [if_neg (by rw [hd]; simp),zAE hp hx] at hk
  refine qJ rfl ?_
  exact hk _ _ ((zK.shuts rfl hp h).jo _ _)
 ·have hm:=zBM hp hx
  rw [if_neg (by rw [hd]; simp),hm] at hk
  refine zf rfl ?_
  obtain ⟨l1,l2,e1,_⟩:=yU hx
  rw [e1] at h hp
  replace h:=vO h
  refine uV rfl ?_
  refine xL (x:=x.s) h rfl (by first | with_reducible exact M0 | with_reducible exact M1 | with_reducible exact M2 | with_reducible exact M3 | with_reducible exact M4 | with_reducible exact M5 | with_reducible exact M6 | with_reducible exact M7 | with_reducible exact M8 | with_reducible exact M9 | with_reducible exact M10 | with_reducible exact M11 | with_reducible exact M12) ?_ ?_
  ·exact rfl
  refine qb h (fun w h=>Bytes.rd h (List.mem_cons_of_mem _ List.mem_cons_self)) (by have:=(jW hD hm).1; omega) fun s w h _=>?_
  replace h:=P6 h
  replace h:=P6 h
  replace h:=P6 h
  replace h:=P6 h
  replace h:=P6 h
  replace h:=P6 h
  try simp only [N1,N2,N3,N4,N5,N6,N7] at h
  exact hk s _ (zK.shuts rfl hp (vW h)).swap
theorem zIW {d mb:Nat} {a:DkA} {l1 l2:List (List UInt8×yE)} (h:Holds B (stars (l1.map fB)::stars (l2.map fB)::blk d (.cells (dA a mb) xS (0,0))::qH xW fV mb (l1++l2)::Γ) w):Holds B (yH d mb a (l1++l2)::Γ) w:=by
 have h2:=jv.2 h
 rw [← List.map_append] at h2
 replace h:=h2
 replace h:=P2 h
 replace h:=P2 h
 try simp only [N1,N2,N3,N4,N5,N6,N7] at h
 exact yH.shuts h
theorem zCU {l1 l2:List (List UInt8×yE)} {n:List UInt8} {x:yE} {D:zI} (hp:xU (l1++(n,x)::l2) = D.files) (hx:za n (l1++(n,x)::l2) = some x) (hms:∀ v,yQ n v (l1++(n,x)::l2) = l1++(n,v)::l2) (f:qP) (p:Nat) (s:Sl):xU (l1++(n,⟨f,p,s⟩)::l2) = yQ n f D.files:=by
 rw [← hp,← hms]
 exact (zAe (fun x:yE=>x.f) n (⟨f,p,s⟩:yE) _).symm
theorem zIX {d:Nat} {D:zI} {n:List UInt8} {k:Int→K} (hD:OkD D) (h:Holds B (zK d D::Γ) w) (hk:∀ w,OkD (D.sync n).1→Holds B (zK d (D.sync n).1::Γ) w→k (D.sync n).2 w):zo.call (some ⟨d,0,none⟩) (bs n) k w:=by
 obtain ⟨mb,fs,hp,h⟩:=zK.opens h
 refine zBp _ _ _ _ ?_
 unfold zo
 unfold zI.sync at hk
 refine find_spec h (fun hd w h=>?_) (fun hd hx w h=>?_) (fun x hd hx w h=>?_)
 ·rw [if_pos hd] at hk
  refine zf rfl ?_
  unfold zo.s1 zo.s2
  exact zf rfl (hk _ hD (zK.shuts rfl hp h))
 ·rw [if_neg (by rw [hd]; simp),zAE hp hx] at hk
  refine zf rfl ?_
  unfold zo.s1 zo.s2
  exact zf rfl (hk _ hD (zK.shuts rfl hp h))
 ·have hm:=zBM hp hx
  rw [if_neg (by rw [hd]; simp),hm] at hk
  simp only at hk
  refine qJ rfl ?_
  refine uU hD.left h fun w h=>?_
  unfold zo.s1 zo.s2
  refine yV (fun hb=>?_) (fun hb=>?_)
  ·simp only [decide_eq_true_eq] at hb
   rw [if_pos hb] at hk
   obtain ⟨l1,l2,e1,hms,_⟩:=yU hx
   rw [e1] at h hp hx hms
   replace h:=vO h
   refine uV rfl ?_
   refine xL (x:=x.s) h rfl (by first | with_reducible exact M0 | with_reducible exact M1 | with_reducible exact M2 | with_reducible exact M3 | with_reducible exact M4 | with_reducible exact M5 | with_reducible exact M6 | with_reducible exact M7 | with_reducible exact M8 | with_reducible exact M9 | with_reducible exact M10 | with_reducible exact M11 | with_reducible exact M12) ?_ ?_
   ·exact rfl
   have hsn:=Bytes.len h.tail
   try simp only [yC,Nat.zero_add,Nat.reduceAdd]
   first | refine S0 h rfl ?_ rfl ?_ | refine S1 h rfl ?_ rfl ?_ | refine S2 h rfl ?_ rfl ?_ | refine S3 h rfl ?_ rfl ?_ | refine S4 h rfl ?_ rfl ?_ | refine S5 h rfl ?_ rfl ?_ | refine S6 h rfl ?_ rfl ?_ | refine S7 h rfl ?_ rfl ?_ | refine S8 h rfl ?_ rfl ?_
   ·first | exact Nat.lt_of_ble_eq_true rfl | (simp; done) | (simp; omega)
   clear h
   intro w h
   try simp only [N1,N2,N3,N4,N5,N6,N7] at h
   rw [← hsn] at h
   have hdl:=jW hD hm
   refine hk _ ((hD.set (f':=⟨x.f.data,x.f.data.length⟩) hm (Nat.le_refl _) (by have:=hD.used; simp only; omega)).chg) (zK.shuts rfl ?_ (vW (f:=⟨x.f.data,x.f.data.length⟩) h))
   exact zCU hp hx hms _ _ _
  ·simp only [decide_eq_false_iff_not] at hb
   rw [if_neg hb] at hk
   exact hk _ hD.chg (zK.shuts rfl hp h)
theorem zCr {d:Nat} {D:zI} {n:List UInt8} {k:Int→K} (hD:OkD D) (h:Holds B (zK d D::Γ) w) (hk:∀ w,OkD (D.remove n).1→Holds B (zK d (D.remove n).1::Γ) w→k (D.remove n).2 w):zW.call (some ⟨d,0,none⟩) (bs n) k w:=by
 obtain ⟨mb,fs,hp,h⟩:=zK.opens h
 refine zAy _ _ _ _ ?_
 unfold zW
 unfold zI.remove at hk
 refine find_spec h (fun hd w h=>?_) (fun hd hx w h=>?_) (fun x hd hx w h=>?_)
 ·rw [if_pos hd] at hk
  refine zf rfl ?_
  unfold zW.s1 zW.s2
  exact zf rfl (hk _ hD (zK.shuts rfl hp h))
 ·rw [if_neg (by rw [hd]; simp),zAE hp hx] at hk
  refine zf rfl ?_
  unfold zW.s1 zW.s2
  exact zf rfl (hk _ hD (zK.shuts rfl hp h))
 ·have hm:=zBM hp hx
  rw [if_neg (by rw [hd]; simp),hm] at hk
  simp only at hk
  refine qJ rfl ?_
  refine uU hD.left h fun w h=>?_
  unfold zW.s1 zW.s2
  refine yV (fun hb=>?_) (fun hb=>?_)
  ·simp only [decide_eq_true_eq] at hb
   rw [if_pos hb] at hk
   obtain ⟨l1,l2,e1,hms,hmd,_⟩:=yU hx
   replace h:=yH.opens h
   refine uV rfl ?_
   try simp only [yC,Nat.zero_add,Nat.reduceAdd]
   refine xL (x:=(some mb)) h rfl (by first | with_reducible exact M0 | with_reducible exact M1 | with_reducible exact M2 | with_reducible exact M3 | with_reducible exact M4 | with_reducible exact M5 | with_reducible exact M6 | with_reducible exact M7 | with_reducible exact M8 | with_reducible exact M9 | with_reducible exact M10 | with_reducible exact M11 | with_reducible exact M12) ?_ ?_
   ·exact rfl
   replace h:=P2 h
   replace h:=P1 h
   replace h:=P2 h
   try simp only [N1,N2,N3,N4,N5,N6,N7] at h
   refine zEe (enc:=xW) (cV:=fV) (a:=n) zEG jN h fun w h=>?_
   rw [e1] at h hp hx hms hmd
   rw [hmd] at h
   replace h:=P1 h
   replace h:=P2 h
   try simp only [N1,N2,N3,N4,N5,N6,N7] at h
   replace h:=jO h
   replace h:=(h.del 0 at0).del 0 at0
   try simp only [N1,N2,N3,N4,N5,N6,N7] at h
   refine hk _ (hD.del hm).1.chg (zK.shuts (mb:=mb) (fs:=l1++l2) rfl ?_ (zIW h))
   show xU (l1++l2) = xJ n D.files
   rw [← hp,← hmd]
   exact (zDn (fun x:yE=>x.f) n _).symm
  ·simp only [decide_eq_false_iff_not] at hb
   rw [if_neg hb] at hk
   exact hk _ hD.chg (zK.shuts rfl hp h)
end
end
section
open Go Go.Sep
section
variable {B w:World} {Γ:List zC}
theorem zCV {fs:List (List UInt8×yE)} {n:List UInt8} {x:yE} (h:Holds B (blk x.p (.cells (fA x.f x.s) vF (0,0))::Bytes zP x.s x.f.data::stars (fs.map fB)::Γ) w) :
  Holds B (stars ((yQ n x fs).map fB)::Γ) w:=by
 cases hm:za n fs with
 | none=>
  rw [vU hm]
  replace h:=P1 h
  replace h:=P1 h
  replace h:=P2 h
  try simp only [N1,N2,N3,N4,N5,N6,N7] at h
  have h1:Holds B (stars (fs.map fB)::stars [fB (n,x)]::Γ) w:=by
   refine Holds.swap (zBK.2 ?_)
   have h2:Holds B (fB (n,x)::stars (fs.map fB)::Γ) w:=Holds.flat.2 (by
    replace h:=P2 h
    replace h:=P2 h
    try simp only [N1,N2,N3,N4,N5,N6,N7] at h
    exact h)
   have h3:=h2.jh
   exact h3.swap
  rw [List.map_append,List.map_cons,List.map_nil]
  exact jv.2 h1
 | some y=>
  obtain ⟨l1,l2,e1,h2,_⟩:=yU hm
  rw [h2]
  rw [e1] at h
  replace h:=P1 h
  replace h:=P1 h
  replace h:=P2 h
  try simp only [N1,N2,N3,N4,N5,N6,N7] at h
  replace h:=jO h
  replace h:=(h.del 0 at0).del 0 at0
  try simp only [N1,N2,N3,N4,N5,N6,N7] at h
  replace h:=P1 h
  replace h:=P1 h
  replace h:=P3 h
  replace h:=P3 h
  try simp only [N1,N2,N3,N4,N5,N6,N7] at h
  exact zEk h
theorem zHF {A A':zC} {l1 l2:List (List UInt8×yE)} (h:Holds B (A::A'::stars (l1.map fB)::stars (l2.map fB)::Γ) w):Holds B (A::A'::stars ((l1++l2).map fB)::Γ) w:=by
 replace h:=P1 h
 replace h:=P1 h
 replace h:=P3 h
 replace h:=P3 h
 try simp only [N1,N2,N3,N4,N5,N6,N7] at h
 have h2:=jv.2 h
 rw [← List.map_append] at h2
 replace h:=h2
 replace h:=P2 h
 replace h:=P2 h
 try simp only [N1,N2,N3,N4,N5,N6,N7] at h
 exact h
theorem zJv {d:Nat} {D:zI} {n:List UInt8} {c:Int} {k:Int→K} (hD:OkD D) (h:Holds B (zK d D::Γ) w) (hk:∀ w,OkD (D.cut n c).1→Holds B (zK d (D.cut n c).1::Γ) w→k (D.cut n c).2 w):zJ.call (some ⟨d,0,none⟩) (bs n) c k w:=by
 obtain ⟨mb,fs,hp,h⟩:=zK.opens h
 refine zCK _ _ _ _ _ ?_
 unfold zJ
 unfold zI.cut at hk
 refine find_spec h (fun hd w h=>?_) (fun hd hx w h=>?_) (fun x hd hx w h=>?_)
 ·rw [if_pos hd] at hk
  refine zf rfl ?_
  unfold zJ.s4 zJ.s1 zJ.s2 zJ.s3
  exact zf rfl (zf rfl (zf rfl (hk _ hD (zK.shuts rfl hp h))))
 ·rw [if_neg (by rw [hd]; simp),zAE hp hx] at hk
  refine zf rfl ?_
  unfold zJ.s4 zJ.s1 zJ.s2 zJ.s3
  exact zf rfl (zf rfl (zf rfl (hk _ hD (zK.shuts rfl hp h))))
 ·have hm:=zBM hp hx
  rw [if_neg (by rw [hd]; simp),hm] at hk
  simp only at hk
  obtain ⟨l1,l2,e1,hms,hmd,_⟩:=yU hx
  rw [e1] at h hp hx hms
  have hdl:=jW hD hm
  refine qJ rfl ?_
  have bad:(c < 0∨(x.f.data.length:Int) < c)→∀ w,Holds B (yH d mb D.a (l1++(n,x)::l2)::Γ) w→∀ p,zJ.s4 k (some ⟨d,0,none⟩) c p 0 true w:=fun hc w h p=>by
   rw [if_pos hc] at hk
   unfold zJ.s4 zJ.s1 zJ.s2 zJ.s3
   exact qJ rfl (zf rfl (zf rfl (hk _ hD (zK.shuts rfl hp h))))
  refine yV (fun hb=>?_) (fun hb=>?_)
  ·simp only [decide_eq_true_eq] at hb
   exact bad (.inl hb) _ h _
  simp only [decide_eq_false_iff_not] at hb
  replace h:=vO h
  have hsn:=Bytes.len h.tail
  refine uV rfl ?_
  refine xL (x:=x.s) h rfl (by first | with_reducible exact M0 | with_reducible exact M1 | with_reducible exact M2 | with_reducible exact M3 | with_reducible exact M4 | with_reducible exact M5 | with_reducible exact M6 | with_reducible exact M7 | with_reducible exact M8 | with_reducible exact M9 | with_reducible exact M10 | with_reducible exact M11 | with_reducible exact M12) ?_ ?_
  ·exact rfl
  by_cases hc2:(x.f.data.length:Int) < c
  ·rw [decide_eq_true (by omega)]
   exact bad (.inr hc2) _ (vW h) _
  rw [decide_eq_false (by omega)]
  rw [if_neg (by omega)] at hk
  obtain ⟨c',hc'⟩:=Int.eq_ofNat_of_zero_le (show 0 ≤ c by omega)
  subst hc'
  simp only [Int.toNat_natCast] at hk
  unfold zJ.s4 zJ.s1
  refine zf rfl (qJ rfl ?_)
  refine uU hD.left (vW h) fun w h=>?_
  unfold zJ.s2 zJ.s3
  refine yV (fun hb2=>?_) (fun hb2=>?_)
  ·simp only [decide_eq_true_eq] at hb2
   rw [if_pos hb2] at hk
   replace h:=vO h
   simp only at h
   have hsc:=h.tail.jK
   refine zDS h ?_
   clear h
   intro w h
   refine uV rfl ?_
   try simp only [yC,Nat.zero_add,Nat.reduceAdd]
   refine xL (x:=x.s) h rfl (by first | with_reducible exact M0 | with_reducible exact M1 | with_reducible exact M2 | with_reducible exact M3 | with_reducible exact M4 | with_reducible exact M5 | with_reducible exact M6 | with_reducible exact M7 | with_reducible exact M8 | with_reducible exact M9 | with_reducible exact M10 | with_reducible exact M11 | with_reducible exact M12) ?_ ?_
   ·exact rfl
   refine ⟨_,by omega,by omega,by omega,by omega,rfl,?_⟩
   simp only [Int.toNat_natCast,show (0:Int).toNat = 0 from rfl,zMg hsc.2.2.1,Nat.sub_zero]
   refine xL (x:=(x.f.last:Int)) h rfl (by first | with_reducible exact M0 | with_reducible exact M1 | with_reducible exact M2 | with_reducible exact M3 | with_reducible exact M4 | with_reducible exact M5 | with_reducible exact M6 | with_reducible exact M7 | with_reducible exact M8 | with_reducible exact M9 | with_reducible exact M10 | with_reducible exact M11 | with_reducible exact M12) ?_ ?_
   ·exact rfl
   refine qX (e':=((min x.f.last c':Nat):Int)) (by split <;> omega) ?_
   first | refine S0 h rfl ?_ rfl ?_ | refine S1 h rfl ?_ rfl ?_ | refine S2 h rfl ?_ rfl ?_ | refine S3 h rfl ?_ rfl ?_ | refine S4 h rfl ?_ rfl ?_ | refine S5 h rfl ?_ rfl ?_ | refine S6 h rfl ?_ rfl ?_ | refine S7 h rfl ?_ rfl ?_ | refine S8 h rfl ?_ rfl ?_
   ·first | exact Nat.lt_of_ble_eq_true rfl | (simp; done) | (simp; omega)
   clear h
   intro w h
   try simp only [N1,N2,N3,N4,N5,N6,N7] at h
   first | refine S0 h rfl ?_ rfl ?_ | refine S1 h rfl ?_ rfl ?_ | refine S2 h rfl ?_ rfl ?_ | refine S3 h rfl ?_ rfl ?_ | refine S4 h rfl ?_ rfl ?_ | refine S5 h rfl ?_ rfl ?_ | refine S6 h rfl ?_ rfl ?_ | refine S7 h rfl ?_ rfl ?_ | refine S8 h rfl ?_ rfl ?_
   ·first | exact Nat.lt_of_ble_eq_true rfl | (simp; done) | (simp; omega)
   clear h
   intro w h
   try simp only [N1,N2,N3,N4,N5,N6,N7] at h
   replace h:=P5 h
   replace h:=P5 h
   replace h:=P5 h
   replace h:=P5 h
   replace h:=P4 h
   replace h:=P5 h
   try simp only [N1,N2,N3,N4,N5,N6,N7] at h
   replace h:=(h.imp (SlC.cut (m:=c') (by omega))).swap
   rw [Nat.mul_one,← List.map_take] at h
   have hu:=hD.used
   refine hk _ ((hD.set (f':=⟨x.f.data.take c',min x.f.last c'⟩) hm (by simp; omega) (by simp; omega)).chg) (zK.shuts rfl ?_ (vW (f:=⟨x.f.data.take c',min x.f.last c'⟩) (s:=⟨x.s.a,c',c'⟩) (x:=⟨x.f,x.p,x.s⟩) h))
   exact zCU hp hx hms _ _ _
  ·simp only [decide_eq_false_iff_not] at hb2
   rw [if_neg hb2] at hk
   exact hk _ hD.chg (zK.shuts rfl hp h)
end
end
section
open Go Go.Sep
def jP:List (List UInt8×yE)→Nat
 | []=>0
 | p::fs=>p.2.f.data.length + jP fs
theorem zEo (l1 l2:List (List UInt8×yE)):jP (l1++l2) = jP l1 + jP l2:=by
 induction l1 with
 | nil=>simp [jP]
 | cons p l1 ih=>simp only [List.cons_append,jP,ih]; omega
theorem zGX (fs:List (List UInt8×yE)):jP fs = yt (xU fs):=by
 induction fs with
 | nil=>rfl
 | cons p fs ih=>simp only [jP,xU,List.map_cons,yt,ih]
section
variable {B w:World} {Γ:List zC}
theorem zK9 {fs:List (List UInt8×yE)} {p:List UInt8×yE} (i:Nat) (h:Holds B Γ w) (hi:Γ[i]? = some (stars (fs.map fB))) (hp:p ∈ fs) :
  w.cell? ⟨p.2.p,0,none⟩ = some p.2.s.val∧w.cell? ⟨p.2.p,1,none⟩ = some (.int .i64 (p.2.f.last:Int))∧p.2.f.data.length = p.2.s.n∧RdB w p.2.s p.2.f.data∧p.2.s.n ≤ p.2.s.c∧(∀ a,p.2.s.a = some a→a.spot = none):=by
 obtain ⟨l1,l2,rfl⟩:=List.append_of_mem hp
 have h1:=jO (n:=p.1) (x:=p.2) (h.pick i hi)
 have hb:=h1.block
 have hl:=Bytes.len h1.tail
 have hsc:=h1.tail.jK
 exact ⟨qQ hb rfl,qQ hb rfl,hl,Bytes.rd h1 (List.mem_cons_of_mem _ List.mem_cons_self),hsc.2.1,hsc.2.2.1⟩
theorem zIY {d mb:Nat} {a:DkA} {fs:List (List UInt8×yE)} {k:Int→K} (hu:jP fs ≤ 100000000) (h:Holds B (yH d mb a fs::Γ) w) (hk:∀ w,Holds B (yH d mb a fs::Γ) w→k (jP fs:Int) w):qC.call (some ⟨d,0,none⟩) k w:=by
 replace h:=yH.opens h
 refine zBr _ _ _ ?_
 unfold qC
 refine uV rfl ?_
 try simp only [yC,Nat.zero_add,Nat.reduceAdd]
 refine xL (x:=(some mb)) h rfl (by first | with_reducible exact M0 | with_reducible exact M1 | with_reducible exact M2 | with_reducible exact M3 | with_reducible exact M4 | with_reducible exact M5 | with_reducible exact M6 | with_reducible exact M7 | with_reducible exact M8 | with_reducible exact M9 | with_reducible exact M10 | with_reducible exact M11 | with_reducible exact M12) ?_ ?_
 ·exact rfl
 replace h:=P2 h
 replace h:=P1 h
 replace h:=P2 h
 try simp only [N1,N2,N3,N4,N5,N6,N7] at h
 refine zH1 zEG h fun r w h=>?_
 refine yR.of (fun t w=>∃ (n:Nat) (left:List (List UInt8×yE)) (cur:Option (List UInt8×yE)),t = (n:Int)∧n + jP left = jP fs∧Holds B (vD xW fV mb r fs left cur::blk d (.cells (dA a mb) xS (0,0))::stars (fs.map fB)::Γ) w) (fun _ w=>zDJ r fs.length w) ⟨0,fs,none,rfl,by omega,h⟩ ?_
 clear h
 rintro t w ⟨n,left,cur,rfl,hn,h⟩
 have hcnt:=zBy h
 unfold qC.b1
 refine zJt h (fun hl0 w h=>?_) (fun l1 p l2 w hl1 hpm h=>?_)
 ·refine ⟨_,false,rfl,rfl,?_⟩
  refine zf rfl ?_
  rw [hl0] at hn
  simp only [jP,Nat.add_zero] at hn
  rw [hn]
  replace h:=P2 h
  replace h:=P1 h
  replace h:=P2 h
  try simp only [N1,N2,N3,N4,N5,N6,N7] at h
  exact hk _ (yH.shuts h)
 ·refine ⟨_,true,rfl,rfl,?_⟩
  refine qJ rfl ?_
  refine zH2 h ?_
  refine ⟨_,some ⟨p.2.p,0,none⟩,rfl,rfl,?_⟩
  refine uV rfl ?_
  obtain ⟨g1,_,g3,_⟩:=zK9 2 h at2 hpm
  refine zKS (x:=p.2.s) g1 ?_
  rw [hl1,zEo] at hn
  simp only [jP] at hn
  refine qX (e':=((n + p.2.f.data.length:Nat):Int)) (by rw [wrap64 (by omega) (by omega)]; omega) ?_
  refine ⟨⟨n + p.2.f.data.length,l1++l2,some p,rfl,by rw [zEo]; omega,h⟩,?_⟩
  rw [hcnt,zBy h,hl1]
  simp
theorem zMw {α β:Type} [DecidableEq α] {enc:α→Value} {cV:β→Value} {T E t mb:Nat} {d:TypeDesc} {m:List (α×β)} {k:Int→K} (i:Nat) (hT:zAL Tryz.prog T d E) (h:Holds B Γ w) (hi:Γ[i]? = some (qH enc cV mb m)) (hk:k (m.length:Int) w):Rd Tryz.prog (Builtin.len_ #[T] t #[.map (some mb)]) (Value.int .i64) k w:=by
 obtain ⟨kt,hT,hd⟩:=hT
 obtain ⟨es,c,⟨hr,hst⟩,h⟩:=qH.opens (h.pick i hi)
 have hlen:es.size = m.length:=by have:=congrArg List.length hr; simpa using this
 refine ⟨(m.length:Int),?_,hk⟩
 have e0:#[T][0]? = some T:=rfl
 have e1:#[Value.map (some mb)][0]? = some (.map (some mb)):=rfl
 unfold Builtin.len_
 simp only [e0,e1,Sem.run_bind,run_underlying hT,Result.andThen,MapKept.run_getObj_map h.block,Sem.run_pure,hlen,goInt]
theorem zEp {d mb:Nat} {D:zI} {n x:List UInt8} {data:Sl} {fs:List (List UInt8×yE)} {y:yE} {k:Int→K} (hD:OkD D) (ha:okA D.a)
  (hy:za n fs = some y) (hp:xU fs = yQ n y.f D.files) (hsm:y.f.data.length + x.length ≤ 1048576) (hr:∀ w,Holds B Γ w→RdB w data x)
  (h:Holds B (yH d mb D.a fs::Γ) w) (hk:∀ w,Holds B (zK d ⟨(chg D.a).1,yQ n ⟨y.f.data++x,y.f.last⟩ D.files⟩::Γ) w→k (chg D.a).2 w):zR.s1 k ⟨d,0,none⟩ data (some ⟨y.p,0,none⟩) w:=by
 obtain ⟨l1,l2,e1,hms,_⟩:=yU hy
 rw [e1] at h hy hms
 unfold zR.s1
 replace h:=vO h
 refine uV rfl ?_
 refine xL (x:=y.s) h rfl (by first | with_reducible exact M0 | with_reducible exact M1 | with_reducible exact M2 | with_reducible exact M3 | with_reducible exact M4 | with_reducible exact M5 | with_reducible exact M6 | with_reducible exact M7 | with_reducible exact M8 | with_reducible exact M9 | with_reducible exact M10 | with_reducible exact M11 | with_reducible exact M12) ?_ ?_
 ·exact rfl
 replace h:=P5 h
 replace h:=P5 h
 replace h:=P5 h
 replace h:=P5 h
 replace h:=P4 h
 replace h:=P5 h
 try simp only [N1,N2,N3,N4,N5,N6,N7] at h
 refine zAb h (hr _ h.tail.tail.tail.tail.tail.tail) (by omega) fun s' w h _ _=>?_
 replace h:=P5 h
 replace h:=P5 h
 replace h:=P5 h
 replace h:=P5 h
 replace h:=P4 h
 replace h:=P5 h
 try simp only [N1,N2,N3,N4,N5,N6,N7] at h
 first | refine S0 h rfl ?_ rfl ?_ | refine S1 h rfl ?_ rfl ?_ | refine S2 h rfl ?_ rfl ?_ | refine S3 h rfl ?_ rfl ?_ | refine S4 h rfl ?_ rfl ?_ | refine S5 h rfl ?_ rfl ?_ | refine S6 h rfl ?_ rfl ?_ | refine S7 h rfl ?_ rfl ?_ | refine S8 h rfl ?_ rfl ?_
 ·first | exact Nat.lt_of_ble_eq_true rfl | (simp; done) | (simp; omega)
 clear h
 intro w h
 try simp only [N1,N2,N3,N4,N5,N6,N7] at h
 have h2:=vW (f:=⟨y.f.data++x,y.f.last⟩) (s:=s') h
 refine uU ha h2 fun w h=>?_
 refine hk _ (zK.shuts rfl ?_ h)
 have e2:∀ v,yQ n v (yQ n y.f D.files) = yQ n v D.files:=fun v=>by
  cases hm:za n D.files with
  | none=>
   have:=vU (v:=y.f) hm
   rw [this,vU (v:=v) hm]
   have key:∀ (m:List (List UInt8×qP)),za n m = none→yQ n v (m++[(n,y.f)]) = m++[(n,v)]:=by
    intro m
    induction m with
    | nil=>intro _; simp [yQ]
    | cons p m ih=>
     intro hm
     simp only [za] at hm
     split at hm
     ·cases hm
     ·rename_i hne
      simp only [List.cons_append,yQ,if_neg hne,ih hm]
   exact key _ hm
  | some g=>
   obtain ⟨a1,a2,g1,g2,_,g4⟩:=yU hm
   rw [g2,g2]
   have key:∀ (a1:List (List UInt8×qP)),(∀ p ∈ a1,p.1 ≠ n)→yQ n v (a1++(n,y.f)::a2) = a1++(n,v)::a2:=by
    intro a1
    induction a1 with
    | nil=>intro _; simp [yQ]
    | cons p a1 ih=>
     intro hne
     have:n ≠ p.1:=fun e=>hne p List.mem_cons_self e.symm
     simp only [List.cons_append,yQ,if_neg this,ih (fun q hq=>hne q (List.mem_cons_of_mem _ hq))]
   exact key a1 g4
 show xU (l1++(n,(⟨⟨y.f.data++x,y.f.last⟩,y.p,s'⟩:yE))::l2) = yQ n ⟨y.f.data++x,y.f.last⟩ D.files
 have e3:=zCU (D:=⟨D.a,yQ n y.f D.files⟩) (by rw [← e1]; exact hp) hy hms ⟨y.f.data++x,y.f.last⟩ y.p s'
 rw [e3]
 exact e2 _
theorem zGY {d:Nat} {D:zI} {n x:List UInt8} {data:Sl} {k:Int→K} (hD:OkD D) (hxl:x.length ≤ 100000000) (h:Holds B (zK d D::Γ) w) (hr:∀ w,Holds B Γ w→RdB w data x)
  (hk:∀ w,OkD (D.append n x).1→Holds B (zK d (D.append n x).1::Γ) w→k (D.append n x).2 w):zR.call (some ⟨d,0,none⟩) (bs n) data k w:=by
 have hdn:x.length = data.n:=by have:=(hr w h.tail).len; simpa using this
 obtain ⟨mb,fs,hp,h⟩:=zK.opens h
 have hus:=hD.used
 have hro:=hD.roomN
 have hux:jP fs = yt D.files:=by rw [zGX,hp]
 have hfl:fs.length = D.files.length:=by rw [← hp]; simp
 refine zAz _ _ _ _ _ ?_
 unfold zR
 unfold zI.append at hk
 replace h:=yH.opens h
 refine uV rfl ?_
 try simp only [yC,Nat.zero_add,Nat.reduceAdd]
 refine xL (x:=(some mb)) h rfl (by first | with_reducible exact M0 | with_reducible exact M1 | with_reducible exact M2 | with_reducible exact M3 | with_reducible exact M4 | with_reducible exact M5 | with_reducible exact M6 | with_reducible exact M7 | with_reducible exact M8 | with_reducible exact M9 | with_reducible exact M10 | with_reducible exact M11 | with_reducible exact M12) ?_ ?_
 ·exact rfl
 refine zH3 1 h at1 ?_
 refine xL (x:=D.a.down) h rfl (by first | with_reducible exact M0 | with_reducible exact M1 | with_reducible exact M2 | with_reducible exact M3 | with_reducible exact M4 | with_reducible exact M5 | with_reducible exact M6 | with_reducible exact M7 | with_reducible exact M8 | with_reducible exact M9 | with_reducible exact M10 | with_reducible exact M11 | with_reducible exact M12) ?_ ?_
 ·exact rfl
 refine yV (fun hb=>?_) (fun hb=>?_)
 ·rw [if_pos hb] at hk
  exact hk _ hD (zK.shuts rfl hp (yH.shuts h))
 rw [if_neg (by rw [hb]; simp)] at hk
 refine zDs h ?_
 cases hnm:named n with
 | false=>
  rw [if_pos hnm] at hk
  exact qJ rfl (hk _ hD (zK.shuts rfl hp (yH.shuts h)))
 | true=>
  rw [if_neg (by rw [hnm]; simp)] at hk
  refine zf rfl ?_
  have main:∀ (t:Bool) w,(t = true→za n D.files = none∧32 ≤ D.files.length)→(t = false→¬ (za n D.files = none∧32 ≤ D.files.length))→Holds B (yH d mb D.a fs::Γ) w→zR.s3 k ⟨d,0,none⟩ (bs n) data (zIV (za n fs)) (za n fs).isSome t w:=by
   intro t w ht1 ht2 h
   unfold zR.s3
   have full:((za n D.files = none∧32 ≤ D.files.length)∨D.a.room - yt D.files < x.length)→∀ w,Holds B (yH d mb D.a fs::Γ) w→k 2 w:=fun hc w h=>by
    rw [if_pos hc] at hk
    exact hk _ hD (zK.shuts rfl hp h)
   refine yV (fun hb2=>?_) (fun hb2=>?_)
   ·unfold zR.s2
    rw [hb2]
    exact qJ rfl (full (.inl (ht1 hb2)) _ h)
   replace h:=yH.opens h
   refine zDS h ?_
   clear h
   intro w h
   refine zBX h ?_
   refine zEM (x:=D.a.room) rfl (by first | with_reducible exact M0 | with_reducible exact M1 | with_reducible exact M2 | with_reducible exact M3 | with_reducible exact M4 | with_reducible exact M5 | with_reducible exact M6 | with_reducible exact M7 | with_reducible exact M8 | with_reducible exact M9 | with_reducible exact M10 | with_reducible exact M11 | with_reducible exact M12) ?_ ?_
   ·exact rfl
   refine zIY (by omega) (yH.shuts h) fun w h=>?_
   refine zH9 (yH.opens h) ?_
   rw [hux]
   refine qX (e':=D.a.room - yt D.files) (wrap64 (by have:=hD.room1; omega) (by omega)) ?_
   unfold zR.s2
   refine yV (fun hb3=>?_) (fun hb3=>?_)
   ·simp only [decide_eq_true_eq] at hb3
    exact full (.inr (by omega)) _ h
   simp only [decide_eq_false_iff_not] at hb3
   have hnf:¬ ((za n D.files = none∧32 ≤ D.files.length)∨D.a.room - yt D.files < x.length):=by
    rintro (hc | hc)
    ·exact ht2 hb2 hc
    ·omega
   rw [if_neg hnf] at hk
   simp only at hk
   cases hm:za n fs with
   | some y=>
    have hmD:=zBM hp hm
    have hdl:=jW hD hmD
    rw [hmD] at hk
    simp only [Option.getD_some] at hk
    have hul:y.f.data.length ≤ yt D.files:=by
     obtain ⟨l1,l2,h1,_⟩:=yU hmD
     have:=zEm (show (n,y.f) ∈ D.files by rw [h1]; simp)
     exact this
    have hsame:yQ n y.f D.files = D.files:=by
     obtain ⟨l1,l2,h1,h2,_⟩:=yU hmD
     rw [h2]; exact h1.symm
    refine zf rfl ?_
    refine zEp hD hD.left hm (by rw [hsame]; exact hp) (by omega) hr h fun w h=>hk _ ?_ h
    exact (hD.set (f':=⟨y.f.data++x,y.f.last⟩) hmD (by simp; omega) (by simp; omega)).chg
   | none=>
    have hmD:=zAE hp hm
    rw [hmD] at hk
    simp only [Option.getD_none,List.nil_append] at hk
    refine qJ rfl ?_
    refine vR h ?_
    clear h
    intro t52 w h
    try simp only [yC,Nat.zero_add,Nat.reduceAdd]
    have h1:=(h.jo zP 1)
    replace h:=h1
    replace h:=P1 h
    replace h:=P2 h
    try simp only [N1,N2,N3,N4,N5,N6,N7] at h
    replace h:=yH.opens h
    try simp only [yC,Nat.zero_add,Nat.reduceAdd]
    refine xL (x:=(some mb)) h rfl (by first | with_reducible exact M0 | with_reducible exact M1 | with_reducible exact M2 | with_reducible exact M3 | with_reducible exact M4 | with_reducible exact M5 | with_reducible exact M6 | with_reducible exact M7 | with_reducible exact M8 | with_reducible exact M9 | with_reducible exact M10 | with_reducible exact M11 | with_reducible exact M12) ?_ ?_
    ·exact rfl
    replace h:=P4 h
    replace h:=P4 h
    replace h:=P4 h
    replace h:=P3 h
    replace h:=P4 h
    try simp only [N1,N2,N3,N4,N5,N6,N7] at h
    refine zHt (enc:=xW) (cV:=fV) (a:=n) (v:=(⟨⟨[],0⟩,t52,⟨none,0,0⟩⟩:yE)) zEG jN h fun w h=>?_
    replace h:=P1 h
    replace h:=P2 h
    replace h:=P4 h
    replace h:=P4 h
    try simp only [N1,N2,N3,N4,N5,N6,N7] at h
    replace h:=zCV (n:=n) (x:=(⟨⟨[],0⟩,t52,⟨none,0,0⟩⟩:yE)) h
    replace h:=P2 h
    replace h:=P2 h
    try simp only [N1,N2,N3,N4,N5,N6,N7] at h
    have hpl:xU (yQ n (⟨⟨[],0⟩,t52,⟨none,0,0⟩⟩:yE) fs) = yQ n ⟨[],0⟩ D.files:=by
     rw [← hp]
     exact (zAe (fun x:yE=>x.f) n (⟨⟨[],0⟩,t52,⟨none,0,0⟩⟩:yE) fs).symm
    have hgm:za n (yQ n (⟨⟨[],0⟩,t52,⟨none,0,0⟩⟩:yE) fs) = some ⟨⟨[],0⟩,t52,⟨none,0,0⟩⟩:=by
     rw [vU hm]
     have key:∀ (m:List (List UInt8×yE)),za n m = none→∀ v,za n (m++[(n,v)]) = some v:=by
      intro m
      induction m with
      | nil=>intro _ v; simp [za]
      | cons p m ih=>
       intro hm v
       simp only [za] at hm
       split at hm
       ·cases hm
       ·rename_i hne
        simp only [List.cons_append,za,if_neg hne,ih hm]
     exact key _ hm _
    refine zEp (y:=(⟨⟨[],0⟩,t52,⟨none,0,0⟩⟩:yE)) hD hD.left hgm hpl (by simp; omega) hr (yH.shuts h) fun w h=>hk _ ?_ (by simpa using h)
    have hfew:D.files.length < 32:=by
     have:=ht2 hb2
     by_cases h32:32 ≤ D.files.length
     ·exact absurd ⟨hmD,h32⟩ this
     ·omega
    exact (hD.push (f:=⟨x,0⟩) hmD hfew (Nat.zero_le _) (by simp only; omega)).chg
  cases hm:za n fs with
  | none=>
   refine qJ rfl ?_
   refine xL (x:=(some mb)) h rfl (by first | with_reducible exact M0 | with_reducible exact M1 | with_reducible exact M2 | with_reducible exact M3 | with_reducible exact M4 | with_reducible exact M5 | with_reducible exact M6 | with_reducible exact M7 | with_reducible exact M8 | with_reducible exact M9 | with_reducible exact M10 | with_reducible exact M11 | with_reducible exact M12) ?_ ?_
   ·exact rfl
   refine zMw 1 zEG h at1 ?_
   have:=main (decide ((32:Int) ≤ (fs.length:Int))) w (fun ht=>⟨zAE hp hm,by simp only [decide_eq_true_eq] at ht; omega⟩) (fun ht=>by simp only [decide_eq_false_iff_not] at ht; omega) (yH.shuts h)
   rw [hm] at this
   exact this
  | some y=>
   refine zf rfl ?_
   have:=main false w (fun ht=>by cases ht) (fun _ hc=>by rw [zBM hp hm] at hc; cases hc.1) (yH.shuts h)
   rw [hm] at this
   exact this
end
end
section
open Go Go.Sep
def zI.names (D:zI):List (List UInt8):=uT (D.files.map Prod.fst)
def zI.file (D:zI) (n:List UInt8):qP:=(za n D.files).getD ⟨[],0⟩
def kinds (f:qP):Nat:=f.data.length - f.last + 1
def uQ (keeps:List Int) (i:Nat) (f:qP):Nat:=match keeps[i]? with
 | none=>0
 | some k=>((k.tmod (kinds f) + kinds f).tmod (kinds f)).toNat
theorem zCW (keeps:List Int) (i:Nat) (f:qP):uQ keeps i f ≤ f.data.length - f.last:=by
 unfold uQ
 split
 ·exact Nat.zero_le _
 ·rename_i k _
  have hk:(0:Int) < kinds f:=by unfold kinds; omega
  have:=Int.tmod_lt_of_pos (k.tmod (kinds f) + kinds f) hk
  unfold kinds at *
  omega
def xV (keeps:List Int) (i:Nat) (f:qP):qP:=⟨f.data.take (f.last + uQ keeps i f),f.last + uQ keeps i f⟩
def qw (keeps:List Int) (g:List UInt8→qP) (ns:List (List UInt8)):Files:=ns.zipIdx.map fun p=>(p.1,xV keeps p.2 (g p.1))
def zI.crash (D:zI) (keeps:List Int):zI:=⟨⟨D.a.room,-1,false⟩,qw keeps D.file D.names⟩
theorem zBN (keeps:List Int) (g:List UInt8→qP) (ns:List (List UInt8)):(qw keeps g ns).map Prod.fst = ns:=by
 unfold qw
 rw [List.map_map]
 have:(Prod.fst ∘ fun p:List UInt8×Nat=>(p.1,xV keeps p.2 (g p.1))) = Prod.fst:=rfl
 rw [this,List.zipIdx_map_fst]
theorem zHG (keeps:List Int) (g:List UInt8→qP) (ns:List (List UInt8)):(qw keeps g ns).length = ns.length:=by simp [qw]
theorem zGZ (keeps:List Int) (g:List UInt8→qP) (ns:List (List UInt8)) (n:List UInt8):qw keeps g (ns++[n]) = qw keeps g ns++[(n,xV keeps ns.length (g n))]:=by
 unfold qw
 rw [List.zipIdx_append,List.map_append]
 simp
theorem zDu {α β:Type} [DecidableEq α] {k:α} {x:β} {m:List (α×β)} (h:za k m = some x):(k,x) ∈ m:=by
 obtain ⟨l1,l2,h1,_⟩:=yU h
 rw [h1]; simp
theorem zAi {α β:Type} [DecidableEq α] {p:α×β}:∀ {m:List (α×β)},(m.map Prod.fst).Nodup→p ∈ m→za p.1 m = some p.2
 | [],_,h=>by cases h
 | q::m,hn,h=>by
  simp only [List.map_cons,List.nodup_cons] at hn
  rcases List.mem_cons.1 h with rfl | h
  ·simp [za]
  ·have:p.1 ≠ q.1:=fun e=>hn.1 (by rw [← e]; exact List.mem_map_of_mem h)
   simp only [za,if_neg this]
   exact zAi hn.2 h
theorem jw {α β:Type} [DecidableEq α] {k:α} {m:List (α×β)} (h:k ∈ m.map Prod.fst):∃ x,za k m = some x:=by
 cases hm:za k m with
 | some x=>exact ⟨x,rfl⟩
 | none=>
  obtain ⟨p,hp,rfl⟩:=List.mem_map.1 h
  exact absurd rfl (zA8 hm p hp)
theorem zCX {D:zI} {n:List UInt8}:n ∈ D.names ↔ n ∈ D.files.map Prod.fst:=zIU
theorem zEq (D:zI):D.names.length = D.files.length:=by unfold zI.names; rw [zIT]; simp
theorem zAj {D:zI} (h:OkD D):D.names.Nodup:=(List.mergeSort_perm _ _).nodup_iff.2 h.nodup
def zDv (g:List UInt8→qP):List (List UInt8)→Nat
 | []=>0
 | n::ns=>(g n).data.length + zDv g ns
theorem zIZ {g:List UInt8→qP} {a b:List (List UInt8)} (h:a.Perm b):zDv g a = zDv g b:=by
 induction h with
 | nil=>rfl
 | cons x _ ih=>simp only [zDv,ih]
 | swap x y l=>simp only [zDv]; omega
 | trans _ _ ih1 ih2=>rw [ih1,ih2]
theorem zHH {D:zI} (h:OkD D):zDv D.file (D.files.map Prod.fst) = yt D.files:=by
 have key:∀ fs:Files,(∀ p ∈ fs,D.file p.1 = p.2)→zDv D.file (fs.map Prod.fst) = yt fs:=by
  intro fs
  induction fs with
  | nil=>intro _; rfl
  | cons p fs ih=>
   intro hp
   simp only [List.map_cons,zDv,yt,hp p List.mem_cons_self,ih (fun q hq=>hp q (List.mem_cons_of_mem _ hq))]
 refine key _ fun p hp=>?_
 unfold zI.file
 rw [zAi h.nodup hp]; rfl
theorem zCs (keeps:List Int) (g:List UInt8→qP):∀ (ns:List (List UInt8)) (i:Nat),yt ((ns.zipIdx i).map fun p=>(p.1,xV keeps p.2 (g p.1))) ≤ zDv g ns
 | [],_=>Nat.le_refl _
 | n::ns,i=>by
  have:=zCs keeps g ns (i + 1)
  simp only [List.zipIdx_cons,List.map_cons,yt,zDv,xV,List.length_take] at this ⊢
  omega
theorem zIa {D:zI} (h:OkD D) (n:List UInt8):(D.file n).last ≤ (D.file n).data.length:=by
 unfold zI.file
 cases hm:za n D.files with
 | none=>simp
 | some f=>exact (jW h hm).2
theorem OkD.crash {D:zI} (h:OkD D) (keeps:List Int):OkD (D.crash keeps):=by
 have hnd:=zAj h
 refine ⟨h.room1,h.roomN,?_,?_,⟨show (-9223372036854775808:Int) < -1 by decide,show (-1:Int) ≤ 9223372036854775807 by decide⟩,?_,?_⟩
 ·have h1:=zCs keeps D.file D.names 0
  have h2:zDv D.file D.names = yt D.files:=(zIZ (List.mergeSort_perm _ _)).trans (zHH h)
  have h3:=h.used
  simp only [zI.crash,qw]
  omega
 ·simp only [zI.crash,zHG,zEq]; exact h.few
 ·intro p hp
  simp only [zI.crash,qw] at hp
  obtain ⟨q,_,rfl⟩:=List.mem_map.1 hp
  have h1:=zCW keeps q.2 (D.file q.1)
  have h2:=zIa h q.1
  simp only [xV,List.length_take]
  omega
 ·simp only [zI.crash,zBN]; exact hnd
section
variable {B w:World} {Γ:List zC}
theorem zHI {d:Nat} {D:zI} {k:Sl→K} (hD:OkD D) (h:Holds B (zK d D::Γ) w) (hk:∀ s w,Holds B (SlS s D.names::zK d D::Γ) w→k s w):qy.call (some ⟨d,0,none⟩) k w:=by
 obtain ⟨mb,fs,hp,h⟩:=zK.opens h
 have hfl:fs.length = D.files.length:=by rw [← hp]; simp
 have hfew:=hD.few
 refine zBH _ _ _ ?_
 unfold qy
 replace h:=yH.opens h
 refine uV rfl ?_
 try simp only [yC,Nat.zero_add,Nat.reduceAdd]
 refine xL (x:=(some mb)) h rfl (by first | with_reducible exact M0 | with_reducible exact M1 | with_reducible exact M2 | with_reducible exact M3 | with_reducible exact M4 | with_reducible exact M5 | with_reducible exact M6 | with_reducible exact M7 | with_reducible exact M8 | with_reducible exact M9 | with_reducible exact M10 | with_reducible exact M11 | with_reducible exact M12) ?_ ?_
 ·exact rfl
 replace h:=P2 h
 replace h:=P1 h
 replace h:=P2 h
 try simp only [N1,N2,N3,N4,N5,N6,N7] at h
 refine zCT (by omega) h fun s w h=>?_
 have e:fs.map Prod.fst = D.files.map Prod.fst:=by rw [← hp]; simp [xU]
 rw [e] at h
 replace h:=P3 h
 replace h:=P2 h
 replace h:=P3 h
 try simp only [N1,N2,N3,N4,N5,N6,N7] at h
 exact hk s _ (zK.shuts rfl hp (yH.shuts h)).swap
theorem zHJ {d:Nat} {D:zI} {keeps:Sl} {ks:List Int} {k:Option Addr→K} (hD:OkD D) (h:Holds B (zK d D::Γ) w) (hr:∀ w,Holds B Γ w→RdC w keeps 1 (ks.map (Value.int .i64)))
  (hk:∀ o w,Holds B (zK o (D.crash ks)::zK d D::Γ) w→k (some ⟨o,0,none⟩) w):zw.call (some ⟨d,0,none⟩) keeps k w:=by
 have hkn:ks.length = keeps.n:=by have:=(hr w h.tail).len; simpa using this
 obtain ⟨mb,fs,hp,h⟩:=zK.opens h
 refine zBG _ _ _ _ ?_
 unfold zw
 replace h:=yH.opens h
 refine uV rfl ?_
 refine xL (x:=D.a.room) h rfl (by first | with_reducible exact M0 | with_reducible exact M1 | with_reducible exact M2 | with_reducible exact M3 | with_reducible exact M4 | with_reducible exact M5 | with_reducible exact M6 | with_reducible exact M7 | with_reducible exact M8 | with_reducible exact M9 | with_reducible exact M10 | with_reducible exact M11 | with_reducible exact M12) ?_ ?_
 ·exact rfl
 refine zHs (d:=.string) (E:=xq) (enc:=xW) (cV:=fV) h fun mo w h=>?_
 refine vR h ?_
 clear h
 intro out w h
 try simp only [yC,Nat.zero_add,Nat.reduceAdd]
 replace h:=P1 h
 replace h:=P1 h
 replace h:=P4 h
 replace h:=P4 h
 replace h:=P4 h
 try simp only [N1,N2,N3,N4,N5,N6,N7] at h
 have h1:=zK.shuts (D:=D) rfl hp (yH.shuts h)
 refine zHI hD h1 fun t20 w h=>?_
 clear h1
 have hnl:=zEq D
 have hfew:=hD.few
 have hnd:=zAj hD
 have hO:Holds B (zK out ⟨⟨D.a.room,-1,false⟩,qw ks D.file (D.names.take 0)⟩::SlS t20 D.names::zK d D::Γ) w:=by
  have h5:=h.jh
  replace h:=h5
  replace h:=P2 h
  replace h:=P2 h
  replace h:=P2 h
  replace h:=P4 h
  replace h:=P4 h
  try simp only [N1,N2,N3,N4,N5,N6,N7] at h
  exact zK.shuts (D:=⟨⟨D.a.room,-1,false⟩,_⟩) (mb:=mo) (fs:=[]) rfl rfl (yH.shuts h)
 clear h
 have hsn:D.names.length = t20.n:=by have:=(hO.pick 1 at1).jK.1; simpa using this
 refine yR.of (fun t w=>∃ i:Nat,t = (i:Int)∧i ≤ D.names.length∧Holds B (zK out ⟨⟨D.a.room,-1,false⟩,qw ks D.file (D.names.take i)⟩::SlS t20 D.names::zK d D::Γ) w) (fun t _=>((t20.n:Int) - t).toNat) ⟨0,rfl,by omega,hO⟩ ?_
 clear hO hp
 rintro t w ⟨i,rfl,hi,h⟩
 unfold zw.b1
 refine yV (fun hb=>?_) (fun hb=>?_)
 ·simp only [decide_eq_true_eq] at hb
  have hx:D.names[i]? = some D.names[i]:=List.getElem?_eq_getElem (by omega)
  generalize hN:D.names[i] = n at hx
  have hnm:n ∈ D.files.map Prod.fst:=zCX.1 (List.mem_of_getElem? hx)
  have hrd:RdC w t20 1 ((D.names.map bs).map Value.string):=by
   have:=h.rdC (E:=qY) (esz:=1) (s:=t20) (vs:=D.names.map xW) (List.mem_cons_of_mem _ List.mem_cons_self)
   rw [List.map_map]
   exact this
  refine zDe hrd (x:=bs n) (by rw [List.getElem?_map,hx]; rfl) ?_
  replace h:=P1 h
  replace h:=P1 h
  replace h:=P2 h
  try simp only [N1,N2,N3,N4,N5,N6,N7] at h
  obtain ⟨mb,fs,hp,h⟩:=zK.opens h
  replace h:=yH.opens h
  try simp only [yC,Nat.zero_add,Nat.reduceAdd]
  refine xL (x:=(some mb)) h rfl (by first | with_reducible exact M0 | with_reducible exact M1 | with_reducible exact M2 | with_reducible exact M3 | with_reducible exact M4 | with_reducible exact M5 | with_reducible exact M6 | with_reducible exact M7 | with_reducible exact M8 | with_reducible exact M9 | with_reducible exact M10 | with_reducible exact M11 | with_reducible exact M12) ?_ ?_
  ·exact rfl
  refine zK8 1 h at1 ?_
  obtain ⟨f,hf⟩:=jw hnm
  have hfx:∃ x,za n fs = some x∧x.f = f:=by
   rw [← hp,zBL] at hf
   cases hm:za n fs with
   | none=>rw [hm] at hf; cases hf
   | some x=>rw [hm] at hf; simp only [Option.map_some,Option.some.injEq] at hf; exact ⟨x,rfl,hf⟩
  obtain ⟨x,hx2,rfl⟩:=hfx
  have hDf:D.file n = x.f:=by unfold zI.file; rw [hf]; rfl
  have hdl:=jW hD hf
  rw [hx2]
  have hkl:=zCW ks i x.f
  have main:∀ w,Holds B (yH d mb D.a fs::zK out ⟨⟨D.a.room,-1,false⟩,qw ks D.file (D.names.take i)⟩::SlS t20 D.names::Γ) w →
    zw.s2 k (fun t w'=>(∃ i:Nat,t = (i:Int)∧i ≤ D.names.length∧Holds B (zK out ⟨⟨D.a.room,-1,false⟩,qw ks D.file (D.names.take i)⟩::SlS t20 D.names::zK d D::Γ) w')∧((t20.n:Int) - t).toNat < ((t20.n:Int) - (i:Int)).toNat) ⟨d,0,none⟩ keeps ⟨out,0,none⟩ (bs n) (some ⟨x.p,0,none⟩) (uQ ks i x.f:Int) t20 (t20.n:Int) (i:Int) w:=by
   intro w h
   unfold zw.s2
   refine uV rfl ?_
   obtain ⟨l1,l2,e1,hms,_⟩:=yU hx2
   rw [e1] at h hp
   replace h:=vO h
   try simp only [yC,Nat.zero_add,Nat.reduceAdd]
   refine xL (x:=(x.f.last:Int)) h rfl (by first | with_reducible exact M0 | with_reducible exact M1 | with_reducible exact M2 | with_reducible exact M3 | with_reducible exact M4 | with_reducible exact M5 | with_reducible exact M6 | with_reducible exact M7 | with_reducible exact M8 | with_reducible exact M9 | with_reducible exact M10 | with_reducible exact M11 | with_reducible exact M12) ?_ ?_
   ·exact rfl
   refine qX (e':=((x.f.last + uQ ks i x.f:Nat):Int)) (by rw [wrap64 (by omega) (by omega)]; omega) ?_
   replace h:=P7 h
   replace h:=P6 h
   replace h:=P6 h
   replace h:=P6 h
   replace h:=P6 h
   replace h:=P6 h
   replace h:=P6 h
   replace h:=P7 h
   try simp only [N1,N2,N3,N4,N5,N6,N7] at h
   obtain ⟨mo,fo,hpo,h⟩:=zK.opens h
   replace h:=yH.opens h
   have hxs:=Bytes.len (h.pick 4 at4)
   have hsc:=(h.pick 4 at4).jK
   refine zDS h ?_
   clear h
   intro w h
   refine zBX h ?_
   try simp only [yC,Nat.zero_add,Nat.reduceAdd]
   refine zEM (x:=(some mo)) rfl (by first | with_reducible exact M0 | with_reducible exact M1 | with_reducible exact M2 | with_reducible exact M3 | with_reducible exact M4 | with_reducible exact M5 | with_reducible exact M6 | with_reducible exact M7 | with_reducible exact M8 | with_reducible exact M9 | with_reducible exact M10 | with_reducible exact M11 | with_reducible exact M12) ?_ ?_
   ·exact rfl
   refine zEM (x:=x.s) rfl (by first | with_reducible exact M0 | with_reducible exact M1 | with_reducible exact M2 | with_reducible exact M3 | with_reducible exact M4 | with_reducible exact M5 | with_reducible exact M6 | with_reducible exact M7 | with_reducible exact M8 | with_reducible exact M9 | with_reducible exact M10 | with_reducible exact M11 | with_reducible exact M12) ?_ ?_
   ·exact rfl
   refine ⟨_,by omega,by omega,by omega,by omega,rfl,?_⟩
   simp only [Int.toNat_natCast,show (0:Int).toNat = 0 from rfl,zMg hsc.2.2.1,Nat.sub_zero]
   have htl:(x.f.data.take (x.f.last + uQ ks i x.f)).length ≤ 1000000000:=by simp; omega
   refine qb (xs:=x.f.data.take (x.f.last + uQ ks i x.f)) h (fun w h=>zJi (Bytes.rd (s:=x.s) (xs:=x.f.data) h (by first | with_reducible exact M0 | with_reducible exact M1 | with_reducible exact M2 | with_reducible exact M3 | with_reducible exact M4 | with_reducible exact M5 | with_reducible exact M6 | with_reducible exact M7 | with_reducible exact M8 | with_reducible exact M9 | with_reducible exact M10 | with_reducible exact M11 | with_reducible exact M12)) (by omega)) htl fun t75 w h _=>?_
   refine zH9 h.tail ?_
   refine vR h ?_
   clear h
   intro t78 w h
   try simp only [yC,Nat.zero_add,Nat.reduceAdd]
   refine zH9 h.tail.tail ?_
   replace h:=P10 h
   replace h:=P10 h
   replace h:=P10 h
   replace h:=P10 h
   replace h:=P10 h
   replace h:=P10 h
   replace h:=P10 h
   replace h:=P9 h
   replace h:=P9 h
   replace h:=P9 h
   replace h:=P10 h
   try simp only [N1,N2,N3,N4,N5,N6,N7] at h
   refine zHt (enc:=xW) (cV:=fV) (a:=n) (v:=(⟨xV ks i x.f,t78,t75⟩:yE)) zEG jN h fun w h=>?_
   replace h:=P10 h
   replace h:=P10 h
   replace h:=P10 h
   replace h:=P10 h
   replace h:=P10 h
   replace h:=P10 h
   replace h:=P6 h
   replace h:=P9 h
   replace h:=P10 h
   replace h:=P10 h
   replace h:=P10 h
   try simp only [N1,N2,N3,N4,N5,N6,N7] at h
   replace h:=zCV (n:=n) (x:=(⟨xV ks i x.f,t78,t75⟩:yE)) h
   replace h:=P8 h
   replace h:=P8 h
   replace h:=P8 h
   replace h:=P8 h
   replace h:=P8 h
   replace h:=P8 h
   replace h:=P6 h
   replace h:=P8 h
   replace h:=P8 h
   try simp only [N1,N2,N3,N4,N5,N6,N7] at h
   have hout:=zK.shuts (D:=⟨⟨D.a.room,-1,false⟩,qw ks D.file (D.names.take (i + 1))⟩) (a:=⟨D.a.room,-1,false⟩) (mb:=mo) (fs:=yQ n (⟨xV ks i x.f,t78,t75⟩:yE) fo) rfl (by
    show xU (yQ n (⟨xV ks i x.f,t78,t75⟩:yE) fo) = qw ks D.file (D.names.take (i + 1))
    have e2:=(zAe (fun x:yE=>x.f) n (⟨xV ks i x.f,t78,t75⟩:yE) fo).symm
    have e3:xU (yQ n (⟨xV ks i x.f,t78,t75⟩:yE) fo) = yQ n (xV ks i x.f) (xU fo):=e2
    rw [e3,hpo]
    have hlt:i < D.names.length:=by omega
    have e4:D.names.take (i + 1) = D.names.take i++[n]:=by rw [List.take_succ_eq_append_getElem hlt,hN]
    rw [e4,zGZ,List.length_take,Nat.min_eq_left (by omega),hDf]
    refine vU ?_
    cases hm:za n (qw ks D.file (D.names.take i)) with
    | none=>rfl
    | some y=>
     exfalso
     have h1:=List.mem_map_of_mem (f:=Prod.fst) (zDu hm)
     rw [zBN] at h1
     rw [← List.take_append_drop i D.names,List.nodup_append] at hnd
     have h2:n ∈ D.names.drop i:=by
      rw [← hN]
      exact List.mem_of_getElem? (i:=0) (by rw [List.getElem?_drop]; simp [List.getElem?_eq_getElem hlt])
     exact hnd.2.2 n h1 n h2 rfl) (yH.shuts h)
   refine jT (by omega) (by omega) ?_
   refine ⟨⟨i + 1,by omega,by omega,?_⟩,by omega⟩
   replace h:=hout
   replace h:=P7 h
   replace h:=P1 h
   replace h:=P7 h
   replace h:=P7 h
   replace h:=P7 h
   replace h:=P7 h
   replace h:=P7 h
   replace h:=P7 h
   try simp only [N1,N2,N3,N4,N5,N6,N7] at h
   have h6:=zK.shuts (D:=D) rfl hp (vW h)
   replace h:=h6
   replace h:=P2 h
   replace h:=P2 h
   try simp only [N1,N2,N3,N4,N5,N6,N7] at h
   exact h
  refine yV (fun hb2=>?_) (fun hb2=>?_)
  ·simp only [decide_eq_true_eq] at hb2
   have hkx:ks[i]? = some ks[i]:=List.getElem?_eq_getElem (by omega)
   generalize ks[i] = kv at hkx
   refine zDS h ?_
   clear h
   intro w h
   refine uV rfl ?_
   obtain ⟨l1,l2,e1,hms,_⟩:=yU hx2
   rw [e1] at h hp
   replace h:=vO (yH.shuts h)
   have hxs:=Bytes.len h.tail
   try simp only [yC,Nat.zero_add,Nat.reduceAdd]
   refine xL (x:=x.s) h rfl (by first | with_reducible exact M0 | with_reducible exact M1 | with_reducible exact M2 | with_reducible exact M3 | with_reducible exact M4 | with_reducible exact M5 | with_reducible exact M6 | with_reducible exact M7 | with_reducible exact M8 | with_reducible exact M9 | with_reducible exact M10 | with_reducible exact M11 | with_reducible exact M12) ?_ ?_
   ·exact rfl
   refine xL (x:=(x.f.last:Int)) h rfl (by first | with_reducible exact M0 | with_reducible exact M1 | with_reducible exact M2 | with_reducible exact M3 | with_reducible exact M4 | with_reducible exact M5 | with_reducible exact M6 | with_reducible exact M7 | with_reducible exact M8 | with_reducible exact M9 | with_reducible exact M10 | with_reducible exact M11 | with_reducible exact M12) ?_ ?_
   ·exact rfl
   have hki:(kinds x.f:Int) = x.f.data.length - x.f.last + 1:=by unfold kinds; omega
   refine qX (e':=(x.f.data.length:Int) - x.f.last) (by rw [wrap64 (by omega) (by omega)]; omega) ?_
   refine qX (e':=(kinds x.f:Int)) (by rw [wrap64 (by omega) (by omega)]; omega) ?_
   have hrk:=hr _ h.tail.tail.tail.tail.tail.tail.tail.tail
   refine zDe hrk hkx ?_
   have hkp:(0:Int) < kinds x.f:=by omega
   have hb1:=Int.tmod_lt_of_pos kv hkp
   have hb2:-(kinds x.f:Int) < kv.tmod (kinds x.f):=by
    have:=Int.tmod_lt_of_pos (-kv) hkp
    rw [Int.neg_tmod] at this
    omega
   refine zD6 (by omega) ?_
   refine qX rfl ?_
   refine qX (e':=kv.tmod (kinds x.f) + kinds x.f) (wrap64 (by omega) (by omega)) ?_
   refine zD6 (by omega) ?_
   have hnn:=Int.tmod_nonneg (kinds x.f:Int) (show 0 ≤ kv.tmod (kinds x.f) + kinds x.f by omega)
   refine qX (e':=(uQ ks i x.f:Int)) (by unfold uQ; rw [hkx]; simp only; omega) ?_
   have h7:=vW h
   rw [← e1] at h7
   exact main _ h7
  ·simp only [decide_eq_false_iff_not] at hb2
   have hk0:uQ ks i x.f = 0:=by unfold uQ; rw [List.getElem?_eq_none (by omega)]
   rw [hk0] at main
   exact main _ (yH.shuts h)
 ·simp only [decide_eq_false_iff_not] at hb
  have hti:D.names.take i = D.names:=List.take_of_length_le (by omega)
  rw [hti] at h
  exact hk out _ (h.del 1 at1)
end
end
section
open Go Go.Sep
section
variable {B w:World} {Γ:List zC}
theorem zHK {d:Nat} {D:zI} {c:Int} {k:K} (h:Holds B (zK d D::Γ) w) (hk:∀ w,Holds B (zK d { D with a:={ D.a with left:=if -1 > c then -1 else c } }::Γ) w→k w):qx.call (some ⟨d,0,none⟩) c k w:=by
 obtain ⟨mb,fs,hp,h⟩:=zK.opens h
 replace h:=yH.opens h
 refine zBF _ _ _ _ ?_
 unfold qx
 refine qX rfl ?_
 refine uV rfl ?_
 try simp only [yC,Nat.zero_add,Nat.reduceAdd]
 first | refine S0 h rfl ?_ rfl ?_ | refine S1 h rfl ?_ rfl ?_ | refine S2 h rfl ?_ rfl ?_ | refine S3 h rfl ?_ rfl ?_ | refine S4 h rfl ?_ rfl ?_ | refine S5 h rfl ?_ rfl ?_ | refine S6 h rfl ?_ rfl ?_ | refine S7 h rfl ?_ rfl ?_ | refine S8 h rfl ?_ rfl ?_
 ·first | exact Nat.lt_of_ble_eq_true rfl | (simp; done) | (simp; omega)
 clear h
 intro w h
 try simp only [N1,N2,N3,N4,N5,N6,N7] at h
 refine hk _ (zK.shuts (a:={ D.a with left:=if -1 > c then -1 else c }) (mb:=mb) (fs:=fs) rfl hp (yH.shuts h))
theorem zGa {d:Nat} {D:zI} {n m:List UInt8} {k:Int→K} (hD:OkD D) (h:Holds B (zK d D::Γ) w) (hk:∀ w,OkD (D.rename n m).1→Holds B (zK d (D.rename n m).1::Γ) w→k (D.rename n m).2 w):zH.call (some ⟨d,0,none⟩) (bs n) (bs m) k w:=by
 obtain ⟨mb,fs,hp,h⟩:=zK.opens h
 refine zA0 _ _ _ _ _ ?_
 unfold zH
 unfold zI.rename at hk
 refine find_spec h (fun hd w h=>?_) (fun hd hx w h=>?_) (fun x hd hx w h=>?_)
 ·rw [if_pos hd] at hk
  refine zf rfl ?_
  unfold zH.s4 zH.s1 zH.s2 zH.s3
  exact zf rfl (zf rfl (zf rfl (hk _ hD (zK.shuts rfl hp h))))
 ·rw [if_neg (by rw [hd]; simp),zAE hp hx] at hk
  refine zf rfl ?_
  unfold zH.s4 zH.s1 zH.s2 zH.s3
  exact zf rfl (zf rfl (zf rfl (hk _ hD (zK.shuts rfl hp h))))
 ·have hm:=zBM hp hx
  rw [if_neg (by rw [hd]; simp),hm] at hk
  simp only at hk
  refine qJ rfl ?_
  refine zDs h ?_
  unfold zH.s4 zH.s1
  cases hnm:named m with
  | false=>
   rw [if_pos hnm] at hk
   refine qJ rfl (zf rfl ?_)
   unfold zH.s2 zH.s3
   exact zf rfl (hk _ hD (zK.shuts rfl hp h))
  | true=>
   rw [if_neg (by rw [hnm]; simp)] at hk
   refine zf rfl (qJ rfl ?_)
   refine uU hD.left h fun w h=>?_
   unfold zH.s2 zH.s3
   refine yV (fun hb=>?_) (fun hb=>?_)
   ·simp only [decide_eq_true_eq] at hb
    rw [if_pos hb] at hk
    obtain ⟨l1,l2,e1,hms,hmd,_⟩:=yU hx
    replace h:=yH.opens h
    refine uV rfl ?_
    try simp only [yC,Nat.zero_add,Nat.reduceAdd]
    refine xL (x:=(some mb)) h rfl (by first | with_reducible exact M0 | with_reducible exact M1 | with_reducible exact M2 | with_reducible exact M3 | with_reducible exact M4 | with_reducible exact M5 | with_reducible exact M6 | with_reducible exact M7 | with_reducible exact M8 | with_reducible exact M9 | with_reducible exact M10 | with_reducible exact M11 | with_reducible exact M12) ?_ ?_
    ·exact rfl
    replace h:=P2 h
    replace h:=P1 h
    replace h:=P2 h
    try simp only [N1,N2,N3,N4,N5,N6,N7] at h
    refine zEe (enc:=xW) (cV:=fV) (a:=n) zEG jN h fun w h=>?_
    rw [e1] at h hp hx hms hmd
    rw [hmd] at h
    try simp only [yC,Nat.zero_add,Nat.reduceAdd]
    refine xL (x:=(some mb)) h rfl (by first | with_reducible exact M0 | with_reducible exact M1 | with_reducible exact M2 | with_reducible exact M3 | with_reducible exact M4 | with_reducible exact M5 | with_reducible exact M6 | with_reducible exact M7 | with_reducible exact M8 | with_reducible exact M9 | with_reducible exact M10 | with_reducible exact M11 | with_reducible exact M12) ?_ ?_
    ·exact rfl
    refine zHt (enc:=xW) (cV:=fV) (a:=m) (v:=x) zEG jN h fun w h=>?_
    replace h:=P1 h
    replace h:=P2 h
    try simp only [N1,N2,N3,N4,N5,N6,N7] at h
    replace h:=jO h
    replace h:=zCV (n:=m) (zHF h)
    replace h:=P2 h
    replace h:=P2 h
    try simp only [N1,N2,N3,N4,N5,N6,N7] at h
    obtain ⟨g1,g2,g3,g4⟩:=hD.del hm
    have hfew:=hD.few
    have hus:=hD.used
    refine hk _ (g1.put (n:=m) (f:=x.f) (by simp only; omega) (jW hD hm).2 (by simp only; omega)).chg (zK.shuts (mb:=mb) (fs:=yQ m x (l1++l2)) rfl ?_ (yH.shuts h))
    show xU (yQ m x (l1++l2)) = yQ m x.f (xJ n D.files)
    rw [← hp,← hmd]
    have e2:=zDn (fun x:yE=>x.f) n (l1++(n,x)::l2)
    have e3:=zAe (fun x:yE=>x.f) m x (xJ n (l1++(n,x)::l2))
    exact e3.symm.trans (by rw [← e2])
   ·simp only [decide_eq_false_iff_not] at hb
    rw [if_neg hb] at hk
    exact hk _ hD.chg (zK.shuts rfl hp h)
end
end
section
open Go Go.Sep
def zk (n:List UInt8):List UInt8:=n++[126]
def zJw (D:zI) (n:List UInt8):zI×Int:=D.rename (zk n) n
def zH4 (D:zI) (n:List UInt8):zI×Int:=if (D.sync (zk n)).2 ≠ 0 then D.sync (zk n) else zJw (D.sync (zk n)).1 n
def zGb (D:zI) (n x:List UInt8):zI×Int:=if (D.append (zk n) (yG x)).2 ≠ 0 then D.append (zk n) (yG x) else zH4 (D.append (zk n) (yG x)).1 n
def zI.save (D:zI) (n x:List UInt8):zI×Int:=if n = []∨15 < n.length then (D,1) else
 if (D.remove (zk n)).2 ≠ 0∧(D.remove (zk n)).2 ≠ 60 then D.remove (zk n) else zGb (D.remove (zk n)).1 n x
theorem zMx (a b:List UInt8):bs a++bs b = bs (a++b):=by
 apply ByteArray.ext
 rw [ByteArray.data_append]
 simp [bs]
theorem zBz:∀ (n:Nat) (b:List UInt8),b.length = n→(qc b).length = b.length + 6 * ((b.length + 1023) / 1024):=by
 intro n
 induction n using Nat.strongRecOn with
 | _ n ih=>
  intro b hb
  by_cases h:b = []
  ·subst h; rw [vV]; rfl
  ·have hp:0 < b.length:=List.length_pos_iff.2 h
   rw [xE h,List.length_append,yj]
   have:=ih (b.drop 1024).length (by simp; omega) _ rfl
   simp only [List.length_drop,List.length_take] at this ⊢
   omega
theorem pk {x:List UInt8} (h:x.length ≤ 5000):(yG x).length ≤ 5040:=by
 have h2:=zBz _ x rfl
 have h3:=xP 2 x.length (by omega)
 unfold yG
 rw [List.length_append,yj]
 omega
theorem okN {room:Int} (h1:1 ≤ room) (h2:room ≤ 1048576):OkD (.new room):=⟨h1,h2,by show ((0:Nat):Int) ≤ room; omega,by simp [zI.new],⟨show (-9223372036854775808:Int) < -1 by decide,show (-1:Int) ≤ 9223372036854775807 by decide⟩,by simp [zI.new],by simp [zI.new]⟩
section
variable {B w:World} {Γ:List zC} {d:Nat} {D:zI} {n x:List UInt8}
theorem zDw {body:Sl} {k:Int→K} (hD:OkD D) (hx:x.length ≤ 10000) (hcap:body.n ≤ body.c) (h:Holds B (zK d D::Γ) w) (hr:∀ w,Holds B Γ w→RdB w body x)
  (hk:∀ w,OkD (D.save n x).1→Holds B (zK d (D.save n x).1::Γ) w→k (D.save n x).2 w):yT.call (some ⟨d,0,none⟩) (bs n) body k w:=by
 refine zFT _ _ _ _ _ ?_
 unfold yT
 have hsz:((bs n).size:Int) = n.length:=by simp [bs,ByteArray.size]
 have hpl:=zCq (b:=x) (by omega)
 rw [uL]
 have e0:(⟨#[]⟩:ByteArray).toList = []:=uL []
 rw [e0]
 unfold zI.save at hk
 have s1:∀ t,t = decide (n = []∨15 < n.length)→yT.s1 k (some ⟨d,0,none⟩) (bs n) body t w:=by
  rintro t rfl
  unfold yT.s1
  refine yV (fun ht=>?_) (fun ht=>?_)
  ·rw [if_pos (by simpa using ht)] at hk
   exact hk _ hD h
  ·simp only [decide_eq_false_iff_not] at ht
   rw [if_neg ht] at hk
   refine ⟨bs (zk n),?_,(zMx n [126]).symm,?_⟩
   ·have h1:(ByteArray.mk #[126]).size = 1:=rfl
    rw [h1]
    omega
   refine zCr (n:=zk n) hD h fun w hD h=>?_
   have s2:∀ t,t = decide ((D.remove (zk n)).2 ≠ 0∧(D.remove (zk n)).2 ≠ 60)→yT.s2 k (some ⟨d,0,none⟩) (bs n) body (bs (zk n)) (D.remove (zk n)).2 t w:=by
    rintro t rfl
    unfold yT.s2
    refine yV (fun hq=>?_) (fun hq=>?_)
    ·rw [if_pos (by simpa using hq)] at hk
     exact hk _ hD h
    ·rw [if_neg (by simpa only [decide_eq_false_iff_not] using hq)] at hk
     refine zAh (xs:=x) (by omega) hcap h (fun w h=>hr w h.tail) fun f w h=>?_
     refine zGY (n:=zk n) (x:=yG x) hD (by omega) h.swap (fun w h=>Bytes.rd h List.mem_cons_self) fun w hD h=>?_
     unfold zGb at hk
     refine yV (fun hq=>?_) (fun hq=>?_)
     ·rw [if_pos (by simpa using hq)] at hk
      exact hk _ hD (h.del 1 at1)
     ·rw [if_neg (by simpa using hq)] at hk
      refine zIX (n:=zk n) hD h fun w hD h=>?_
      unfold zH4 at hk
      refine yV (fun hq=>?_) (fun hq=>?_)
      ·rw [if_pos (by simpa using hq)] at hk
       exact hk _ hD (h.del 1 at1)
      ·rw [if_neg (by simpa using hq)] at hk
       exact zGa (n:=zk n) (m:=n) hD h fun w hD h=>hk _ hD (h.del 1 at1)
   refine yV (fun hq=>?_) (fun hq=>?_)
   ·simp only [decide_eq_true_eq] at hq
    exact s2 _ (by simp [hq])
   ·simp only [decide_eq_false_iff_not,Decidable.not_not] at hq
    exact s2 _ (by simp [hq])
 refine yV (fun hq=>?_) (fun hq=>?_)
 ·have:n = []:=by simpa using hq
  exact s1 _ (by simp [this])
 ·have:n ≠ []:=by simpa using hq
  refine s1 _ ?_
  rw [hsz]
  by_cases h15:15 < n.length
  ·rw [decide_eq_true (by omega),decide_eq_true (.inr h15)]
  ·rw [decide_eq_false (by omega),decide_eq_false (by simp [this,h15])]
theorem zAk {k:Sl→Int→K} (hD:OkD D) (hl:(D.read n).1.length ≤ 100000) (h:Holds B (zK d D::Γ) w)
  (herr:(D.read n).2 ≠ 0→∀ w,Holds B (zK d D::Γ) w→k (Sl.mk none 0 0) (D.read n).2 w)
  (hok:∀ b f w,(D.read n).2 = 0→yG b = (D.read n).1→Holds B (Bytes zP f b::zK d D::Γ) w→k f 0 w)
  (hno:(D.read n).2 = 0→(∀ b,yG b ≠ (D.read n).1)→∀ w,Holds B (zK d D::Γ) w→k (Sl.mk none 0 0) 61 w):vG.call (some ⟨d,0,none⟩) (bs n) k w:=by
 refine zFU _ _ _ _ ?_
 unfold vG
 refine zEn (n:=n) hD h fun s w h=>?_
 refine yV (fun hq=>?_) (fun hq=>?_)
 ·exact herr (by simpa using hq) _ h.tail
 ·have hz:(D.read n).2 = 0:=by simpa using hq
  have hsc:=h.jK
  refine zCQ (d:=(D.read n).1) hl hsc.2.1 h (fun w h=>Bytes.rd h List.mem_cons_self) (fun b g w hb h=>?_) (fun hn w h=>?_)
  ·exact hok b g w hz hb (h.del 1 at1)
  ·exact hno hz hn w h.tail
theorem zB0 {a:DkA} (h:a.left = -1):chg a = (a,0):=by
 unfold chg
 rw [if_neg (by omega),if_neg (by omega)]
theorem zCY {α β:Type} [DecidableEq α] {k:α} {m:List (α×β)} (hm:za k m = none):xJ k m = m:=by
 rcases zGN k m with ⟨_,_,h,_⟩ | ⟨j,x,_,_,_,h2,_⟩
 ·exact h
 ·rw [h2] at hm; cases hm
theorem zEr {α β:Type} [DecidableEq α] {k:α} {v:β}:∀ {m:List (α×β)},za k m = none→xJ k (m++[(k,v)]) = m
 | [],_=>if_pos rfl
 | p::m,hm=>by
  unfold za at hm
  split at hm
  ·cases hm
  ·rename_i hne
   show (if k = p.1 then _ else _) = _
   rw [if_neg hne]
   exact congrArg (p::·) (zEr hm)
theorem zCZ {α β:Type} [DecidableEq α] {k:α} {v:β}:∀ {m:List (α×β)},za k m = none→za k (m++[(k,v)]) = some v
 | [],_=>if_pos rfl
 | p::m,hm=>by
  unfold za at hm
  split at hm
  ·cases hm
  ·rename_i hne
   show (if k = p.1 then _ else _) = _
   rw [if_neg hne]
   exact zCZ hm
theorem zEs {α β:Type} [DecidableEq α] {k:α} {v v':β}:∀ {m:List (α×β)},za k m = none→yQ k v' (m++[(k,v)]) = m++[(k,v')]
 | [],_=>if_pos rfl
 | p::m,hm=>by
  unfold za at hm
  split at hm
  ·cases hm
  ·rename_i hne
   show (if k = p.1 then _ else _) = _
   rw [if_neg hne]
   exact congrArg (p::·) (zEs hm)
theorem zIb (hD:OkD D) (ha:D.a.left = -1) (hd:D.a.down = false) (hn:n ≠ []) (hl:n.length ≤ 15) (hf:(xJ (zk n) D.files).length < 32) (hu:(yt (xJ (zk n) D.files):Int) + (yG x).length ≤ D.a.room) :
  D.save n x = (⟨D.a,yQ n ⟨yG x,(yG x).length⟩ (xJ (zk n) D.files)⟩,0):=by
 have hrm:∃ e,(e = 0∨e = 60)∧D.remove (zk n) = (⟨D.a,xJ (zk n) D.files⟩,e)∧za (zk n) (xJ (zk n) D.files) = none:=by
  unfold zI.remove
  rw [if_neg (by rw [hd]; decide)]
  cases hm:za (zk n) D.files with
  | none=>exact ⟨60,.inr rfl,by rw [zCY hm],by rw [zCY hm,hm]⟩
  | some f=>
   have h1:=(hD.del hm).2.1
   simp only [zB0 ha,if_true]
   exact ⟨0,.inl rfl,rfl,h1⟩
 obtain ⟨e,he,hrm,hnone⟩:=hrm
 unfold zI.save
 have hbad:¬ (n = []∨15 < n.length):=by
  rintro (h | h)
  ·exact hn h
  ·omega
 rw [if_neg hbad,hrm]
 have hbad2:¬ (e ≠ 0∧e ≠ 60):=by omega
 simp only
 rw [if_neg hbad2]
 have hnx:named (zk n) = true:=by
  unfold named zk
  simp
  omega
 have hap:(⟨D.a,xJ (zk n) D.files⟩:zI).append (zk n) (yG x) = (⟨D.a,xJ (zk n) D.files++[(zk n,⟨yG x,0⟩)]⟩,0):=by
  unfold zI.append
  simp only
  rw [if_neg (by rw [hd]; decide),if_neg (by rw [hnx]; decide),if_neg,zB0 ha,hnone,vU hnone]
  ·rfl
  ·rintro (h | h)
   ·omega
   ·omega
 unfold zGb
 rw [hap]
 simp only
 rw [if_neg (by simp)]
 have hsy:(⟨D.a,xJ (zk n) D.files++[(zk n,⟨yG x,0⟩)]⟩:zI).sync (zk n) = (⟨D.a,xJ (zk n) D.files++[(zk n,⟨yG x,(yG x).length⟩)]⟩,0):=by
  unfold zI.sync
  simp only
  rw [if_neg (by rw [hd]; decide),zCZ hnone]
  simp only [zB0 ha,if_true,zEs hnone]
 unfold zH4
 rw [hsy]
 simp only
 rw [if_neg (by simp)]
 unfold zJw zI.rename
 simp only
 rw [if_neg (by rw [hd]; decide),zCZ hnone]
 have hnn:named n = true:=by
  unfold named
  simp [hn]
  omega
 simp only [zB0 ha,if_true,zEr hnone]
 rw [if_neg (by rw [hnn]; decide)]
end
end
section
open Go Go.Sep
structure vJ where
 name:List UInt8
 size:Int
 part:Nat
 used:Nat
 dirty:Bool
 recs:List (List UInt8)
abbrev wA (d:Nat) (W:vJ) (s:Sl):Array Value:=#[.pointer (some ⟨d,0,none⟩),xW W.name,.int .i64 W.size,.int .i64 (W.part:Int),.int .i64 (W.used:Int),.bool W.dirty,s.val]
abbrev zDx:=List (Sl×List UInt8)
abbrev uf (p:Sl×List UInt8):Value:=p.1.val
abbrev ug (p:Sl×List UInt8):zC:=Bytes zP p.1 p.2
def yZ (n:List UInt8) (k:Nat):List UInt8:=n++[u8 (48 + k)]
theorem zH5 (a b:List UInt8):bs a++bs b = bs (a++b):=by
 apply ByteArray.ext
 rw [ByteArray.data_append]
 simp [bs]
def qK (d:List UInt8):List (List UInt8)×Nat :=
 if h:d = []∨(zS d).2.2 ≠ 0 then ([],0)
 else ((zS d).1::(qK (d.drop (zS d).2.1)).1,(zS d).2.1 + (qK (d.drop (zS d).2.1)).2)
termination_by d.length
decreasing_by
 all_goals
  have h1:d ≠ []:=fun e=>h (.inl e)
  have h2:(zS d).2.2 = 0:=by
   by_cases he:(zS d).2.2 = 0
   ·exact he
   ·exact absurd (.inr he) h
  have h3:=((zIP d).ok h2).1
  have h4:0 < d.length:=List.length_pos_iff.2 h1
  simp
  omega
theorem zEt:qK [] = ([],0):=by rw [qK,dif_pos (.inl rfl)]
theorem zEu {d:List UInt8} (h:(zS d).2.2 ≠ 0):qK d = ([],0):=by rw [qK,dif_pos (.inr h)]
theorem zGc {d:List UInt8} (hd:d ≠ []) (h:(zS d).2.2 = 0):qK d = ((zS d).1::(qK (d.drop (zS d).2.1)).1,(zS d).2.1 + (qK (d.drop (zS d).2.1)).2):=by
 rw [qK,dif_neg]
 rintro (h1 | h1)
 ·exact hd h1
 ·exact h1 h
section
variable {B w:World} {Γ:List zC} {l d:Nat} {W:vJ} {s:Sl} {rs:zDx} {D:zI}
theorem zJx {c:Nat} {k:ByteArray→K} (hc:c < 128) (hk:k (bs [u8 c]) w):Rd Tryz.prog (convert zGC qY (.int .i32 (c:Int))) Value.string k w:=by
 refine ⟨_,?_,hk⟩
 have h1:Tryz.prog.underlying zGC = some (.int .i32):=by kernel_rfl
 have h2:Tryz.prog.underlying qY = some .string:=by kernel_rfl
 have h3:Utf8.encode (c:Int) = bs [u8 c]:=by
  unfold Utf8.encode
  have hv:Utf8.valid (c:Int) = true:=by simp [Utf8.valid]; omega
  simp only [hv,if_true,Int.toNat_natCast]
  rw [if_pos (by omega)]
  rfl
 simp [convert,run_underlying h1,run_underlying h2,Conv.intToString,h3]
theorem je {p:Nat} {k:ByteArray→K} (hp:p ≤ 9) (hn:W.name.length ≤ 1000) (h:Holds B (blk l (.cells (wA d W s) qg (0,0))::SlC zT 1 s (List.map uf rs)::stars (List.map ug rs)::Γ) w) (hk:k (bs (yZ W.name p)) w):xC.call (some ⟨l,0,none⟩) (p:Int) k w:=by
 refine zC3 _ _ _ _ ?_
 unfold xC
 refine uV rfl ?_
 try simp only [yC,Nat.zero_add,Nat.reduceAdd]
 refine xL (x:=(bs W.name)) h rfl (by first | with_reducible exact M0 | with_reducible exact M1 | with_reducible exact M2 | with_reducible exact M3 | with_reducible exact M4 | with_reducible exact M5 | with_reducible exact M6 | with_reducible exact M7 | with_reducible exact M8 | with_reducible exact M9 | with_reducible exact M10 | with_reducible exact M11 | with_reducible exact M12) ?_ ?_
 ·exact rfl
 refine qX (e':=((48 + p:Nat):Int)) (by rw [wrap64 (by omega) (by omega)]; omega) ?_
 refine qX (e':=((48 + p:Nat):Int)) (by unfold IntKind.wrap; simp only [IntKind.bits,IntKind.signed,Bool.true_and,decide_eq_true_eq,Nat.reduceSub,Int.reducePow,ge_iff_le]; split <;> omega) ?_
 refine zJx (by omega) ?_
 refine ⟨bs (yZ W.name p),?_,(zH5 W.name [u8 (48 + p)]).symm,hk⟩
 have e1:(bs W.name).size = W.name.length:=by simp [bs,ByteArray.size]
 have e2:(bs [u8 (48 + p)]).size = 1:=rfl
 rw [e1,e2]
 omega
end
end
section
open Go Go.Sep
def vP (l d:Nat) (W:vJ):zC:=ex fun s:Sl=>ex fun rs:zDx=>stars [pur (rs.map Prod.snd = W.recs),stars (blk l (.cells (wA d W s) qg (0,0))::SlC zT 1 s (List.map uf rs)::stars (List.map ug rs)::(List.nil:List zC))]
def zJy (s:Sl) (recs:List (List UInt8)):zC:=ex fun rs:zDx=>stars [pur (rs.map Prod.snd = recs),SlC zT 1 s (rs.map uf),stars (rs.map ug)]
structure OkW (W:vJ):Prop where
 name:1 ≤ W.name.length∧W.name.length ≤ 8
 size:16 ≤ W.size∧W.size ≤ 65536
 part:W.part ≤ 9
 used:W.used ≤ 10000000
 few:W.recs.length ≤ 10000000
def vJ.put (W:vJ) (D:zI) (part used:Nat) (r:List UInt8):zI×vJ×Int :=
 if (D.append (yZ W.name part) (qN r)).2 ≠ 0 then ((D.append (yZ W.name part) (qN r)).1,W,(D.append (yZ W.name part) (qN r)).2)
 else ((D.append (yZ W.name part) (qN r)).1,{ W with part:=part,used:=used + (qN r).length,dirty:=true,recs:=W.recs++[r] },0)
section
variable {B w:World} {Γ:List zC} {l d:Nat} {W:vJ} {s:Sl} {rs:zDx} {D:zI}
theorem vP.opens (h:Holds B (vP l d W::Γ) w):∃ s rs,rs.map Prod.snd = W.recs∧Holds B (blk l (.cells (wA d W s) qg (0,0))::SlC zT 1 s (List.map uf rs)::stars (List.map ug rs)::Γ) w:=by
 obtain ⟨s,h⟩:=Holds.ex.1 h
 obtain ⟨rs,h⟩:=Holds.ex.1 h
 obtain ⟨h2,h4⟩:=Holds.pur.1 (Holds.flat.1 h)
 exact ⟨s,rs,h2,Holds.flat.1 h4⟩
theorem vP.shuts (hp:rs.map Prod.snd = W.recs) (h:Holds B (blk l (.cells (wA d W s) qg (0,0))::SlC zT 1 s (List.map uf rs)::stars (List.map ug rs)::Γ) w):Holds B (vP l d W::Γ) w :=
 Holds.ex.2 ⟨s,Holds.ex.2 ⟨rs,Holds.flat.2 (Holds.pur.2 ⟨hp,Holds.flat.2 h⟩)⟩⟩
theorem zLv (h:Holds B (SlC zT 1 s (rs.map uf)::Γ) w):rs.length = s.n:=by
 have:=h.jK.1
 simpa using this
theorem zLw {f:Sl} {b:List UInt8} {k:Sl→K} (hl:rs.length ≤ 100000000) (h:Holds B (SlC zT 1 s (rs.map uf)::stars (rs.map ug)::Bytes zP f b::Γ) w)
  (hk:∀ s' w,Holds B (SlC zT 1 s' ((rs++[(f,b)]).map uf)::stars ((rs++[(f,b)]).map ug)::Γ) w→k s' w) :
  New zT #[f.val] (fun t=>Do Tryz.prog (Builtin.append_ #[zAB,zAB] zAB #[(Sl.val s),(Sl.val (Sl.mk (some t) 1 1))]) Sl.val k) w:=by
 have hn:=zLv h
 refine vR h ?_
 clear h
 intro t w h
 try simp only [yC,Nat.zero_add,Nat.reduceAdd]
 have hx:=RdC.zG5 (n:=1) (esz:=1) h List.mem_cons_self (vs:=[f.val]) rfl rfl 1
 refine zBn (h.pick 1 at1) (by kernel_rfl) (by kernel_rfl) (by':=24) (by kernel_rfl) zCy rfl hx (fun v hv=>by simp only [List.mem_singleton] at hv; subst hv; rfl) (by simp only; omega) (by decide) fun s' w h _ _=>?_
 try simp only [N1,N2,N3,N4,N5,N6,N7] at h
 have e1:rs.map uf++[f.val] = (rs++[(f,b)]).map uf:=by simp
 rw [e1] at h
 replace h:=P3 h
 replace h:=P3 h
 replace h:=D3 h
 try simp only [N1,N2,N3,N4,N5,N6,N7] at h
 have h2:Holds B (stars ((rs++[(f,b)]).map ug)::SlC zT 1 s' ((rs++[(f,b)]).map uf)::Γ) w:=zIN (f:=ug) (x:=(f,b)) h
 exact hk _ _ h2.swap
theorem zDy {data:Sl} {dat:List UInt8} {k:Int→K} (hl:dat.length ≤ 2000000) (hrl:rs.length ≤ 10000000) (h:Holds B (blk l (.cells (wA d W s) qg (0,0))::SlC zT 1 s (List.map uf rs)::stars (List.map ug rs)::Γ) w) (hr:∀ w,Holds B Γ w→RdB w data dat) (hcap:data.n ≤ data.c) (hsp:∀ a,data.a = some a→a.spot = none)
  (hk:∀ s' rs' w,rs'.map Prod.snd = rs.map Prod.snd++(qK dat).1→Holds B (blk l (.cells (wA d W s') qg (0,0))::SlC zT 1 s' (List.map uf rs')::stars (List.map ug rs')::Γ) w→k ((qK dat).2:Int) w):yM.call (some ⟨l,0,none⟩) data k w:=by
 have hdn:dat.length = data.n:=by have:=(hr w h.tail.tail.tail).len; simpa using this
 refine zCL _ _ _ _ ?_
 unfold yM
 refine yR.of (fun t w=>∃ (g:Nat) (done:List (List UInt8)) (s':Sl) (rs':zDx),t = (g:Int)∧g ≤ dat.length∧rs'.map Prod.snd = rs.map Prod.snd++done∧qK dat = (done++(qK (dat.drop g)).1,g + (qK (dat.drop g)).2)∧rs'.length ≤ rs.length + g∧Holds B (blk l (.cells (wA d W s') qg (0,0))::SlC zT 1 s' (List.map uf rs')::stars (List.map ug rs')::Γ) w) (fun t _=>((data.n:Int) - t).toNat) ⟨0,[],s,rs,rfl,by omega,by simp,by simp,by omega,h⟩ ?_
 clear h
 rintro t w ⟨g,done,s',rs',rfl,hg,hrs,hpp,hcnt,h⟩
 unfold yM.b2 yM.s1
 refine yV (fun hb=>?_) (fun hb=>?_)
 ·simp only [decide_eq_true_eq] at hb
  have hdr:dat.drop g ≠ []:=fun e=>by
   have:=congrArg List.length e
   simp at this
   omega
  have hF:=zIP (dat.drop g)
  refine ⟨_,by omega,by omega,by omega,by omega,rfl,?_⟩
  simp only [Int.toNat_natCast]
  refine vv (d:=dat.drop g) (by simp; omega) h (fun w h=>zGM (hr w h.tail.tail.tail) (by omega) hcap hsp) (by simp only; omega) fun f w h=>?_
  refine yV (fun he=>?_) (fun he=>?_)
  ·have he':(zS (dat.drop g)).2.2 ≠ 0:=by simp only [decide_eq_true_eq] at he; omega
   rw [zEu he'] at hpp
   simp only [List.append_nil,Nat.add_zero] at hpp
   have h3:=hk s' rs' w (by rw [hpp]; exact hrs) h.tail
   rw [hpp] at h3
   exact h3
  ·have he':(zS (dat.drop g)).2.2 = 0:=by simp only [decide_eq_false_iff_not] at he; omega
   rw [zGc hdr he',List.drop_drop] at hpp
   simp only at hpp
   obtain ⟨q1,q2,_⟩:=hF.ok he'
   have q3:=hF.le
   rw [List.length_drop] at q3
   refine uV rfl ?_
   try simp only [yC,Nat.zero_add,Nat.reduceAdd]
   refine xL (x:=s') h rfl (by first | with_reducible exact M0 | with_reducible exact M1 | with_reducible exact M2 | with_reducible exact M3 | with_reducible exact M4 | with_reducible exact M5 | with_reducible exact M6 | with_reducible exact M7 | with_reducible exact M8 | with_reducible exact M9 | with_reducible exact M10 | with_reducible exact M11 | with_reducible exact M12) ?_ ?_
   ·exact rfl
   replace h:=P1 h
   replace h:=P1 h
   replace h:=P3 h
   replace h:=P3 h
   try simp only [N1,N2,N3,N4,N5,N6,N7] at h
   refine zLw (by omega) h fun s2 w h=>?_
   replace h:=P1 h
   replace h:=P1 h
   replace h:=P2 h
   try simp only [N1,N2,N3,N4,N5,N6,N7] at h
   first | refine S0 h rfl ?_ rfl ?_ | refine S1 h rfl ?_ rfl ?_ | refine S2 h rfl ?_ rfl ?_ | refine S3 h rfl ?_ rfl ?_ | refine S4 h rfl ?_ rfl ?_ | refine S5 h rfl ?_ rfl ?_ | refine S6 h rfl ?_ rfl ?_ | refine S7 h rfl ?_ rfl ?_ | refine S8 h rfl ?_ rfl ?_
   ·first | exact Nat.lt_of_ble_eq_true rfl | (simp; done) | (simp; omega)
   clear h
   intro w h
   try simp only [N1,N2,N3,N4,N5,N6,N7] at h
   refine qX (e':=((g + (zS (dat.drop g)).2.1:Nat):Int)) (by rw [wrap64 (by omega) (by omega)]; omega) ?_
   refine ⟨⟨g + (zS (dat.drop g)).2.1,done++[(zS (dat.drop g)).1],s2,_,rfl,by omega,?_,?_,?_,h⟩,by omega⟩
   ·rw [List.map_append,hrs,List.append_assoc]; rfl
   ·rw [hpp,List.append_assoc]
    exact Prod.ext rfl (by simp only; omega)
   ·rw [List.length_append,List.length_singleton]; omega
 ·simp only [decide_eq_false_iff_not] at hb
  have hz:dat.drop g = []:=List.drop_eq_nil_of_le (by omega)
  rw [hz,zEt] at hpp
  simp only [List.append_nil,Nat.add_zero] at hpp
  have h3:=hk s' rs' w (by rw [hpp]; exact hrs) h
  rw [hpp] at h3
  exact h3
theorem zCa {k:Sl→K} (hW:OkW W) (hlen:∀ r ∈ W.recs,r.length ≤ 1000000) (h:Holds B (vP l d W::Γ) w) (hk:∀ s w,Holds B (zJy s W.recs::vP l d W::Γ) w→k s w):yu.call (some ⟨l,0,none⟩) k w:=by
 obtain ⟨s,rs,hp,h⟩:=vP.opens h
 have hrl:rs.length = W.recs.length:=by rw [← hp]; simp
 have hfew:=hW.few
 have hn:=zLv h.tail
 refine zBI _ _ _ ?_
 unfold yu
 refine uV rfl ?_
 try simp only [yC,Nat.zero_add,Nat.reduceAdd]
 refine xL (x:=s) h rfl (by first | with_reducible exact M0 | with_reducible exact M1 | with_reducible exact M2 | with_reducible exact M3 | with_reducible exact M4 | with_reducible exact M5 | with_reducible exact M6 | with_reducible exact M7 | with_reducible exact M8 | with_reducible exact M9 | with_reducible exact M10 | with_reducible exact M11 | with_reducible exact M12) ?_ ?_
 ·exact rfl
 have h0:=(h.jh).jo zT 1
 refine yR.of (fun t w=>∃ (j:Nat) (os:zDx),t.2 = (j:Int)∧j ≤ rs.length∧os.length = j∧os.map Prod.snd = (rs.take j).map Prod.snd∧Holds B (SlC zT 1 t.1 (os.map uf)::stars (os.map ug)::(blk l (.cells (wA d W s) qg (0,0))::SlC zT 1 s (List.map uf rs)::stars (List.map ug rs)::Γ)) w) (fun t _=>((s.n:Int) - t.2).toNat) ⟨0,[],rfl,by omega,rfl,rfl,h0⟩ ?_
 clear h h0
 rintro ⟨o,t⟩ w ⟨j,os,h1,hj,hol,hos,h⟩
 simp only at h1 h
 subst h1
 unfold yu.b1
 refine yV (fun hb=>?_) (fun hb=>?_)
 ·simp only [decide_eq_true_eq] at hb
  have hjl:j < rs.length:=by omega
  have hx:rs[j]? = some rs[j]:=List.getElem?_eq_getElem hjl
  have htk:rs.take (j + 1) = rs.take j++[rs[j]]:=List.take_succ_eq_append_getElem hjl
  generalize rs[j] = x at hx htk
  have hxl:x.2.length ≤ 1000000:=hlen x.2 (by rw [← hp]; exact List.mem_map_of_mem (List.mem_of_getElem? hx))
  have hrd:RdC w s 1 ((rs.map Prod.fst).map Sl.val):=by
   have h9:RdC w s 1 (rs.map uf):=h.rdC (E:=zT) (by first | with_reducible exact M0 | with_reducible exact M1 | with_reducible exact M2 | with_reducible exact M3 | with_reducible exact M4 | with_reducible exact M5 | with_reducible exact M6 | with_reducible exact M7 | with_reducible exact M8 | with_reducible exact M9 | with_reducible exact M10 | with_reducible exact M11 | with_reducible exact M12)
   rw [List.map_map]
   exact h9
  refine zDe (c:=Sl.val) (L:=rs.map Prod.fst) hrd (x:=x.1) (by rw [List.getElem?_map,hx]; rfl) ?_
  refine qb (b:=x.1) (xs:=x.2) h (fun w h=>zJh (f:=ug) (x:=x) 4 h at4 (List.mem_of_getElem? hx) rfl) (by omega) fun c w h _=>?_
  replace h:=P5 h
  replace h:=P5 h
  replace h:=P5 h
  replace h:=P3 h
  replace h:=P5 h
  replace h:=P5 h
  try simp only [N1,N2,N3,N4,N5,N6,N7] at h
  refine zLw (by omega) h fun s2 w h=>?_
  refine jT (by omega) (by omega) ?_
  exact ⟨⟨j + 1,_,by simp,by omega,by simp; omega,by rw [List.map_append,hos,htk,List.map_append]; rfl,h⟩,by omega⟩
 ·simp only [decide_eq_false_iff_not] at hb
  have:j = rs.length:=by omega
  subst this
  rw [List.take_length,hp] at hos
  have h2:Holds B (zJy o W.recs::(blk l (.cells (wA d W s) qg (0,0))::SlC zT 1 s (List.map uf rs)::stars (List.map ug rs)::Γ)) w:=Holds.ex.2 ⟨os,Holds.flat.2 (Holds.pur.2 ⟨hos,h⟩)⟩
  replace h:=h2
  replace h:=P3 h
  replace h:=P3 h
  replace h:=P3 h
  try simp only [N1,N2,N3,N4,N5,N6,N7] at h
  exact hk _ _ (vP.shuts hp h).swap
end
end
section
open Go Go.Sep
section
variable {B w:World} {Γ:List zC} {l d:Nat} {W:vJ} {s:Sl} {rs:zDx} {D:zI}
end
end
section
open Go Go.Sep
theorem zJz:∀ (n:Nat) (d:List UInt8),d.length = n→(qK d).1.length ≤ d.length∧(qK d).2 ≤ d.length:=by
 intro n
 induction n using Nat.strongRecOn with
 | _ n ih=>
  intro d hd
  by_cases h1:d = []
  ·subst h1; rw [zEt]; exact ⟨Nat.le_refl _,Nat.le_refl _⟩
  by_cases h2:(zS d).2.2 = 0
  ·have hF:=zIP d
   obtain ⟨q1,q2,_⟩:=hF.ok h2
   have q3:=hF.le
   have hl:0 < d.length:=List.length_pos_iff.2 h1
   have:=ih (d.drop (zS d).2.1).length (by simp; omega) _ rfl
   rw [zGc h1 h2]
   simp only [List.length_cons,List.length_drop] at this ⊢
   omega
  ·rw [zEu h2]; exact ⟨by simp,by simp⟩
def vw (name:List UInt8):Nat→Nat→zI→vJ→zI×vJ×Nat×Int
 | 0,part,D,W=>(D,W,part,0)
 | f + 1,part,D,W=>
  if (D.read (yZ name part)).2 = 60 then (D,W,part,0)
  else if (D.read (yZ name part)).2 ≠ 0 then (D,W,part,(D.read (yZ name part)).2)
  else if (qK (D.read (yZ name part)).1).2 = (D.read (yZ name part)).1.length then
   vw name f (part + 1) D { W with recs:=W.recs++(qK (D.read (yZ name part)).1).1,part:=part,used:=(qK (D.read (yZ name part)).1).2 }
  else if (D.cut (yZ name part) ((qK (D.read (yZ name part)).1).2:Int)).2 ≠ 0 then
   ((D.cut (yZ name part) ((qK (D.read (yZ name part)).1).2:Int)).1,{ W with recs:=W.recs++(qK (D.read (yZ name part)).1).1,part:=part,used:=(qK (D.read (yZ name part)).1).2 },part,(D.cut (yZ name part) ((qK (D.read (yZ name part)).1).2:Int)).2)
  else ((D.cut (yZ name part) ((qK (D.read (yZ name part)).1).2:Int)).1,{ W with recs:=W.recs++(qK (D.read (yZ name part)).1).1,part:=part,used:=(qK (D.read (yZ name part)).1).2 },part + 1,0)
def zB1 (name:List UInt8):Nat→Nat→zI→zI×Int
 | 0,_,D=>(D,0)
 | f + 1,part,D=>if (D.remove (yZ name (part + f))).2 ≠ 0∧(D.remove (yZ name (part + f))).2 ≠ 60 then D.remove (yZ name (part + f)) else zB1 name f part (D.remove (yZ name (part + f))).1
def vJ.load (W:vJ) (D:zI):zI×vJ×Int :=
 if (vw W.name 10 0 D W).2.2.2 ≠ 0 then ((vw W.name 10 0 D W).1,(vw W.name 10 0 D W).2.1,(vw W.name 10 0 D W).2.2.2)
 else ((zB1 W.name (10 - (vw W.name 10 0 D W).2.2.1) (vw W.name 10 0 D W).2.2.1 (vw W.name 10 0 D W).1).1,(vw W.name 10 0 D W).2.1,(zB1 W.name (10 - (vw W.name 10 0 D W).2.2.1) (vw W.name 10 0 D W).2.2.1 (vw W.name 10 0 D W).1).2)
section
variable {B w:World} {Γ:List zC} {l d:Nat} {W:vJ} {s:Sl} {rs:zDx} {D:zI}
theorem zIc {D:zI} (hD:OkD D) (n:List UInt8):(D.read n).1.length ≤ 1048576:=by
 unfold zI.read
 split
 ·simp
 cases hm:za n D.files with
 | none=>simp
 | some f=>have:=jW hD hm; exact this.1
theorem zB2 {name:List UInt8} {k:Int→K} {part:Nat} (hp:part ≤ 10) (hD:OkD D) (hn:W.name = name) (hnl:name.length ≤ 8) (h:Holds B (vP l d W::zK d D::Γ) w)
  (hk:∀ w,OkD (zB1 name (10 - part) part D).1→Holds B (vP l d W::zK d (zB1 name (10 - part) part D).1::Γ) w→k (zB1 name (10 - part) part D).2 w):zN.s1 k (some ⟨l,0,none⟩) (part:Int) w:=by
 unfold zN.s1
 refine yR.of (fun t w=>∃ (f:Nat) (D':zI),t = (part:Int) + f - 1∧part + f ≤ 10∧zB1 name (10 - part) part D = zB1 name f part D'∧OkD D'∧Holds B (vP l d W::zK d D'::Γ) w) (fun t _=>(t + 1).toNat) ⟨10 - part,D,by omega,by omega,rfl,hD,h⟩ ?_
 clear h
 rintro t w ⟨f,D',rfl,hf,he,hD',h⟩
 rw [he] at hk
 unfold zN.b2
 refine yV (fun hb=>?_) (fun hb=>?_)
 ·simp only [decide_eq_true_eq] at hb
  obtain ⟨g,rfl⟩:∃ g,f = g + 1:=⟨f - 1,by omega⟩
  obtain ⟨s,rs,hrs,h⟩:=vP.opens h
  have hi:(part:Int) + ((g + 1:Nat):Int) - 1 = ((part + g:Nat):Int):=by omega
  rw [hi]
  refine zDS h ?_
  clear h
  intro w h
  have hS:Holds B (blk l (.cells (wA d W s) qg (0,0))::SlC zT 1 s (List.map uf rs)::stars (List.map ug rs)::Γ) w:=h.del 3 at3
  refine zBX hS ?_
  refine uV rfl ?_
  refine zEM (x:=some ⟨d,0,none⟩) rfl M0 rfl ?_
  refine je (by omega) (by rw [hn]; omega) h ?_
  rw [hn]
  refine zH9 hS ?_
  replace h:=P2 h
  replace h:=P2 h
  replace h:=P2 h
  replace h:=P3 h
  try simp only [N1,N2,N3,N4,N5,N6,N7] at h
  refine zCr (n:=yZ name (part + g)) hD' h fun w hD2 h=>?_
  replace h:=P3 h
  replace h:=P3 h
  replace h:=P3 h
  try simp only [N1,N2,N3,N4,N5,N6,N7] at h
  replace h:=vP.shuts (W:=W) hrs h
  unfold zB1 at hk
  have s3:∀ t,t = decide ((D'.remove (yZ name (part + g))).2 ≠ 0∧(D'.remove (yZ name (part + g))).2 ≠ 60)→zN.s3 k (fun t w'=>(∃ (f:Nat) (D':zI),t = (part:Int) + f - 1∧part + f ≤ 10∧zB1 name (10 - part) part D = zB1 name f part D'∧OkD D'∧Holds B (vP l d W::zK d D'::Γ) w')∧(t + 1).toNat < (((part + g:Nat):Int) + 1).toNat) ⟨l,0,none⟩ (part:Int) ((part + g:Nat):Int) (D'.remove (yZ name (part + g))).2 t w:=by
   rintro t rfl
   unfold zN.s3
   refine yV (fun hq=>?_) (fun hq=>?_)
   ·rw [if_pos (by simpa using hq)] at hk
    exact hk _ hD2 h
   ·have hq':=of_decide_eq_false hq
    refine qX (e':=(part:Int) + g - 1) (by rw [wrap64 (by omega) (by omega)]; omega) ?_
    refine ⟨⟨g,_,rfl,by omega,?_,hD2,h⟩,by omega⟩
    rw [he,zB1,if_neg hq']
  refine yV (fun hq=>?_) (fun hq=>?_)
  ·simp only [decide_eq_true_eq] at hq
   exact s3 _ (by simp [hq])
  ·simp only [decide_eq_false_iff_not,Decidable.not_not] at hq
   exact s3 _ (by simp [hq])
 ·simp only [decide_eq_false_iff_not] at hb
  have:f = 0:=by omega
  subst this
  exact hk _ hD' h
theorem zEH {k:Int→K} (hD:OkD D) (hnl:W.name.length ≤ 8) (hr0:W.recs = []) (h:Holds B (vP l d W::zK d D::Γ) w)
  (hk:∀ w,OkD (W.load D).1→Holds B (vP l d (W.load D).2.1::zK d (W.load D).1::Γ) w→k (W.load D).2.2 w):zN.call (some ⟨l,0,none⟩) k w:=by
 unfold vJ.load at hk
 generalize hLF:vw W.name 10 0 D W = LF at hk
 refine zC2 _ _ _ ?_
 unfold zN
 refine yR.of (fun t w=>∃ (part:Nat) (D':zI) (W':vJ),t.2 = (part:Int)∧part ≤ 10∧OkD D'∧W'.name = W.name∧W'.recs.length ≤ part * 1048576 ∧
   (t.1 = true→LF = vw W.name (10 - part) part D' W')∧(t.1 = false→LF = (D',W',part,0))∧Holds B (vP l d W'::zK d D'::Γ) w) (fun t _=>(10 - t.2).toNat) ⟨0,D,W,rfl,by omega,hD,rfl,by rw [hr0]; simp,(fun _=>hLF.symm),(fun hf=>by cases hf),h⟩ ?_
 clear h
 rintro ⟨wh,t⟩ w ⟨part,D',W',h1,hpt,hD',hnm,hcnt,hT,hF,h⟩
 simp only at h1 hT hF
 subst h1
 unfold zN.b4
 have out:LF = (D',W',part,0)→Holds B (vP l d W'::zK d D'::Γ) w→zN.s1 k (some ⟨l,0,none⟩) (part:Int) w:=fun he h=>by
  rw [he,if_neg (by simp)] at hk
  exact zB2 hpt hD' hnm hnl h hk
 refine yV (fun hwh=>?_) (fun hwh=>?_)
 ·have hT':=hT hwh
  unfold zN.s5
  refine yV (fun hb=>?_) (fun hb=>?_)
  ·simp only [decide_eq_true_eq] at hb
   obtain ⟨f,hf⟩:∃ f,10 - part = f + 1:=⟨9 - part,by omega⟩
   rw [hf] at hT'
   obtain ⟨s,rs,hrs,h⟩:=vP.opens h
   have hrl:rs.length = W'.recs.length:=by rw [← hrs]; simp
   refine zDS h ?_
   clear h
   intro w h
   have hS:Holds B (blk l (.cells (wA d W' s) qg (0,0))::SlC zT 1 s (List.map uf rs)::stars (List.map ug rs)::Γ) w:=h.del 3 at3
   refine zBX hS ?_
   refine uV rfl ?_
   refine zEM (x:=some ⟨d,0,none⟩) rfl M0 rfl ?_
   refine je (by omega) (by rw [hnm]; omega) h ?_
   rw [hnm]
   refine zH9 hS ?_
   replace h:=P2 h
   replace h:=P2 h
   replace h:=P2 h
   replace h:=P3 h
   try simp only [N1,N2,N3,N4,N5,N6,N7] at h
   have hRl:=zIc hD' (yZ W.name part)
   refine zEn (n:=yZ W.name part) hD' h fun sd w h=>?_
   have hdc:=h.jK
   rw [vw] at hT'
   generalize hR:D'.read (yZ W.name part) = R at hT' h hRl
   obtain ⟨x,e⟩:=R
   simp only at hT' h hRl ⊢
   refine yV (fun he60=>?_) (fun he60=>?_)
   ·simp only [decide_eq_true_eq] at he60
    rw [if_pos he60] at hT'
    replace h:=P1 h
    replace h:=P4 h
    replace h:=P4 h
    replace h:=P4 h
    replace h:=D4 h
    try simp only [N1,N2,N3,N4,N5,N6,N7] at h
    have h6:=vP.shuts (W:=W') hrs h
    rw [hT',if_neg (by simp)] at hk
    exact zB2 hpt hD' hnm hnl h6 hk
   ·have he60':¬ e = 60:=by simpa using he60
    rw [if_neg he60'] at hT'
    refine yV (fun he0=>?_) (fun he0=>?_)
    ·have he0':e ≠ 0:=by simpa using he0
     rw [if_pos he0'] at hT'
     replace h:=P1 h
     replace h:=P4 h
     replace h:=P4 h
     replace h:=P4 h
     replace h:=D4 h
     try simp only [N1,N2,N3,N4,N5,N6,N7] at h
     have h6:=vP.shuts (W:=W') hrs h
     rw [hT',if_pos he0'] at hk
     exact hk _ hD' h6
    ·have he0':¬ e ≠ 0:=by simpa using he0
     rw [if_neg he0'] at hT'
     have hPl:=zJz _ x rfl
     have hxn:x.length = sd.n:=by have:=hdc.1; rw [hR] at this; simpa using this
     replace h:=P1 h
     replace h:=P1 h
     replace h:=P4 h
     replace h:=P4 h
     replace h:=P4 h
     try simp only [N1,N2,N3,N4,N5,N6,N7] at h
     refine zDy (dat:=x) (by omega) (by omega) h (fun w h=>Bytes.rd h List.mem_cons_self) hdc.2.1 hdc.2.2.1 fun s' rs' w hrs' h=>?_
     generalize qK x = P at hT' hPl hrs' h
     obtain ⟨nr,g⟩:=P
     simp only at hT' hPl hrs' h ⊢
     first | refine S0 h rfl ?_ rfl ?_ | refine S1 h rfl ?_ rfl ?_ | refine S2 h rfl ?_ rfl ?_ | refine S3 h rfl ?_ rfl ?_ | refine S4 h rfl ?_ rfl ?_ | refine S5 h rfl ?_ rfl ?_ | refine S6 h rfl ?_ rfl ?_ | refine S7 h rfl ?_ rfl ?_ | refine S8 h rfl ?_ rfl ?_
     ·first | exact Nat.lt_of_ble_eq_true rfl | (simp; done) | (simp; omega)
     clear h
     intro w h
     try simp only [N1,N2,N3,N4,N5,N6,N7] at h
     first | refine S0 h rfl ?_ rfl ?_ | refine S1 h rfl ?_ rfl ?_ | refine S2 h rfl ?_ rfl ?_ | refine S3 h rfl ?_ rfl ?_ | refine S4 h rfl ?_ rfl ?_ | refine S5 h rfl ?_ rfl ?_ | refine S6 h rfl ?_ rfl ?_ | refine S7 h rfl ?_ rfl ?_ | refine S8 h rfl ?_ rfl ?_
     ·first | exact Nat.lt_of_ble_eq_true rfl | (simp; done) | (simp; omega)
     clear h
     intro w h
     try simp only [N1,N2,N3,N4,N5,N6,N7] at h
     have hrs2:rs'.map Prod.snd = ({ W' with recs:=W'.recs++nr,part:=part,used:=g }:vJ).recs:=by rw [hrs',hrs]
     have hc2:(W'.recs++nr).length ≤ (part + 1) * 1048576:=by rw [List.length_append]; omega
     have s6:∀ (D2:zI) (wh:Bool) w,OkD D2→(wh = true→LF = vw W.name (10 - (part + 1)) (part + 1) D2 { W' with recs:=W'.recs++nr,part:=part,used:=g })→(wh = false→LF = (D2,{ W' with recs:=W'.recs++nr,part:=part,used:=g },part + 1,0)) →
       Holds B (vP l d { W' with recs:=W'.recs++nr,part:=part,used:=g }::zK d D2::Γ) w→zN.s6 k (fun a1 a2 w'=>(∃ (part:Nat) (D':zI) (W':vJ),a2 = (part:Int)∧part ≤ 10∧OkD D'∧W'.name = W.name∧W'.recs.length ≤ part * 1048576 ∧
   (a1 = true→LF = vw W.name (10 - part) part D' W')∧(a1 = false→LF = (D',W',part,0))∧Holds B (vP l d W'::zK d D'::Γ) w')∧(10 - a2).toNat < (10 - (part:Int)).toNat) (some ⟨l,0,none⟩) wh (part:Int) w:=by
      intro D2 wh w hD2 q1 q2 h
      unfold zN.s6
      refine jT (by omega) (by omega) ?_
      exact ⟨⟨part + 1,D2,{ W' with recs:=W'.recs++nr,part:=part,used:=g },by omega,by omega,hD2,hnm,hc2,q1,q2,h⟩,by omega⟩
     by_cases hg:g = x.length
     ·rw [if_pos hg] at hT'
      rw [decide_eq_true (show (g:Int) = (sd.n:Int) by omega)]
      refine zf rfl ?_
      replace h:=P4 h
      replace h:=P3 h
      replace h:=P3 h
      replace h:=P3 h
      replace h:=D4 h
      try simp only [N1,N2,N3,N4,N5,N6,N7] at h
      have h6:=vP.shuts (W:={ W' with recs:=W'.recs++nr,part:=part,used:=g }) hrs2 h
      refine s6 D' true w hD' (fun _=>?_) (fun hf=>by cases hf) h6
      rw [hT',show 10 - (part + 1) = f by omega]
     ·rw [if_neg hg] at hT'
      rw [decide_eq_false (show ¬ (g:Int) = (sd.n:Int) by omega)]
      refine qJ rfl ?_
      replace h:=P4 h
      replace h:=P3 h
      replace h:=P3 h
      replace h:=P3 h
      replace h:=D4 h
      try simp only [N1,N2,N3,N4,N5,N6,N7] at h
      refine zDS h ?_
      clear h
      intro w h
      have hS:Holds B (blk l (.cells (wA d ({ W' with part:=part,used:=g }:vJ) s') qg (0,0))::SlC zT 1 s' (List.map uf rs')::stars (List.map ug rs')::Γ) w:=h.del 3 at3
      refine zBX hS ?_
      refine zEM (x:=some ⟨d,0,none⟩) rfl M0 rfl ?_
      refine je (W:={ W' with part:=part,used:=g }) (by omega) (by simp only; rw [hnm]; omega) h ?_
      rw [show yZ ({ W' with part:=part,used:=g }:vJ).name part = yZ W.name part by show yZ W'.name part = _; rw [hnm]]
      refine zH9 hS ?_
      replace h:=P2 h
      replace h:=P2 h
      replace h:=P2 h
      replace h:=P3 h
      try simp only [N1,N2,N3,N4,N5,N6,N7] at h
      refine zJv (n:=yZ W.name part) (c:=(g:Int)) hD' h fun w hD2 h=>?_
      replace h:=P3 h
      replace h:=P3 h
      replace h:=P3 h
      try simp only [N1,N2,N3,N4,N5,N6,N7] at h
      have h6:=vP.shuts (W:={ W' with recs:=W'.recs++nr,part:=part,used:=g }) hrs2 h
      refine yV (fun hz=>?_) (fun hz=>?_)
      ·have hz':(D'.cut (yZ W.name part) (g:Int)).2 ≠ 0:=by simpa using hz
       rw [if_pos hz'] at hT'
       rw [hT',if_pos hz'] at hk
       exact hk _ hD2 h6
      ·have hz':¬ (D'.cut (yZ W.name part) (g:Int)).2 ≠ 0:=by simpa using hz
       rw [if_neg hz'] at hT'
       exact s6 _ false w hD2 (fun hf=>by cases hf) (fun _=>hT') h6
  ·simp only [decide_eq_false_iff_not] at hb
   have hp10:part = 10:=by omega
   subst hp10
   exact out (by rw [hT']; rfl) h
 ·have hF':=hF hwh
  unfold zN.s5
  exact zf rfl (out hF' h)
end
end
section
open Go Go.Sep
theorem zJ0 {ks:List Int} {g:List UInt8→qP} {ns:List (List UInt8)} {n:List UInt8} (hnd:ns.Nodup) (hn:n ∈ ns):∃ i,za n (qw ks g ns) = some (xV ks i (g n)):=by
 obtain ⟨i,hi⟩:=List.getElem?_of_mem hn
 refine ⟨i,?_⟩
 have hm:(n,xV ks i (g n)) ∈ qw ks g ns:=by
  unfold qw
  refine List.mem_map.2 ⟨(n,i),?_,rfl⟩
  exact List.mem_of_getElem? (i:=i) (by rw [List.getElem?_zipIdx,hi]; simp)
 have:=zAi (m:=qw ks g ns) (by rw [zBN]; exact hnd) hm
 exact this
theorem zHL {D:zI} (hD:OkD D) (ks:List Int) {n:List UInt8} {f:qP} (hm:za n D.files = some f):∃ i,za n (D.crash ks).files = some (xV ks i f):=by
 have hn:n ∈ D.names:=zCX.2 (by
  have:=List.mem_map_of_mem (f:=Prod.fst) (zDu hm)
  exact this)
 obtain ⟨i,hi⟩:=zJ0 (ks:=ks) (g:=D.file) (zAj hD) hn
 refine ⟨i,?_⟩
 have hf:D.file n = f:=by unfold zI.file; rw [hm]; rfl
 rw [hf] at hi
 exact hi
theorem zGd (ks:List Int) (i:Nat) {f:qP} (hl:f.last = f.data.length):xV ks i f = f:=by
 have:=zCW ks i f
 have hk:uQ ks i f = 0:=by omega
 unfold xV
 rw [hk,Nat.add_zero,hl,List.take_length]
 cases f
 simp only at hl
 rw [hl]
end
section
open Go Go.Sep
structure Free (D:zI):Prop where
 left:D.a.left = -1
 down:D.a.down = false
structure Beside (W:vJ) (D D':zI) (n:Nat):Prop where
 a:D'.a = D.a
 used:yt D'.files ≤ yt D.files + n
 few:D'.files.length ≤ D.files.length + 1
 others:∀ m,(∀ k,k ≤ 9→m ≠ yZ W.name k)→za m D'.files = za m D.files
theorem Beside.refl (W:vJ) (D:zI) (n:Nat):Beside W D D n:=⟨rfl,by omega,by omega,fun _ _=>rfl⟩
section
variable {W:vJ} {D:zI} {q:List (List (List UInt8))} {p:List (List UInt8)} {lk:Nat} {there:Bool}
end
end
section
open Go Go.Sep
def jQ (name:List UInt8) (size:Int):vJ:=⟨name,size,0,0,false,[]⟩
theorem zHM {D:zI} {ks:List Int}:Free (D.crash ks):=⟨rfl,rfl⟩
end
section
open Go Go.Sep
section
variable {B w:World} {Γ:List zC} {l d:Nat} {W:vJ} {s:Sl} {rs:zDx} {D:zI}
theorem zEI {name:List UInt8} {size:Int} {k:Option Addr→Int→K} (hn:1 ≤ name.length∧name.length ≤ 8) (hsz:16 ≤ size∧size ≤ 65536) (hD:OkD D) (h:Holds B (zK d D::Γ) w)
  (hok:((jQ name size).load D).2.2 = 0→∀ l w,OkD ((jQ name size).load D).1→Holds B (vP l d ((jQ name size).load D).2.1::zK d ((jQ name size).load D).1::Γ) w→k (some ⟨l,0,none⟩) 0 w)
  (herr:((jQ name size).load D).2.2 ≠ 0→∀ w,OkD ((jQ name size).load D).1→Holds B (zK d ((jQ name size).load D).1::Γ) w→k none ((jQ name size).load D).2.2 w):xA.call (some ⟨d,0,none⟩) (bs name) size k w:=by
 refine zGJ _ _ _ _ _ ?_
 unfold xA
 have hsz':((bs name).size:Int) = name.length:=by simp [bs,ByteArray.size]
 refine zf ?_ ?_
 ·rw [uL]
  have e0:(⟨#[]⟩:ByteArray).toList = []:=uL []
  rw [e0]
  have:name ≠ []:=fun e=>by rw [e] at hn; simp at hn
  simpa using this
 refine zf (by simp only [decide_eq_false_iff_not]; omega) ?_
 refine zf (by simp only [decide_eq_false_iff_not]; omega) ?_
 unfold xA.s1
 refine zf (by simp only [decide_eq_false_iff_not]; omega) ?_
 refine vR h ?_
 clear h
 intro l w h
 try simp only [yC,Nat.zero_add,Nat.reduceAdd]
 replace h:=(h.jh).jo zT 1
 replace h:=P3 h
 replace h:=P2 h
 replace h:=P2 h
 replace h:=P3 h
 try simp only [N1,N2,N3,N4,N5,N6,N7] at h
 have h2:=vP.shuts (W:=jQ name size) (rs:=[]) rfl h
 refine zEH hD hn.2 rfl h2 fun w hD' h=>?_
 refine yV (fun hq=>?_) (fun hq=>?_)
 ·exact herr (by simpa using hq) w hD' h.tail
 ·exact hok (by simpa using hq) l w hD' h
theorem zJy.opens {recs:List (List UInt8)} (h:Holds B (zJy s recs::Γ) w):∃ rs:zDx,rs.map Prod.snd = recs∧Holds B (SlC zT 1 s (rs.map uf)::stars (rs.map ug)::Γ) w:=by
 obtain ⟨rs,h⟩:=Holds.ex.1 h
 obtain ⟨h1,h2⟩:=Holds.pur.1 (Holds.flat.1 h)
 exact ⟨rs,h1,h2⟩
def one:List UInt8:=[111,110,101]
def two:List UInt8:=[116,119,111]
end
end
end Go.Proofs.YtgmbfnboiobeaaaGreat
namespace Go.Sep
section
open Go Go.RowKit
abbrev zLx (r:Loop):Loop:={ r with state:=.busy }
abbrev zN8 (r:Loop) (J:Exit):Loop:={ r with state:=.done,pending:=some (zGB J) }
abbrev zPJ (r:Loop):Prop:=r.state = .ready∧r.pending = none
def Aft (B:World) (l:Nat) (r:Loop) (J:Exit) (a j:K):K:=fun w=>(∃ Δ,Holds B (blk l (.loop r)::Δ) w∧HG B Δ a)∨(∃ Δ,Holds B (blk l (.loop (zN8 r J))::Δ) w∧HG B Δ j)
section
variable {P:Program} {B:World} {Γ Δ:List zC} {l:Nat} {r:Loop} {J:Exit} {k a j:K}
theorem zMy (h:HG B Δ a) [p:Own l Γ (blk l (.loop r)) Δ]:HG B Γ (Aft B l r J a j):=fun w hw=>.inl ⟨Δ,hw.perm p.perm,h⟩
theorem zLA {D:Nat} (h:HG B Δ k) [p:Own D Γ (blk D (.deferred (some []))) Δ]:HG B Γ (vL D k):=fun w hw=>
 zE6 (hw.perm p.perm) fun w hw=>h w hw
theorem zJ1 {α:Type} {g:FuncId} {cs:List Value} {cX:α→List Value} {body:(K→K)→K→K→α→K} {after afterJ:Nat→K} (hc:callable P g = true)
  (h:∀ D l r,zPJ r→(∀ (x:α) (kN kJ:K) (Δ:List zC),HG B (blk l (.loop r)::Δ) (body (zGx l r) (zGu l (zLx r) kN) (zJW l (zLx r) J kJ) x)→HG B (blk l (.loop r)::Δ) (vK P (yv l) (cX x) (YN kN kJ))) →
   HG B (blk l (.loop r)::blk D (.deferred (some []))::Γ) (zX P g (yv l::cs).toArray fun _=>Aft B l r J (after D) (afterJ D))) :
  HG B Γ (vI P (.func (.func g) #[] cs.toArray) J cX body after afterJ):=fun w hw=>by
 refine ⟨g,cs.toArray,rfl,hc,fun r w1 h1 h2 h3 hw1 hy=>?_⟩
 have h4:=hw.alloc (.deferred (some []))
 have h5:=h4.alloc (.loop r)
 have e:({ w with heap:=w.heap.push (.deferred (some [])) }:World).heap.size = w.heap.size + 1:=by simp
 rw [e] at h5
 subst hw1
 have h6:=h w.heap.size (w.heap.size + 1) r ⟨h1,h2⟩ (fun x kN kJ Δ hb w hw=>⟨_,rfl,hy x kN kJ w hw.block (hb w hw)⟩) _ h5
 refine (show Calls P g (yv (w.heap.size + 1)::cs).toArray _ (Ret _) from h6).mono fun e w3 he=>?_
 cases e with
 | returned v=>
  rcases he with ⟨Δ,h7,h8⟩ | ⟨Δ,h7,h8⟩
  ·exact .inl ⟨h7.block,h8 _ (xX (o':=.loop { r with state:=.exhausted }) h7).tail⟩
  ·exact .inr ⟨h7.block,h8 _ (xX (o':=.loop { r with state:=.exhausted,pending:=some (zGB J) }) h7).tail⟩
 | panicked c=>exact he.elim
 | outgrown=>exact he.elim
end
end
end Go.Sep
namespace Go.Proofs.YtgmbfnboiobeaaaGreat
section
open Go Go.Sep
set_option maxHeartbeats 4000000
attribute [local irreducible] G Gp Cx Tx Ex Sx Dx Ox Ax Lx Rx Fx Bx Bj Al Do Ld LdN St StN New zX Ar DoU Rd Rd2 Pu Cd Ite Fv uj vK vH yc xY zAN zAw zBC Ext Dead Dr xK Sv LdS ji RdS zBQ Nn Idx zBR zBS Fld Bld Slc zBT Cat All yR xk vI vL
instance:CB Tryz.prog 102:=⟨by kernel_rfl⟩
instance:CB Tryz.prog 25:=⟨by kernel_rfl⟩
instance:CB Tryz.prog 26:=⟨by kernel_rfl⟩
instance:CB Tryz.prog 27:=⟨by kernel_rfl⟩
instance:CB Tryz.prog 28:=⟨by kernel_rfl⟩
instance:CB Tryz.prog 31:=⟨by kernel_rfl⟩
instance:CB Tryz.prog 32:=⟨by kernel_rfl⟩
instance:CB Tryz.prog 33:=⟨by kernel_rfl⟩
instance:CB Tryz.prog 35:=⟨by kernel_rfl⟩
instance:CB Tryz.prog 36:=⟨by kernel_rfl⟩
instance:CB Tryz.prog 57:=⟨by kernel_rfl⟩
instance:CB Tryz.prog 59:=⟨by kernel_rfl⟩
instance:CB Tryz.prog 60:=⟨by kernel_rfl⟩
instance:CB Tryz.prog 61:=⟨by kernel_rfl⟩
instance:CB Tryz.prog 62:=⟨by kernel_rfl⟩
instance:CB Tryz.prog 63:=⟨by kernel_rfl⟩
instance:CB Tryz.prog 64:=⟨by kernel_rfl⟩
instance:CB Tryz.prog 68:=⟨by kernel_rfl⟩
instance:CB Tryz.prog 92:=⟨by kernel_rfl⟩
instance:CB Tryz.prog 93:=⟨by kernel_rfl⟩
instance:CT Tryz.prog 66:=⟨by kernel_rfl⟩
instance:CT Tryz.prog 79:=⟨by kernel_rfl⟩
instance:CT Tryz.prog 80:=⟨by kernel_rfl⟩
instance:FT Tryz.prog 127 2 2 1:=⟨by kernel_rfl⟩
instance:FT Tryz.prog 68 0 0 1:=⟨by kernel_rfl⟩
instance:FT Tryz.prog 68 1 1 1:=⟨by kernel_rfl⟩
instance:FT Tryz.prog 68 2 2 1:=⟨by kernel_rfl⟩
instance:FT Tryz.prog 68 3 3 1:=⟨by kernel_rfl⟩
instance:FT Tryz.prog 82 0 0 1:=⟨by kernel_rfl⟩
instance:FT Tryz.prog 82 1 1 1:=⟨by kernel_rfl⟩
instance:PLT Tryz.prog 127 [(0,1),(1,1),(2,1)]:=⟨_,Tryz.underlying127,by kernel_rfl⟩
instance:PLT Tryz.prog 68 [(0,1),(1,1),(2,1),(3,1)]:=⟨_,Tryz.underlying68,by kernel_rfl⟩
instance:PLT Tryz.prog 82 [(0,1),(1,1)]:=⟨_,Tryz.underlying82,by kernel_rfl⟩
instance:UN Tryz.prog 78 (.pointer 82):=⟨Tryz.underlying78⟩
instance:ZT Tryz.prog 68 (.agg #[(.pointer none),(.int .u64 0),(.bool false),(.map none)]):=⟨Tryz.t68,by kernel_rfl,by kernel_rfl⟩
instance:ZT Tryz.prog 82 (.agg #[(.pointer none),(.pointer none)]):=⟨Tryz.t82,by kernel_rfl,by kernel_rfl⟩
def qW (c:Pt) (Q:Int→K): K :=
 yX.call 0 true fun a=>
 yT.call c ⟨#[108,105,102,101]⟩ a fun b=>
 Q b
theorem zB3 (a Q w) (h:qW a Q w):qW.call a Q w:=by
 exact zn 6 h Tryz.func8
def zm.s2 (Q:Pt→Int→K) (b:Int→K) (f:Pt) (g:Sl) (i:Int) (j:(Option Nat)) (k:Sl) (l c:Int) (d:Bool): K :=
 Ite d
  (Q none 1)
  (Ar (IntKind.wrap .i64 (c + 1)) fun a=>
  b a)
def zm.b3 (Q:Pt→Int→K) (l i:Int→K) (c:Addr) (j:Sl) (k a:Int): K :=
 Ite (decide (a < k))
  (Idx j a 1 fun d=>
  Ld d (Value.int .i64) fun f=>
  yI.call (some c) f fun b=>
  Ite (decide (b ≠ 0))
   (Q none b)
   (Ar (IntKind.wrap .i64 (a + 1)) fun g=>
   i g))
  (Q (some c) 0)
def zm.b1 (Q:Pt→Int→K) (f:Int→K) (g:Pt) (a:Sl) (i:Int) (b:(Option Nat)) (j:Sl) (k c:Int): K :=
 Ite (decide (c < k))
  (Idx j c 1 fun o=>
  Ld o (Value.int .i64) fun d=>
  Rd Tryz.prog (Instr.lookup 65 (.map b) (.int .i64 d) false) (Value.int .i64) fun p=>
  Ar (IntKind.wrap .i64 (p + 1)) fun q=>
  DoU Tryz.prog (Instr.mapUpdate 65 (.map b) (.int .i64 d) (.int .i64 q))<|
  Ite (decide (d < 0))
   (zm.s2 Q f g a i b j k c true)
   (Ite (decide ((3:Int) < d))
    (zm.s2 Q f g a i b j k c true)
    (Rd Tryz.prog (Instr.lookup 65 (.map b) (.int .i64 d) false) (Value.int .i64) fun r=>
    Ite (decide ((1:Int) < r))
     (zm.s2 Q f g a i b j k c true)
     (zm.s2 Q f g a i b j k c (decide ((2:Int) < (a.n:Int)))))))
  (Do Tryz.prog (Instr.makeMap 66 none) Value.map fun s=>
  New 68 #[.pointer g,.int .u64 0,.bool false,.map s] fun l=>
  zQ.call (some l) i fun m=>
  Ite (decide (m ≠ 0))
   (Q none m)
   (yR (α:=Int) (fun X x=>zm.b3 Q f X l a (a.n:Int) x) 0))
def zm (c:Pt) (a:Sl) (d:Int) (Q:Pt→Int→K): K :=
 Do Tryz.prog (Instr.makeMap 65 none) Value.map fun b=>
 yR (α:=Int) (fun X x=>zm.b1 Q X c a d b a (a.n:Int) x) 0
theorem zC5 (k l m Q w) (h:zm k l m Q w):zm.call k l m Q w:=by
 have:∀ a,XH 3 a→JH 7 fun D=>∃ b c d f g i j,D [(0,.pointer b),(1,Sl.val c),(2,.int .u64 d),(8,.map f),(17,Sl.val g),(18,.int .i64 i),(19,.int .i64 j)] (fun C=>∀ n,C [(0,.pointer b),(1,Sl.val c),(2,.int .u64 d),(8,.map f),(17,Sl.val g),(18,.int .i64 i),(19,.int .i64 j),(43,.bool n)] (zm.s2 Q a b c d f g i j n)):=by intros; exact ⟨fun _ ⟨_,_,_,_,_,_,_,h⟩=>⟨_,_,h⟩⟩
 have:∀ a,XH 3 a→∀ o p q,LH 14 (fun x:Int=>[(11,(.pointer (some o))),(55,Sl.val p),(56,.int .i64 q),(57,.int .i64 x)]) (fun X x=>zm.b3 Q a X o p q x):=by intros; exact ⟨⟩
 have:∀ r s t u v y,LH 3 (fun x:Int=>[(0,.pointer r),(1,Sl.val s),(2,.int .u64 t),(8,.map u),(17,Sl.val v),(18,.int .i64 y),(19,.int .i64 x)]) (fun X x=>zm.b1 Q X r s t u v y x):=fun _ _ _ _ _ _=>⟨⟩
 exact zn 69 h Tryz.func9
def y8 (d:Pt) (f:Sl) (Q:Int→K): K :=
 Nn d fun a=>
 Ld a Value.pointer fun b=>
 yT.call b ⟨#[115,116,97,116,101]⟩ f fun c=>
 Q c
theorem zAF (a b Q w) (h:y8 a b Q w):y8.call a b Q w:=by
 exact zn 11 h Tryz.func10
def qM (f:Pt) (Q:Sl→Int→K): K :=
 Nn f fun a=>
 Ld a Value.pointer fun b=>
 vG.call b ⟨#[115,116,97,116,101]⟩ fun c d=>
 Q c d
theorem zAG (a Q w) (h:qM a Q w):qM.call a Q w:=by
 exact zn 11 h Tryz.func13
def yg (c:Pt) (Q:Int→K): K :=
 Nn c fun a=>
 Ld (a.add 1) (Value.int .u64) fun b=>
 Q b
theorem jy (a Q w) (h:yg a Q w):yg.call a Q w:=by
 exact zn 7 h Tryz.func15
def yh (c:Pt) (Q:Bool→K): K :=
 Nn c fun a=>
 Ld (a.add 2) Value.bool fun b=>
 Q b
theorem j3 (a Q w) (h:yh a Q w):yh.call a Q w:=by
 exact zn 7 h Tryz.func16
def yX.s1 (Q:Sl→K) (b:Addr): K :=
 qU.call (some b) fun a=>
 Q a
def yX (b:Int) (c:Bool) (Q:Sl→K): K :=
 New 85 #[Sl.val ⟨none,0,0⟩] fun a=>
 yY.call (some a) b<|
 Ite c
  (xG.call (some a) 1<|
  yX.s1 Q a)
  (xG.call (some a) 0<|
  yX.s1 Q a)
theorem zC6 (b c Q w) (h:yX b c Q w):yX.call b c Q w:=by
 have:JH 6 fun D=>∃ a,D [(5,(.pointer (some a)))] (fun C=>C [(5,(.pointer (some a)))] (yX.s1 Q a)):=⟨fun _ ⟨_,h⟩=>⟨_,_,h⟩⟩
 exact zn 18 h Tryz.func26
def zQ.s2 (Q:Int→K) (a:Addr) (b k:Int) (l:Bool): K :=
 Ite l
  (Q 61)
  (Ite (decide (b = 18446744073709551615))
   (Q 111)
   (Ar (IntKind.wrap .u64 (b + 1)) fun c=>
   St (a.add 1) (.int .u64 c)<|
   St (a.add 2) (.bool (decide (k = 1)))<|
   Dr <| xK fun S=>
   LdS S a Value.pointer fun d=>
   LdS S (a.add 1) (Value.int .u64) fun f=>
   LdS S (a.add 2) Value.bool fun g=>
   yX.call f g fun i=>
   Sv S<|
   yT.call d ⟨#[108,105,102,101]⟩ i fun j=>
   Q j))
def zQ.s1 (Q:Int→K) (c:Addr) (g:Int) (l:Sl): K :=
 xu.call l fun d=>
 zY.call d fun f i=>
 xH.call d fun a j=>
 Ar (if (g:Int) > f then g else f) fun b=>
 Ite (decide (i ≠ 0))
  (zQ.s2 Q c b a true)
  (Ite (decide (j ≠ 0))
   (zQ.s2 Q c b a true)
   (Ite (decide ((1:Int) < a))
    (zQ.s2 Q c b a true)
    (q9.call d fun k=>
    zQ.s2 Q c b a (decide (k ≠ 0)))))
def zQ (i:Pt) (c:Int) (Q:Int→K): K :=
 Nn i fun a=>
 Ld a Value.pointer fun d=>
 vG.call d ⟨#[108,105,102,101]⟩ fun f b=>
 Ite (decide (b = 60))
  (yX.call 0 false fun g=>
  zQ.s1 Q a c g)
  (Ite (decide (b ≠ 0))
   (Q b)
   (zQ.s1 Q a c f))
theorem j4 (i j Q w) (h:zQ i j Q w):zQ.call i j Q w:=by
 have:DH 15 2 [13] (.s [0,1,2,4,5,6,8,9,10,3,7,11] (.a [(12,1,.a [(13,0,.s [14] .e)])])):=⟨⟩
 have:JH 11 fun D=>∃ b c d,D [(0,(.pointer (some b))),(8,.int .u64 c),(9,.int .u8 d)] (fun C=>∀ k,C [(0,(.pointer (some b))),(8,.int .u64 c),(9,.int .u8 d),(42,.bool k)] (zQ.s2 Q b c d k)):=⟨fun _ ⟨_,_,_,h⟩=>⟨_,_,h⟩⟩
 have:JH 6 fun D=>∃ f g,D [(0,(.pointer (some f))),(1,.int .u64 g)] (fun C=>∀ l,C [(0,(.pointer (some f))),(1,.int .u64 g),(5,Sl.val l)] (zQ.s1 Q f g l)):=⟨fun _ ⟨_,_,h⟩=>⟨_,_,h⟩⟩
 exact zn 85 h Tryz.func27
def yI.b1 (Q k:Int→K) (l:Addr) (m:Int) (b:Addr) (n:Sl) (o a:Int): K :=
 Ite (decide (a < o))
  (Idx n a 1 fun c=>
  Ld c Sl.val fun d=>
  Ld (b.add 1) Value.pointer fun f=>
  zU.call f d fun g=>
  Ite (!g)
   (Q 31)
   (Ar (IntKind.wrap .i64 (a + 1)) fun i=>
   k i))
  (Ld (l.add 3) Value.map fun j=>
  DoU Tryz.prog (Instr.mapUpdate 66 (.map j) (.int .i64 m) (.pointer (some b)))<|
  Q 0)
def yI (p:Pt) (f:Int) (Q:Int→K): K :=
 Nn p fun a=>
 Ld a Value.pointer fun g=>
 Ar (IntKind.wrap .i64 (48 + f)) fun i=>
 Ar (IntKind.wrap .i32 i) fun j=>
 Rd Tryz.prog (convert 21 9 (.int .i32 j)) Value.string fun k=>
 Cat (⟨#[103]⟩:ByteArray) k fun l=>
 xA.call g l 40960 fun b c=>
 Ite (decide (c ≠ 0))
  (Q c)
  (qZ.call  fun m=>
  New 82 #[.pointer b,.pointer m] fun o=>
  yu.call b fun d=>
  yR (α:=Int) (fun X x=>yI.b1 Q X a f o d (d.n:Int) x) 0)
theorem zAH (a b Q w) (h:yI a b Q w):yI.call a b Q w:=by
 have:∀ c d f g i,LH 6 (fun x:Int=>[(0,(.pointer (some c))),(1,.int .i64 d),(7,(.pointer (some f))),(31,Sl.val g),(32,.int .i64 i),(33,.int .i64 x)]) (fun X x=>yI.b1 Q X c d f g i x):=fun _ _ _ _ _=>⟨⟩
 exact zn 51 h Tryz.func28
def zU.s1 (Q:Bool→K) (a:Bool): K :=
 Q a
def zU.s2 (Q:Bool→K) (b:Pt) (c:Int) (d:Bool): K :=
 Ite d
  (yN.call b c 0 fun f a=>
  zU.s1 Q a)
  (zU.s1 Q false)
def zU.s3 (Q:Bool→K) (d:Pt) (f g:Int) (i:Sl) (j:Bool): K :=
 Ite j
  (Ar (IntKind.wrap .i64 f) fun a=>
  Rd Tryz.prog (convert 22 9 (Sl.val i)) Value.string fun b=>
  yP.call d #[.int .i64 a,.int .u64 g,.string b] fun c=>
  zU.s1 Q c)
  (zU.s1 Q false)
def zU (b:Pt) (p:Sl) (Q:Bool→K): K :=
 xu.call p fun a=>
 xH.call a fun g q=>
 Ite (decide (g = 1))
  (zY.call a fun i j=>
  Ite (decide (j = 0))
   (q9.call a fun k=>
   zU.s2 Q b i (decide (k = 0)))
   (zU.s2 Q b i false))
  (Ite (decide (g = 2))
   (zY.call a fun c l=>
   zY.call a fun d m=>
   ql.call a fun f n=>
   Ite (decide (l = 0))
    (Ite (decide (m = 0))
     (Ite (decide (n = 0))
      (q9.call a fun o=>
      Ite (decide (o = 0))
       (zU.s3 Q b c d f (decide (c < 64)))
       (zU.s3 Q b c d f false))
      (zU.s3 Q b c d f false))
     (zU.s3 Q b c d f false))
    (zU.s3 Q b c d f false))
   (zU.s1 Q false))
theorem zB4 (i j Q w) (h:zU i j Q w):zU.call i j Q w:=by
 have:JH 15 fun D=>D [] (fun C=>∀ k,C [(8,.bool k)] (zU.s1 Q k)):=⟨fun _ h=>⟨_,_,h⟩⟩
 have:JH 8 fun D=>∃ a b,D [(0,.pointer a),(9,.int .u64 b)] (fun C=>∀ l,C [(0,.pointer a),(8,.bool false),(9,.int .u64 b),(38,.bool l)] (zU.s2 Q a b l)):=⟨fun _ ⟨_,_,h⟩=>⟨_,_,h⟩⟩
 have:JH 14 fun D=>∃ c d f g,D [(0,.pointer c),(11,.int .u64 d),(13,.int .u64 f),(15,Sl.val g)] (fun C=>∀ m,C [(0,.pointer c),(8,.bool false),(11,.int .u64 d),(13,.int .u64 f),(15,Sl.val g),(80,.bool m)] (zU.s3 Q c d f g m)):=⟨fun _ ⟨_,_,_,_,h⟩=>⟨_,_,h⟩⟩
 exact zn 90 h Tryz.func64
instance:AT Tryz.prog 116 3:=⟨by kernel_rfl⟩
instance:AT Tryz.prog 56 7:=⟨by kernel_rfl⟩
instance:CB Tryz.prog 10:=⟨by kernel_rfl⟩
instance:CB Tryz.prog 13:=⟨by kernel_rfl⟩
instance:CB Tryz.prog 14:=⟨by kernel_rfl⟩
instance:CB Tryz.prog 15:=⟨by kernel_rfl⟩
instance:CB Tryz.prog 16:=⟨by kernel_rfl⟩
instance:CB Tryz.prog 37:=⟨by kernel_rfl⟩
instance:CB Tryz.prog 44:=⟨by kernel_rfl⟩
instance:CB Tryz.prog 45:=⟨by kernel_rfl⟩
instance:CB Tryz.prog 46:=⟨by kernel_rfl⟩
instance:CB Tryz.prog 47:=⟨by kernel_rfl⟩
instance:CB Tryz.prog 48:=⟨by kernel_rfl⟩
instance:CB Tryz.prog 49:=⟨by kernel_rfl⟩
instance:CB Tryz.prog 50:=⟨by kernel_rfl⟩
instance:CB Tryz.prog 7:=⟨by kernel_rfl⟩
instance:CB Tryz.prog 8:=⟨by kernel_rfl⟩
instance:CB Tryz.prog 9:=⟨by kernel_rfl⟩
instance:CT Tryz.prog 32:=⟨by kernel_rfl⟩
instance:FT Tryz.prog 107 0 0 1:=⟨by kernel_rfl⟩
instance:FT Tryz.prog 107 1 1 1:=⟨by kernel_rfl⟩
instance:FT Tryz.prog 107 2 2 1:=⟨by kernel_rfl⟩
instance:FT Tryz.prog 116 0 0 1:=⟨by kernel_rfl⟩
instance:FT Tryz.prog 56 0 0 1:=⟨by kernel_rfl⟩
instance:FT Tryz.prog 56 1 1 1:=⟨by kernel_rfl⟩
instance:FT Tryz.prog 56 2 2 1:=⟨by kernel_rfl⟩
instance:FT Tryz.prog 56 4 4 1:=⟨by kernel_rfl⟩
instance:FT Tryz.prog 56 5 5 1:=⟨by kernel_rfl⟩
instance:FT Tryz.prog 56 6 6 1:=⟨by kernel_rfl⟩
instance:FT Tryz.prog 99 0 0 1:=⟨by kernel_rfl⟩
instance:FT Tryz.prog 99 1 1 1:=⟨by kernel_rfl⟩
instance:FT Tryz.prog 99 2 2 1:=⟨by kernel_rfl⟩
instance:PLT Tryz.prog 107 [(0,1),(1,1),(2,1)]:=⟨_,Tryz.underlying107,by kernel_rfl⟩
instance:SLT Tryz.prog 120 107 3:=⟨by kernel_rfl⟩
instance:SLT Tryz.prog 46 56 7:=⟨by kernel_rfl⟩
instance:SZ Tryz.prog 116 3:=⟨by kernel_rfl⟩
instance:SZ Tryz.prog 56 7:=⟨by kernel_rfl⟩
instance:UN Tryz.prog 24 (.pointer 62):=⟨Tryz.underlying24⟩
instance:UN Tryz.prog 29 (.pointer 68):=⟨Tryz.underlying29⟩
instance:UN Tryz.prog 4 .bool:=⟨Tryz.underlying4⟩
instance:ZT Tryz.prog 107 (.agg #[(.int .i64 0),(.int .u64 0),(.string ⟨#[]⟩)]):=⟨Tryz.t107,by kernel_rfl,by kernel_rfl⟩
instance:ZT Tryz.prog 116 (.agg #[(.string ⟨#[]⟩),(Sl.val ⟨none,0,0⟩),(.int .i64 0)]):=⟨Tryz.t116,by kernel_rfl,by kernel_rfl⟩
instance:ZT Tryz.prog 3 (.int .i64 0):=⟨Tryz.t3,by kernel_rfl,by kernel_rfl⟩
instance:ZT Tryz.prog 56 (.agg #[(.int .i64 0),(.int .i64 0),(.int .i64 0),(.int .i64 0),(.int .u64 0),(.string ⟨#[]⟩),(Sl.val ⟨none,0,0⟩)]):=⟨Tryz.t56,by kernel_rfl,by kernel_rfl⟩
def yA.s2 (Q:Bool→K) (a:Bool): K :=
 Q a
def yA.s1 (Q:Bool→K) (k l:Pt) (m:Bool): K :=
 Ite m
  (Q false)
  (New 3 #[.int .i64 0] fun c=>
  zm.call k (Sl.mk (some c) 1 1) 0 fun a n=>
  New 3 #[.int .i64 0] fun d=>
  zm.call l (Sl.mk (some d) 1 1) 7 fun b o=>
  Ite (!(a).isNone)
   (Ite (!(b).isNone)
    (yg.call a fun f=>
    Ite (decide (f = 1))
     (yh.call a fun g=>
     Ite g
      (yg.call b fun i=>
      Ite (decide (i = 8))
       (yh.call b fun j=>
       yA.s2 Q (!j))
       (yA.s2 Q false))
      (yA.s2 Q false))
     (yA.s2 Q false))
    (yA.s2 Q false))
   (yA.s2 Q false))
def yA  (Q:Bool→K): K :=
 qm.call 1000 fun a d=>
 qm.call 1000 fun b f=>
 Ite ((a).isNone)
  (yA.s1 Q a b true)
  (Ite ((b).isNone)
   (yA.s1 Q a b true)
   (qW.call a fun c=>
   yA.s1 Q a b (decide (c ≠ 0))))
theorem zC7 (Q w) (h:yA  Q w):yA.call  Q w:=by
 have:JH 1000007 fun D=>D [] (fun C=>∀ c,C [(0,.bool c)] (yA.s2 Q c)):=⟨fun _ h=>⟨_,_,h⟩⟩
 have:JH 4 fun D=>∃ a b,D [(1,.pointer a),(3,.pointer b)] (fun C=>∀ d,C [(1,.pointer a),(3,.pointer b),(27,.bool d)] (yA.s1 Q a b d)):=⟨fun _ ⟨_,_,h⟩=>⟨_,_,h⟩⟩
 exact zn 65 h Tryz.func6
end
end Go.Proofs.YtgmbfnboiobeaaaGreat
