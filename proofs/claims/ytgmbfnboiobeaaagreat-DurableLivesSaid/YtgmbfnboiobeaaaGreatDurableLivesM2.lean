/- Texts of the claim DurableLives, one behind the other. -/
import Derived.Test.YtgmbfnboiobeaaaGreatDurableLivesM1
import Derived.Lib.Overlaps
import Derived.MapKept
import GoSem.Instr.MapUpdate
import Derived.Shelf.SortM.Plain
import Derived.Shelf.SortM.SortNone
import Derived.Ground.SlgmProg
import Derived.Test.YtgmbfnboiobeaaaGreatProg
import Derived.Maps.RangeRun
set_option linter.all false
set_option maxRecDepth 100000
namespace Go.Proofs.YtgmbfnboiobeaaaGreat
section
open Go Go.Sep
set_option maxHeartbeats 4000000
attribute [local irreducible] G Gp Cx Tx Ex Sx Dx Ox Ax Lx Rx Fx Bx Bj Al Do Ld LdN St StN New zY Ar DoU Rd Rd2 Pu Cd Ite Fv u6 vS vP yt vD zAE zAo zBK Ext Dead Dr qx Sv LdS jw RdS zBZ Nn Idx zBa zBb Fld Bld Slc zBc Cat All yY vE vI vT
instance:CB Tryz.prog 100:=⟨by kernel_rfl⟩
instance:CB Tryz.prog 108:=⟨by kernel_rfl⟩
instance:CB Tryz.prog 122:=⟨by kernel_rfl⟩
instance:CB Tryz.prog 123:=⟨by kernel_rfl⟩
instance:CB Tryz.prog 69:=⟨by kernel_rfl⟩
instance:CT Tryz.prog 111:=⟨by kernel_rfl⟩
instance:CT Tryz.prog 24:=⟨by kernel_rfl⟩
instance:FT Tryz.prog 195 0 0 1:=⟨by kernel_rfl⟩
instance:FT Tryz.prog 195 1 1 1:=⟨by kernel_rfl⟩
instance:FT Tryz.prog 195 2 2 1:=⟨by kernel_rfl⟩
instance:FT Tryz.prog 195 3 3 1:=⟨by kernel_rfl⟩
instance:FT Tryz.prog 195 4 4 1:=⟨by kernel_rfl⟩
instance:FT Tryz.prog 195 5 5 1:=⟨by kernel_rfl⟩
instance:FT Tryz.prog 195 6 6 1:=⟨by kernel_rfl⟩
instance:INT Tryz.prog 21 .i32:=⟨by kernel_rfl⟩
instance:PLT Tryz.prog 195 [(0,1),(1,1),(2,1),(3,1),(4,1),(5,1),(6,1)]:=⟨_,Tryz.underlying195,by kernel_rfl⟩
instance:SLT Tryz.prog 111 22 1:=⟨by kernel_rfl⟩
instance:SZ Tryz.prog 111 1:=⟨by kernel_rfl⟩
instance:ZT Tryz.prog 195 (.agg #[(.pointer none),(.string ⟨#[]⟩),(.int .i64 0),(.int .i64 0),(.int .i64 0),(.bool false),(Sl.val ⟨none,0,0⟩)]):=⟨Tryz.t195,by kernel_rfl,by kernel_rfl⟩
def xO.s1 (Q:Pt→Int→K) (c:Pt) (d:ByteArray) (f:Int) (g:Bool): K :=
 Ite g
  (Q none 1)
  (New 195 #[.pointer c,.string d,.int .i64 f,.int .i64 0,.int .i64 0,.bool false,Sl.val ⟨none,0,0⟩] fun a=>
  zO.call (some a) fun b=>
  Ite (decide (b ≠ 0))
   (Q none b)
   (Q (some a) 0))
def xO (c:Pt) (a:ByteArray) (b:Int) (Q:Pt→Int→K): K :=
 Ite (a.toList == (⟨#[]⟩:ByteArray).toList)
  (xO.s1 Q c a b true)
  (Ite (decide ((8:Int) < (a.size:Int)))
   (xO.s1 Q c a b true)
   (Ite (decide (b < 16))
    (xO.s1 Q c a b true)
    (xO.s1 Q c a b (decide ((65536:Int) < b)))))
theorem zGw (d f g Q w) (h:xO d f g Q w):xO.call d f g Q w:=by
 have:JH 2 fun D=>∃ a b c,D [(0,.pointer a),(1,.string b),(2,.int .i64 c)] (fun C=>∀ i,C [(0,.pointer a),(1,.string b),(2,.int .i64 c),(24,.bool i)] (xO.s1 Q a b c i)):=⟨fun _ ⟨_,_,_,h⟩=>⟨_,_,h⟩⟩
 exact zn 36 h Tryz.func61
def y9.b1 (Q:Sl→K) (k:Sl→Int→K) (l:Sl) (m:Int) (b:Sl) (a:Int): K :=
 Ite (decide (a < m))
  (Idx l a 1 fun c=>
  Ld c Sl.val fun d=>
  zh.call d fun f=>
  New 22 #[Sl.val f] fun g=>
  Do Tryz.prog (Builtin.append_ #[111,111] 111 #[Sl.val b,(Sl.val (Sl.mk (some g) 1 1))]) Sl.val fun i=>
  Ar (IntKind.wrap .i64 (a + 1)) fun j=>
  k i j)
  (Q b)
def y9 (f:Pt) (Q:Sl→K): K :=
 Nn f fun b=>
 Ld (b.add 6) Sl.val fun a=>
 yY (α:=Sl×Int) (fun X x=>y9.b1 Q (fun c d=>X (c,d)) a (a.n:Int) x.1 x.2) ((Sl.mk none 0 0),0)
theorem zBj (a Q w) (h:y9 a Q w):y9.call a Q w:=by
 have:∀ b c,LH 2 (fun x:Sl×Int=>[(2,Sl.val x.1),(8,Sl.val b),(9,.int .i64 c),(10,.int .i64 x.2)]) (fun X x=>y9.b1 Q (fun d f=>X (d,f)) b c x.1 x.2):=fun _ _=>⟨⟩
 exact zn 21 h Tryz.func63
def zx.s1 (Q:Int→K) (a:Addr) (o c:Sl) (d p:Int): K :=
 Dr <| qx fun S=>
 LdS S a Value.pointer fun f=>
 qg.call (some a) d fun g=>
 Sv S<|
 zS.call f g c fun b=>
 Ite (decide (b ≠ 0))
  (Q b)
  (Ar (IntKind.wrap .i64 (p + (c.n:Int))) fun i=>
  St (a.add 3) (.int .i64 d)<|
  St (a.add 4) (.int .i64 i)<|
  St (a.add 5) (.bool true)<|
  Dr <| qx fun S=>
  LdS S (a.add 6) Sl.val fun j=>
  zh.call o fun k=>
  Sv S<|
  New 22 #[Sl.val k] fun l=>
  Sv S<|
  Do Tryz.prog (Builtin.append_ #[111,111] 111 #[Sl.val j,(Sl.val (Sl.mk (some l) 1 1))]) Sl.val fun m=>
  St (a.add 6) (Sl.val m)<|
  Q 0)
def zx.s2 (Q:Int→K) (a:Addr) (d f:Sl) (g i:Int) (j:Bool): K :=
 Ite j
  (Ar (IntKind.wrap .i64 (g + 1)) fun b=>
  Ite (decide (b = 10))
   (Q 2)
   (xq.call (some a) fun c=>
   Ite (decide (c ≠ 0))
    (Q c)
    (zx.s1 Q a d f b 0)))
  (zx.s1 Q a d f g i)
def zx (k:Pt) (d:Sl) (Q:Int→K): K :=
 xu.call d fun c f=>
 Ite (decide (f ≠ 0))
  (Q f)
  (Dr<|
  Nn k fun a=>
  Ld (a.add 3) (Value.int .i64) fun g=>
  Ld (a.add 4) (Value.int .i64) fun b=>
  Ite (decide ((0:Int) < b))
   (Ar (IntKind.wrap .i64 (b + (c.n:Int))) fun i=>
   Ld (a.add 2) (Value.int .i64) fun j=>
   zx.s2 Q a d c g b (decide (j < i)))
   (zx.s2 Q a d c g b false))
theorem zCD (l m Q w) (h:zx l m Q w):zx.call l m Q w:=by
 have:DH 16 2 [8,11] (.s [0,1,2,3,5,4] (.a [(6,1,.a [(7,1,.a [(8,0,.s [9,10] (.a [(11,0,.e)]))])])])):=⟨⟩
 have:DH 12 2 [8] (.s [0,1,2,4,5,7,3] (.a [(6,1,.a [(8,0,.s [9] .e)])])):=⟨⟩
 have:JH 12 fun D=>∃ b c d,D [(0,(.pointer (some b))),(1,Sl.val c),(5,Sl.val d)] (fun C=>∀ n o,C [(0,(.pointer (some b))),(1,Sl.val c),(5,Sl.val d),(7,.int .i64 n),(8,.int .i64 o)] (zx.s1 Q b c d n o)):=⟨fun _ ⟨_,_,_,h⟩=>⟨_,_,h⟩⟩
 have:JH 6 fun D=>∃ f g i j k,D [(0,(.pointer (some f))),(1,Sl.val g),(5,Sl.val i),(7,.int .i64 j),(8,.int .i64 k)] (fun C=>∀ p,C [(0,(.pointer (some f))),(1,Sl.val g),(5,Sl.val i),(7,.int .i64 j),(8,.int .i64 k),(39,.bool p)] (zx.s2 Q f g i j k p)):=⟨fun _ ⟨_,_,_,_,_,h⟩=>⟨_,_,h⟩⟩
 exact zn 86 h Tryz.func68
def xq (i:Pt) (Q:Int→K): K :=
 Nn i fun a=>
 Ld (a.add 5) Value.bool fun c=>
 Ite (!c)
  (Q 0)
  (Dr <| qx fun S=>
  LdS S a Value.pointer fun d=>
  LdS S (a.add 3) (Value.int .i64) fun f=>
  qg.call (some a) f fun g=>
  Sv S<|
  zo.call d g fun b=>
  St (a.add 5) (.bool (decide (b ≠ 0)))<|
  Q b)
theorem zDW (b Q w) (h:xq b Q w):xq.call b Q w:=by
 have:DH 3 2 [10] (.s [0,1,2,4,5,6,7,3,8] (.a [(9,1,.a [(10,0,.s [11] .e)])])):=⟨⟩
 exact zn 26 h Tryz.func69
def zO.s3 (Q b:Int→K) (g:Addr) (i c d:Int) (f:Bool): K :=
 Ite f
  (Q d)
  (Ar (IntKind.wrap .i64 (c - 1)) fun a=>
  b a)
def zO.b2 (Q f:Int→K) (j:Pt) (d c:Int): K :=
 Ite (decide (d ≤ c))
  (Dr <| qx fun S=>
  Nn j fun a=>
  LdS S a Value.pointer fun g=>
  qg.call (some a) c fun i=>
  Sv S<|
  za.call g i fun b=>
  Ite (decide (b ≠ 0))
   (zO.s3 Q f a d c b (decide (b ≠ 60)))
   (zO.s3 Q f a d c b false))
  (Q 0)
def zO.s1 (Q:Int→K) (a:Pt) (b:Int): K :=
 yY (α:=Int) (fun X x=>zO.b2 Q X a b x) 9
def zO.s6 (Q:Int→K) (b:Bool→Int→K) (f:Pt) (c:Bool) (d:Int): K :=
 Ar (IntKind.wrap .i64 (d + 1)) fun a=>
 b c a
def zO.s5 (Q:Int→K) (i:Bool→Int→K) (j:Pt) (b:Int) (p:Bool): K :=
 Ite p
  (Dr <| qx fun S=>
  Nn j fun a=>
  LdS S a Value.pointer fun k=>
  qg.call (some a) b fun l=>
  Sv S<|
  xC.call k l fun d f=>
  Ite (decide (f = 60))
   (zO.s1 Q (some a) b)
   (Ite (decide (f ≠ 0))
    (Q f)
    (yV.call (some a) d fun c=>
    St (a.add 3) (.int .i64 b)<|
    St (a.add 4) (.int .i64 c)<|
    Ite (!(decide (c = (d.n:Int))))
     (Dr <| qx fun S=>
     LdS S a Value.pointer fun m=>
     qg.call (some a) b fun o=>
     Sv S<|
     zK.call m o c fun g=>
     Ite (decide (g ≠ 0))
      (Q g)
      (zO.s6 Q i (some a) (decide (c = (d.n:Int))) b))
     (zO.s6 Q i (some a) (decide (c = (d.n:Int))) b))))
  (zO.s1 Q j b)
def zO.b4 (Q:Int→K) (b:Bool→Int→K) (c:Pt) (d:Bool) (a:Int): K :=
 Ite d
  (zO.s5 Q b c a (decide (a < 10)))
  (zO.s5 Q b c a false)
def zO (c:Pt) (Q:Int→K): K :=
 yY (α:=Bool×Int) (fun X x=>zO.b4 Q (fun a b=>X (a,b)) c x.1 x.2) (true,0)
theorem zDX (p Q w) (h:zO p Q w):zO.call p Q w:=by
 have:∀ q,XH 15 q→JH 19 fun D=>∃ f g i j,D [(0,(.pointer (some f))),(4,.int .i64 g),(9,.int .i64 i),(10,.int .i64 j)] (fun C=>∀ r,C [(0,(.pointer (some f))),(4,.int .i64 g),(9,.int .i64 i),(10,.int .i64 j),(81,.bool r)] (zO.s3 Q q f g i j r)):=by intros; exact ⟨fun _ ⟨_,_,_,_,h⟩=>⟨_,_,h⟩⟩
 have:DH 17 2 [7] (.s [0,1,2,4,5,3] (.a [(6,1,.a [(7,0,.s [8] .e)])])):=⟨⟩
 have:∀ t u,LH 15 (fun x:Int=>[(0,.pointer t),(4,.int .i64 u),(9,.int .i64 x)]) (fun X x=>zO.b2 Q X t u x):=fun _ _=>⟨⟩
 have:JH 14 fun D=>∃ k,D [(0,.pointer k)] (fun C=>∀ v,C [(0,.pointer k),(4,.int .i64 v)] (zO.s1 Q k v)):=⟨fun _ ⟨_,h⟩=>⟨_,_,h⟩⟩
 have:∀ d,XH 2 d→JH 3 fun D=>∃ l m,D [(0,.pointer l),(4,.int .i64 m)] (fun C=>∀ y,C [(0,.pointer l),(3,.bool y),(4,.int .i64 m)] (zO.s6 Q (fun b c=>d (b,c)) l y m)):=by intros; exact ⟨fun _ ⟨_,_,h⟩=>⟨_,_,h⟩⟩
 have:DH 11 2 [8] (.s [0,1,2,4,5,7,3] (.a [(6,1,.a [(8,0,.s [9] .e)])])):=⟨⟩
 have:DH 4 2 [7] (.s [0,1,2,4,5,3] (.a [(6,1,.a [(7,0,.s [8,9,10,11,12] .e)])])):=⟨⟩
 have:∀ d,XH 2 d→JH 1000002 fun D=>∃ n o,D [(0,.pointer n),(4,.int .i64 o)] (fun C=>∀ z,C [(0,.pointer n),(4,.int .i64 o),(15,.bool z)] (zO.s5 Q (fun b c=>d (b,c)) n o z)):=by intros; exact ⟨fun _ ⟨_,_,h⟩=>⟨_,_,h⟩⟩
 have:∀ aa,LH 2 (fun x:Bool×Int=>[(0,.pointer aa),(3,.bool x.1),(4,.int .i64 x.2)]) (fun X x=>zO.b4 Q (fun b c=>X (b,c)) aa x.1 x.2):=fun _=>⟨⟩
 exact zn 83 h Tryz.func100
def qg (i:Pt) (j:Int) (Q:ByteArray→K): K :=
 Nn i fun a=>
 Ld (a.add 1) Value.string fun b=>
 Ar (IntKind.wrap .i64 (48 + j)) fun c=>
 Ar (IntKind.wrap .i32 c) fun d=>
 Rd Tryz.prog (convert 21 9 (.int .i32 d)) Value.string fun f=>
 Cat b f fun g=>
 Q g
theorem zDY (a b Q w) (h:qg a b Q w):qg.call a b Q w:=by
 exact zn 14 h Tryz.func108
def yV.s1 (Q:Int→K) (a:Int): K :=
 Q a
def yV.b2 (Q p:Int→K) (q:Pt) (b:Sl) (a:Int): K :=
 Ite (decide (a < (b.n:Int)))
  (Slc b a (b.n:Int) (b.c:Int) 1 fun f=>
  xP.call f fun g i j=>
  Ite (decide (j ≠ 0))
   (yV.s1 Q a)
   (Nn q fun d=>
   Ld (d.add 6) Sl.val fun k=>
   New 22 #[Sl.val g] fun l=>
   Do Tryz.prog (Builtin.append_ #[111,111] 111 #[Sl.val k,(Sl.val (Sl.mk (some l) 1 1))]) Sl.val fun m=>
   St (d.add 6) (Sl.val m)<|
   Ar (IntKind.wrap .i64 (a + i)) fun o=>
   p o))
  (yV.s1 Q a)
def yV (a:Pt) (b:Sl) (Q:Int→K): K :=
 yY (α:=Int) (fun X x=>yV.b2 Q X a b x) 0
theorem zCk (a b Q w) (h:yV a b Q w):yV.call a b Q w:=by
 have:JH 6 fun D=>D [] (fun C=>∀ c,C [(4,.int .i64 c)] (yV.s1 Q c)):=⟨fun _ h=>⟨_,_,h⟩⟩
 have:∀ d f,LH 1 (fun x:Int=>[(0,.pointer d),(1,Sl.val f),(4,.int .i64 x)]) (fun X x=>yV.b2 Q X d f x):=fun _ _=>⟨⟩
 exact zn 36 h Tryz.func122
instance:CB Tryz.prog 115:=⟨by kernel_rfl⟩
instance:CB Tryz.prog 118:=⟨by kernel_rfl⟩
instance:CB Tryz.prog 129:=⟨by kernel_rfl⟩
instance:CB Tryz.prog 43:=⟨by kernel_rfl⟩
instance:CB Tryz.prog 71:=⟨by kernel_rfl⟩
instance:CB Tryz.prog 72:=⟨by kernel_rfl⟩
instance:CB Tryz.prog 74:=⟨by kernel_rfl⟩
instance:CB Tryz.prog 80:=⟨by kernel_rfl⟩
instance:CB Tryz.prog 81:=⟨by kernel_rfl⟩
instance:CB Tryz.prog 82:=⟨by kernel_rfl⟩
instance:CB Tryz.prog 83:=⟨by kernel_rfl⟩
instance:CT Tryz.prog 48:=⟨by kernel_rfl⟩
instance:CT Tryz.prog 91:=⟨by kernel_rfl⟩
instance:FT Tryz.prog 113 0 0 1:=⟨by kernel_rfl⟩
instance:FT Tryz.prog 113 1 1 1:=⟨by kernel_rfl⟩
instance:FT Tryz.prog 113 2 2 1:=⟨by kernel_rfl⟩
instance:FT Tryz.prog 113 3 3 1:=⟨by kernel_rfl⟩
instance:FT Tryz.prog 113 4 4 1:=⟨by kernel_rfl⟩
instance:FT Tryz.prog 113 5 5 1:=⟨by kernel_rfl⟩
instance:FT Tryz.prog 116 1 1 1:=⟨by kernel_rfl⟩
instance:FT Tryz.prog 93 1 1 1:=⟨by kernel_rfl⟩
instance:FT Tryz.prog 93 3 3 1:=⟨by kernel_rfl⟩
instance:PLT Tryz.prog 113 [(0,1),(1,1),(2,1),(3,1),(4,1),(5,1)]:=⟨_,Tryz.underlying113,by kernel_rfl⟩
instance:SLT Tryz.prog 91 116 3:=⟨by kernel_rfl⟩
instance:ZT Tryz.prog 113 (.agg #[(.pointer none),(.string ⟨#[]⟩),(.int .i64 0),(.int .i64 0),(.bool false),(Sl.val ⟨none,0,0⟩)]):=⟨Tryz.t113,by kernel_rfl,by kernel_rfl⟩
instance:AT Tryz.prog 127 3:=⟨by kernel_rfl⟩
instance:CB Tryz.prog 101:=⟨by kernel_rfl⟩
instance:CB Tryz.prog 119:=⟨by kernel_rfl⟩
instance:CB Tryz.prog 70:=⟨by kernel_rfl⟩
instance:CT Tryz.prog 152:=⟨by kernel_rfl⟩
instance:CT Tryz.prog 33:=⟨by kernel_rfl⟩
instance:CT Tryz.prog 41:=⟨by kernel_rfl⟩
instance:FT Tryz.prog 127 0 0 1:=⟨by kernel_rfl⟩
instance:FT Tryz.prog 127 1 1 1:=⟨by kernel_rfl⟩
instance:FT Tryz.prog 154 0 0 1:=⟨by kernel_rfl⟩
instance:FT Tryz.prog 154 1 1 1:=⟨by kernel_rfl⟩
instance:PLT Tryz.prog 154 [(0,1),(1,1)]:=⟨_,Tryz.underlying154,by kernel_rfl⟩
instance:SLT Tryz.prog 41 127 3:=⟨by kernel_rfl⟩
instance:SZ Tryz.prog 127 3:=⟨by kernel_rfl⟩
instance:SZ Tryz.prog 33 1:=⟨by kernel_rfl⟩
instance:SZ Tryz.prog 41 1:=⟨by kernel_rfl⟩
instance:ZT Tryz.prog 127 (.agg #[(.int .i64 0),(.int .u64 0),(.string ⟨#[]⟩)]):=⟨Tryz.t127,by kernel_rfl,by kernel_rfl⟩
instance:ZT Tryz.prog 154 (.agg #[(.int .u64 0),(.pointer none)]):=⟨Tryz.t154,by kernel_rfl,by kernel_rfl⟩
instance:ZT Tryz.prog 41 (Sl.val ⟨none,0,0⟩):=⟨Tryz.t41,by kernel_rfl,by kernel_rfl⟩
def yG (c:Pt) (Q:Int→K): K :=
 Nn c fun a=>
 Ld a (Value.int .u64) fun b=>
 Q b
theorem uX (a Q w) (h:yG a Q w):yG.call a Q w:=by
 exact zn 7 h Tryz.func32
def yK (u:Pt) (g v:Int) (Q:Sl→Bool→K): K :=
 New 41 #[Sl.val ⟨none,0,0⟩] fun a=>
 Nn u fun b=>
 Ld b (Value.int .u64) fun j=>
 Ite (decide (g < j))
  (St a (Sl.val (Sl.mk none 0 0))<|
  Ld a Sl.val fun c=>
  Q c false)
  (St b (.int .u64 g)<|
  Ld (b.add 1) Value.pointer fun k=>
  yL.call k v fun l=>
  vI Tryz.prog l .ret (fun x:Value×Av=>[x.1,.agg x.2]) (fun m n y x=>
   New 127 #[.int .i64 0,.int .u64 0,(.string ⟨#[]⟩)] fun d=>
   StN d 3 x.2<|
   m<|
   Ld a Sl.val fun o=>
   LdN d 3 fun p=>
   Bld #[.int .i64 0,.int .u64 0,(.string ⟨#[]⟩)] (fun i=>some (i * 3,3)) [(0,.agg p)] fun q=>
   New 127 q fun r=>
   Do Tryz.prog (Builtin.append_ #[41,41] 41 #[Sl.val o,(Sl.val (Sl.mk (some r) 1 1))]) Sl.val fun s=>
   St a (Sl.val s)<|
   n)
   (fun f=>
    Ld a Sl.val fun t=>
    St a (Sl.val t)<|
    vT f<|
    Ld a Sl.val fun c=>
    Q c true)
   (fun f=>
    Dead))
theorem uw (a b c Q w) (h:yK a b c Q w):yK.call a b c Q w:=by
 exact zn 33 h Tryz.func36
def qo  (Q:Pt→K): K :=
 yh.call  fun a=>
 New 154 #[.int .u64 0,.pointer a] fun b=>
 Q (some b)
theorem zAw (Q w) (h:qo  Q w):qo.call  Q w:=by
 exact zn 4 h Tryz.func62
def yZ.s1 (Q:Bool→K) (i:Pt) (a:Addr) (j:Bool): K :=
 Ite j
  (Q false)
  (Ld (a.add 1) (Value.int .u64) fun c=>
  Nn i fun b=>
  St b (.int .u64 c)<|
  Dr<|
  Ld (b.add 1) Value.pointer fun d=>
  Ld a (Value.int .i64) fun f=>
  LdN a 3 fun g=>
  zM.call d f g fun k l=>
  Q true)
def yZ (i:Pt) (j:Av) (Q:Bool→K): K :=
 New 127 j fun a=>
 Dr<|
 Ld (a.add 1) (Value.int .u64) fun c=>
 Nn i fun b=>
 Ld b (Value.int .u64) fun d=>
 Ite (decide (c < d))
  (yZ.s1 Q (some b) a true)
  (Ld a (Value.int .i64) fun f=>
  Ite (decide (f < 0))
   (yZ.s1 Q (some b) a true)
   (Ld a (Value.int .i64) fun g=>
   yZ.s1 Q (some b) a (decide ((64:Int) ≤ g))))
instance:AT Tryz.prog 227 4:=⟨by kernel_rfl⟩
instance:CB Tryz.prog 110:=⟨by kernel_rfl⟩
instance:CB Tryz.prog 127:=⟨by kernel_rfl⟩
instance:CB Tryz.prog 130:=⟨by kernel_rfl⟩
instance:CB Tryz.prog 143:=⟨by kernel_rfl⟩
instance:CB Tryz.prog 145:=⟨by kernel_rfl⟩
instance:CB Tryz.prog 146:=⟨by kernel_rfl⟩
instance:CB Tryz.prog 147:=⟨by kernel_rfl⟩
instance:CB Tryz.prog 148:=⟨by kernel_rfl⟩
instance:CB Tryz.prog 149:=⟨by kernel_rfl⟩
instance:CT Tryz.prog 202:=⟨by kernel_rfl⟩
instance:CT Tryz.prog 217:=⟨by kernel_rfl⟩
instance:CT Tryz.prog 218:=⟨by kernel_rfl⟩
instance:FT Tryz.prog 204 0 0 1:=⟨by kernel_rfl⟩
instance:FT Tryz.prog 204 1 1 1:=⟨by kernel_rfl⟩
instance:FT Tryz.prog 220 0 0 1:=⟨by kernel_rfl⟩
instance:FT Tryz.prog 220 1 1 1:=⟨by kernel_rfl⟩
instance:FT Tryz.prog 227 0 0 1:=⟨by kernel_rfl⟩
instance:FT Tryz.prog 227 1 1 3:=⟨by kernel_rfl⟩
instance:PLT Tryz.prog 204 [(0,1),(1,1)]:=⟨_,Tryz.underlying204,by kernel_rfl⟩
instance:PLT Tryz.prog 220 [(0,1),(1,1)]:=⟨_,Tryz.underlying220,by kernel_rfl⟩
instance:PLT Tryz.prog 227 [(0,1),(1,3)]:=⟨_,Tryz.underlying227,by kernel_rfl⟩
instance:SLT Tryz.prog 217 227 4:=⟨by kernel_rfl⟩
instance:SLT Tryz.prog 218 202 1:=⟨by kernel_rfl⟩
instance:SZ Tryz.prog 202 1:=⟨by kernel_rfl⟩
instance:SZ Tryz.prog 217 1:=⟨by kernel_rfl⟩
instance:SZ Tryz.prog 218 1:=⟨by kernel_rfl⟩
instance:SZ Tryz.prog 227 4:=⟨by kernel_rfl⟩
instance:UN Tryz.prog 206 (.pointer 3):=⟨Tryz.underlying206⟩
instance:UN Tryz.prog 228 (.pointer 227):=⟨Tryz.underlying228⟩
instance:ZT Tryz.prog 202 (.pointer none):=⟨Tryz.t202,by kernel_rfl,by kernel_rfl⟩
instance:ZT Tryz.prog 204 (.agg #[(.pointer none),(.int .i64 0)]):=⟨Tryz.t204,by kernel_rfl,by kernel_rfl⟩
instance:ZT Tryz.prog 220 (.agg #[(Sl.val ⟨none,0,0⟩),(Sl.val ⟨none,0,0⟩)]):=⟨Tryz.t220,by kernel_rfl,by kernel_rfl⟩
instance:ZT Tryz.prog 227 (.agg #[(.int .i64 0),(.int .i64 0),(.int .u64 0),(.string ⟨#[]⟩)]):=⟨Tryz.t227,by kernel_rfl,by kernel_rfl⟩
def yL (c:Pt) (d:Int) (Q:Value→K): K :=
 New 152 #[.pointer c] fun a=>
 New 3 #[.int .i64 d] fun b=>
 Q (.func (.func 109) #[] #[(.pointer (some a)),(.pointer (some b))])
theorem vL (a b Q w) (h:yL a b Q w):yL.call a b Q w:=by
 exact zn 6 h Tryz.func70
def yh  (Q:Pt→K): K :=
 New 220 #[Sl.val ⟨none,0,0⟩,Sl.val ⟨none,0,0⟩] fun a=>
 New 204 #[(.pointer (some a)),.int .i64 0] fun b=>
 Q (some b)
theorem uS (Q w) (h:yh  Q w):yh.call  Q w:=by
 exact zn 5 h Tryz.func101
def yX (d:Value) (f g:Addr) (Q:K): K :=
 Ld f Value.pointer fun a=>
 Nn a fun b=>
 Ld b Value.pointer fun c=>
 zB.call c (some g) d fun i=>
 Q
theorem vF (a b c Q w) (h:yX a b c Q w):yX.call a b c Q w:=by
 exact zn 10 h Tryz.func109
def zB.s4 (Q:Bool→K) (b:Pt→Int→K) (f:Addr) (g:Value) (c:Int) (d:Bool): K :=
 Ite d
  (Q false)
  (Ar (IntKind.wrap .i64 (c + 1)) fun a=>
  b none a)
def zB.s3 (Q:Bool→K) (f:Pt→Int→K) (a:Addr) (d:Value) (b:Int) (p:Bool): K :=
 Ite p
  (Q false)
  (Dr<|
  Ld a Sl.val fun g=>
  Ite (decide (b < (g.n:Int)))
   (Ld a Sl.val fun i=>
   Idx i b 4 fun j=>
   Ld j (Value.int .i64) fun k=>
   Ld a Sl.val fun l=>
   Idx l b 4 fun m=>
   LdN (m.add 1) 3 fun o=>
   vS Tryz.prog d [.int .i64 k,.agg o] <| yt (fun (c:Bool)=>Value.bool c) fun c=>
   zB.s4 Q f a d b (!c))
   (zB.s4 Q f a d b false))
def zB.b2 (Q:Bool→K) (d:Pt→Int→K) (m:Pt) (c:Value) (o:Pt) (b:Int): K :=
 Nn m fun a=>
 Ld a Sl.val fun f=>
 Ite (decide (b ≤ (f.n:Int)))
  (Ld (a.add 1) Sl.val fun g=>
  Ite (decide (b < (g.n:Int)))
   (Ld (a.add 1) Sl.val fun i=>
   Idx i b 1 fun j=>
   Ld j Value.pointer fun k=>
   zB.call k o c fun l=>
   zB.s3 Q d a c b (!l))
   (zB.s3 Q d a c b false))
  (Q true)
def zB.s1 (Q:Bool→K) (c d:Pt) (f:Value) (g:Int): K :=
 yY (α:=Pt×Int) (fun X x=>zB.b2 Q (fun a b=>X (a,b)) c f x.1 x.2) (d,g)
def zB (a b:Pt) (d:Value) (Q:Bool→K): K :=
 Ite (!(b).isNone)
  (Nn b fun c=>
  Ld c (Value.int .i64) fun f=>
  zi.call a f fun g i=>
  zB.s1 Q a (some c) d g)
  (zB.s1 Q a b d 0)
theorem vM (q r t Q w) (h:zB q r t Q w):zB.call q r t Q w:=by
 have:∀ (d:(Pt×Int)→K),XH 4 d→JH 10 fun D=>∃ f g j,D [(0,(.pointer (some f))),(2,g),(7,.int .i64 j)] (fun C=>∀ u,C [(0,(.pointer (some f))),(1,.pointer none),(2,g),(7,.int .i64 j),(74,.bool u)] (zB.s4 Q (fun b c=>d (b,c)) f g j u)):=by intros; exact ⟨fun _ ⟨_,_,_,h⟩=>⟨_,_,h⟩⟩
 have:DH 9 1 [25] (.s [0,1,2,3,4,5,6,7] (.i (.s [8,9,10,11,13,17,18,19,21,12,14,15,16,20,22,23,24] (.a [(25,0,.s [26,27] .e)])) (.s [8,9,10,11,12,13,14,15,16,17,18,19,20,21,22,23,24,25,26,27] .e))):=⟨⟩
 have:∀ (d:(Pt×Int)→K),XH 4 d→JH 7 fun D=>∃ k l m,D [(0,(.pointer (some k))),(2,l),(7,.int .i64 m)] (fun C=>∀ v,C [(0,(.pointer (some k))),(2,l),(7,.int .i64 m),(46,.bool v)] (zB.s3 Q (fun b c=>d (b,c)) k l m v)):=by intros; exact ⟨fun _ ⟨_,_,_,h⟩=>⟨_,_,h⟩⟩
 have:∀ y z,LH 4 (fun x:Pt×Int=>[(0,.pointer y),(1,.pointer x.1),(2,z),(7,.int .i64 x.2)]) (fun X x=>zB.b2 Q (fun b c=>X (b,c)) y z x.1 x.2):=fun _ _=>⟨⟩
 have:JH 4 fun D=>∃ n o p,D [(0,.pointer n),(1,.pointer o),(2,p)] (fun C=>∀ aa,C [(0,.pointer n),(1,.pointer o),(2,p),(7,.int .i64 aa)] (zB.s1 Q n o p aa)):=⟨fun _ ⟨_,_,_,h⟩=>⟨_,_,h⟩⟩
 exact zn 75 h Tryz.func110
def zM.s3 (Q:Av→Bool→K) (a d:Addr) (f:Bool): K :=
 LdN d 3 fun b=>
 StN a 3 b<|
 LdN a 3 fun c=>
 Q c f
def zM.s2 (Q:Av→Bool→K) (i:Pt) (c d:Addr) (a:Bool): K :=
 Ite (!a)
  (Nn i fun b=>
  Ld (b.add 1) (Value.int .i64) fun f=>
  Ar (IntKind.wrap .i64 (f + 1)) fun g=>
  St (b.add 1) (.int .i64 g)<|
  zM.s3 Q c d a)
  (zM.s3 Q c d a)
def zM.s1 (Q:Av→Bool→K) (n:Pt) (g j:Addr) (k:Bool) (o p:Pt): K :=
 Ite (!(o).isNone)
  (Dr <| qx fun S=>
  Nn o fun q=>
  Nn n fun a=>
  jw S q 4 fun l=>
  LdS S a Value.pointer fun m=>
  All [
   (Bld #[.int .i64 0,.int .i64 0,.int .u64 0,(.string ⟨#[]⟩)] (fun i=>some (i * 4,4)) [(0,.agg l)] fun b=>
   New 227 b fun c=>
   Sv S<|
   New 202 #[.pointer m,.pointer p] fun d=>
   Sv S<|
   New 220 #[(Sl.val (Sl.mk (some c) 1 1)),(Sl.val (Sl.mk (some d) 2 2))] fun f=>
   St a (.pointer (some f))<|
   zM.s2 Q (some a) g j k),
   (New 202 #[.pointer m,.pointer p] fun d=>
   Sv S<|
   Bld #[.int .i64 0,.int .i64 0,.int .u64 0,(.string ⟨#[]⟩)] (fun i=>some (i * 4,4)) [(0,.agg l)] fun b=>
   New 227 b fun c=>
   Sv S<|
   New 220 #[(Sl.val (Sl.mk (some c) 1 1)),(Sl.val (Sl.mk (some d) 2 2))] fun f=>
   St a (.pointer (some f))<|
   zM.s2 Q (some a) g j k)
   ])
  (zM.s2 Q n g j k)
def zM (n:Pt) (o:Int) (p:Av) (Q:Av→Bool→K): K :=
 New 127 p fun l=>
 New 127 #[.int .i64 0,.int .u64 0,(.string ⟨#[]⟩)] fun i=>
 Dr <| qx fun S=>
 Nn n fun b=>
 LdS S b Value.pointer fun j=>
 jw S l 3 fun m=>
 Bld #[.int .i64 0,.int .i64 0,.int .u64 0,(.string ⟨#[]⟩)] ([(0,1),(1,3)][·]?) [(0,.int .i64 o),(1,.agg m)] fun k=>
 All [
  (zP.call j k fun c d f g=>
  New 127 #[.int .i64 0,.int .u64 0,(.string ⟨#[]⟩)] fun a=>
  StN a 3 c<|
  zM.s1 Q (some b) i a d f g),
  (New 127 #[.int .i64 0,.int .u64 0,(.string ⟨#[]⟩)] fun a=>
  Sv S<|
  zP.call j k fun c d f g=>
  StN a 3 c<|
  zM.s1 Q (some b) i a d f g)
  ]
def zi (f:Pt) (g:Int) (Q:Int→Bool→K): K :=
 Nn f fun a=>
 Ld a Sl.val fun b=>
 zA.call b g (.func (.func 144) #[] #[]) fun c d=>
 Q c d
theorem vG (a b Q w) (h:zi a b Q w):zi.call a b Q w:=by
 exact zn 14 h Tryz.func127
def zP.s2 (Q:Av→Bool→Pt→Pt→K) (a:Addr) (d:Bool) (f g:Addr): K :=
 LdN a 3 fun b=>
 StN a 3 b<|
 LdN a 3 fun c=>
 Q c d (some g) (some f)
def zP.s1 (Q:Av→Bool→Pt→Pt→K) (ab:Pt) (b:Addr) (j:Bool): K :=
 Nn ab fun a=>
 Ld a Sl.val fun k=>
 Ite (decide ((k.n:Int) ≤ 5))
  (LdN b 3 fun l=>
  StN b 3 l<|
  LdN b 3 fun m=>
  Q m j none none)
  (Ld a Sl.val fun o=>
  Idx o 2 4 fun p=>
  LdN p 4 fun q=>
  New 227 #[.int .i64 0,.int .i64 0,.int .u64 0,(.string ⟨#[]⟩)] fun d=>
  StN d 4 q<|
  Ld a Sl.val fun f=>
  Slc f 3 (f.n:Int) (f.c:Int) 4 fun r=>
  yC.call r fun s=>
  New 220 #[Sl.val s,Sl.val ⟨none,0,0⟩] fun g=>
  Ld a Sl.val fun t=>
  Slc t 0 2 2 4 fun u=>
  St a (Sl.val u)<|
  Ld (a.add 1) Sl.val fun v=>
  Ite (decide ((0:Int) < (v.n:Int)))
   (Ld (a.add 1) Sl.val fun i=>
   Slc i 3 (i.n:Int) (i.c:Int) 1 fun x=>
   yD.call x fun y=>
   St (g.add 1) (Sl.val y)<|
   Ld (a.add 1) Sl.val fun z=>
   Slc z 0 3 3 1 fun aa=>
   St (a.add 1) (Sl.val aa)<|
   zP.s2 Q b j g d)
   (zP.s2 Q b j g d))
def zP (f:Pt) (aw:Av) (Q:Av→Bool→Pt→Pt→K): K :=
 New 227 aw fun d=>
 New 127 #[.int .i64 0,.int .u64 0,(.string ⟨#[]⟩)] fun b=>
 Ld d (Value.int .i64) fun l=>
 zi.call f l fun c m=>
 Ite m
  (Nn f fun g=>
  Ld g Sl.val fun o=>
  Idx o c 4 fun p=>
  LdN (p.add 1) 3 fun q=>
  StN b 3 q<|
  Dr<|
  Ld g Sl.val fun r=>
  LdN (d.add 1) 3 fun s=>
  Idx r c 4 fun t=>
  StN (t.add 1) 3 s<|
  LdN b 3 fun u=>
  StN b 3 u<|
  LdN b 3 fun v=>
  Q v true none none)
  (Nn f fun a=>
  Ld (a.add 1) Sl.val fun x=>
  Ite (decide ((x.n:Int) = 0))
   (Dr <| qx fun S=>
   LdS S a Sl.val fun y=>
   jw S d 4 fun z=>
   Bld #[.int .i64 0,.int .i64 0,.int .u64 0,(.string ⟨#[]⟩)] (fun i=>some (i * 4,4)) [(0,.agg z)] fun aa=>
   New 227 aa fun ab=>
   Sv S<|
   zf.call y c (Sl.mk (some ab) 1 1) fun ac=>
   St a (Sl.val ac)<|
   zP.s1 Q (some a) b false)
   (Dr<|
   Ld (a.add 1) Sl.val fun ad=>
   Idx ad c 1 fun ae=>
   Ld ae Value.pointer fun af=>
   LdN d 4 fun ag=>
   zP.call af ag fun ah j k aj=>
   StN b 3 ah<|
   Ite (!(k).isNone)
    (Dr <| qx fun S=>
    Nn k fun ak=>
    LdS S a Sl.val fun al=>
    jw S ak 4 fun am=>
    Bld #[.int .i64 0,.int .i64 0,.int .u64 0,(.string ⟨#[]⟩)] (fun i=>some (i * 4,4)) [(0,.agg am)] fun an=>
    New 227 an fun ao=>
    Sv S<|
    zf.call al c (Sl.mk (some ao) 1 1) fun ap=>
    St a (Sl.val ap)<|
    Ld (a.add 1) Sl.val fun aq=>
    Ar (IntKind.wrap .i64 (c + 1)) fun ar=>
    New 202 #[.pointer aj] fun au=>
    yA.call aq ar (Sl.mk (some au) 1 1) fun av=>
    St (a.add 1) (Sl.val av)<|
    zP.s1 Q (some a) b j)
    (zP.s1 Q (some a) b j)))
instance:CB Tryz.prog 158:=⟨by kernel_rfl⟩
instance:CB Tryz.prog 160:=⟨by kernel_rfl⟩
instance:CB Tryz.prog 162:=⟨by kernel_rfl⟩
instance:CB Tryz.prog 163:=⟨by kernel_rfl⟩
instance:CB Tryz.prog 164:=⟨by kernel_rfl⟩
instance:CB Tryz.prog 165:=⟨by kernel_rfl⟩
instance:EXT Tryz.prog 157 (Extern.SlicesOverlaps.overlaps #[217,217] #[4]):=zJg Tryz.func157 (by kernel_rfl) (by kernel_rfl) (by kernel_rfl) (by kernel_rfl)
instance:EXT Tryz.prog 159 (Extern.SlicesOverlaps.overlaps #[218,218] #[4]):=zJg Tryz.func159 (by kernel_rfl) (by kernel_rfl) (by kernel_rfl) (by kernel_rfl)
instance:UN Tryz.prog 217 (.slice 227):=⟨Tryz.underlying217⟩
instance:UN Tryz.prog 218 (.slice 202):=⟨Tryz.underlying218⟩
def zA.s2 (Q:Int→Bool→K) (c:Int→Int→K) (a:Int) (b:Bool): K :=
 Q a b
def zA.b1 (Q:Int→Bool→K) (b:Int→Int→K) (i:Sl) (j:Int) (k:Value) (t a g:Int): K :=
 Ite (decide (a < g))
  (Ar (IntKind.wrap .i64 (a + g)) fun l=>
  Ar (IntKind.wrap .u64 l) fun m=>
  Cd (0 ≤ (1:Int))<|
  Ar (uY .u64 m 1) fun n=>
  Ar (IntKind.wrap .i64 n) fun c=>
  Idx i c 4 fun o=>
  LdN o 4 fun p=>
  u6 Tryz.prog k [.agg p,.int .i64 j] <| yt (fun (d:Int)=>(Value.int .i64) d) fun d=>
  Ite (decide (d < 0))
   (Ar (IntKind.wrap .i64 (c + 1)) fun q=>
   b q g)
   (b a c))
  (Ite (decide (a < t))
   (Idx i a 4 fun r=>
   LdN r 4 fun s=>
   u6 Tryz.prog k [.agg s,.int .i64 j] <| yt (fun (f:Int)=>(Value.int .i64) f) fun f=>
   zA.s2 Q b a (decide (f = 0)))
   (zA.s2 Q b a false))
def zA (a:Sl) (d:Int) (f:Value) (Q:Int→Bool→K): K :=
 yY (α:=Int×Int) (fun X x=>zA.b1 Q (fun b c=>X (b,c)) a d f (a.n:Int) x.1 x.2) (0,(a.n:Int))
theorem yR (c d f Q w) (h:zA c d f Q w):zA.call c d f Q w:=by
 have:∀ g,XH 3 g→JH 1000008 fun D=>D [] (fun C=>∀ i j,C [(6,.int .i64 i),(7,.bool j)] (zA.s2 Q (fun a b=>g (a,b)) i j)):=by intros; exact ⟨fun _ h=>⟨_,_,h⟩⟩
 have:∀ k l m n,LH 3 (fun x:Int×Int=>[(0,Sl.val k),(1,.int .i64 l),(2,m),(8,.int .i64 n),(9,.int .i64 x.1),(10,.int .i64 x.2)]) (fun X x=>zA.b1 Q (fun a b=>X (a,b)) k l m n x.1 x.2):=fun _ _ _ _=>⟨⟩
 exact zn 49 h Tryz.func143
def zf (b:Sl) (f:Int) (d:Sl) (Q:Sl→K): K :=
 Slc b f (b.n:Int) (b.c:Int) 4 fun ae=>
 Ite (decide ((d.n:Int) = 0))
  (Q b)
  (Ite (decide (f = (b.n:Int)))
   (Do Tryz.prog (Builtin.append_ #[217,217] 217 #[Sl.val b,Sl.val d]) Sl.val fun i=>
   Q i)
   (Ar (IntKind.wrap .i64 ((b.n:Int) + (d.n:Int))) fun j=>
   Do Tryz.prog (Builtin.cap_ #[217] 3 #[Sl.val b]) (Value.int .i64) fun k=>
   Ite (decide (k < j))
    (Slc b 0 f (b.c:Int) 4 fun l=>
    Ar (IntKind.wrap .i64 ((b.n:Int) + (d.n:Int))) fun m=>
    Ar (IntKind.wrap .i64 (m - f)) fun o=>
    Do Tryz.prog (Builtin.append_ #[217,3] 217 #[Sl.val l,.int .i64 o]) Sl.val fun g=>
    Slc g f (g.n:Int) (g.c:Int) 4 fun p=>
    Do Tryz.prog (Builtin.copy_ #[217,217] 3 #[Sl.val p,Sl.val d]) (Value.int .i64) fun af=>
    Dr<|
    Ar (IntKind.wrap .i64 (f + (d.n:Int))) fun q=>
    Slc g q (g.n:Int) (g.c:Int) 4 fun r=>
    Slc b f (b.n:Int) (b.c:Int) 4 fun s=>
    Do Tryz.prog (Builtin.copy_ #[217,217] 3 #[Sl.val r,Sl.val s]) (Value.int .i64) fun ag=>
    Q g)
    (Ar (IntKind.wrap .i64 ((b.n:Int) + (d.n:Int))) fun t=>
    Slc b 0 t (b.c:Int) 4 fun a=>
    Ar (IntKind.wrap .i64 (f + (d.n:Int))) fun u=>
    Slc a u (a.n:Int) (a.c:Int) 4 fun v=>
    Rd Tryz.prog (Extern.SlicesOverlaps.overlaps #[217,217] #[4] [Sl.val d,Sl.val v].toArray) Value.bool fun x=>
    Ite (!x)
     (Dr<|
     Ar (IntKind.wrap .i64 (f + (d.n:Int))) fun y=>
     Slc a y (a.n:Int) (a.c:Int) 4 fun z=>
     Slc a f (a.n:Int) (a.c:Int) 4 fun aa=>
     Do Tryz.prog (Builtin.copy_ #[217,217] 3 #[Sl.val z,Sl.val aa]) (Value.int .i64) fun ah=>
     Slc a f (a.n:Int) (a.c:Int) 4 fun ab=>
     Do Tryz.prog (Builtin.copy_ #[217,217] 3 #[Sl.val ab,Sl.val d]) (Value.int .i64) fun aj=>
     Q a)
     (Slc a (b.n:Int) (a.n:Int) (a.c:Int) 4 fun ac=>
     Do Tryz.prog (Builtin.copy_ #[217,217] 3 #[Sl.val ac,Sl.val d]) (Value.int .i64) fun ak=>
     Slc a f (a.n:Int) (a.c:Int) 4 fun ad=>
     qA.call ad (d.n:Int)<|
     Q a))))
def yA (b:Sl) (f:Int) (d:Sl) (Q:Sl→K): K :=
 Slc b f (b.n:Int) (b.c:Int) 1 fun ae=>
 Ite (decide ((d.n:Int) = 0))
  (Q b)
  (Ite (decide (f = (b.n:Int)))
   (Do Tryz.prog (Builtin.append_ #[218,218] 218 #[Sl.val b,Sl.val d]) Sl.val fun i=>
   Q i)
   (Ar (IntKind.wrap .i64 ((b.n:Int) + (d.n:Int))) fun j=>
   Do Tryz.prog (Builtin.cap_ #[218] 3 #[Sl.val b]) (Value.int .i64) fun k=>
   Ite (decide (k < j))
    (Slc b 0 f (b.c:Int) 1 fun l=>
    Ar (IntKind.wrap .i64 ((b.n:Int) + (d.n:Int))) fun m=>
    Ar (IntKind.wrap .i64 (m - f)) fun o=>
    Do Tryz.prog (Builtin.append_ #[218,3] 218 #[Sl.val l,.int .i64 o]) Sl.val fun g=>
    Slc g f (g.n:Int) (g.c:Int) 1 fun p=>
    Do Tryz.prog (Builtin.copy_ #[218,218] 3 #[Sl.val p,Sl.val d]) (Value.int .i64) fun af=>
    Dr<|
    Ar (IntKind.wrap .i64 (f + (d.n:Int))) fun q=>
    Slc g q (g.n:Int) (g.c:Int) 1 fun r=>
    Slc b f (b.n:Int) (b.c:Int) 1 fun s=>
    Do Tryz.prog (Builtin.copy_ #[218,218] 3 #[Sl.val r,Sl.val s]) (Value.int .i64) fun ag=>
    Q g)
    (Ar (IntKind.wrap .i64 ((b.n:Int) + (d.n:Int))) fun t=>
    Slc b 0 t (b.c:Int) 1 fun a=>
    Ar (IntKind.wrap .i64 (f + (d.n:Int))) fun u=>
    Slc a u (a.n:Int) (a.c:Int) 1 fun v=>
    Rd Tryz.prog (Extern.SlicesOverlaps.overlaps #[218,218] #[4] [Sl.val d,Sl.val v].toArray) Value.bool fun x=>
    Ite (!x)
     (Dr<|
     Ar (IntKind.wrap .i64 (f + (d.n:Int))) fun y=>
     Slc a y (a.n:Int) (a.c:Int) 1 fun z=>
     Slc a f (a.n:Int) (a.c:Int) 1 fun aa=>
     Do Tryz.prog (Builtin.copy_ #[218,218] 3 #[Sl.val z,Sl.val aa]) (Value.int .i64) fun ah=>
     Slc a f (a.n:Int) (a.c:Int) 1 fun ab=>
     Do Tryz.prog (Builtin.copy_ #[218,218] 3 #[Sl.val ab,Sl.val d]) (Value.int .i64) fun aj=>
     Q a)
     (Slc a (b.n:Int) (a.n:Int) (a.c:Int) 1 fun ac=>
     Do Tryz.prog (Builtin.copy_ #[218,218] 3 #[Sl.val ac,Sl.val d]) (Value.int .i64) fun ak=>
     Slc a f (a.n:Int) (a.c:Int) 1 fun ad=>
     qB.call ad (d.n:Int)<|
     Q a))))
def yC (b:Sl) (Q:Sl→K): K :=
 Ite ((b).a.isNone)
  (Q (Sl.mk none 0 0))
  (New 227 #[] fun c=>
  Do Tryz.prog (Builtin.append_ #[217,217] 217 #[(Sl.val (Sl.mk (some c) 0 0)),Sl.val b]) Sl.val fun d=>
  Q d)
def yD (b:Sl) (Q:Sl→K): K :=
 Ite ((b).a.isNone)
  (Q (Sl.mk none 0 0))
  (New 202 #[] fun c=>
  Do Tryz.prog (Builtin.append_ #[218,218] 218 #[(Sl.val (Sl.mk (some c) 0 0)),Sl.val b]) Sl.val fun d=>
  Q d)
def qA (a:Sl) (c:Int) (Q:K): K :=
 Ar (IntKind.wrap .i64 ((a.n:Int) - c)) fun b=>
 qC.call a b<|
 Q
def qB (a:Sl) (c:Int) (Q:K): K :=
 Ar (IntKind.wrap .i64 ((a.n:Int) - c)) fun b=>
 qD.call a b<|
 Q
def qC (a:Sl) (b:Int) (Q:K): K :=
 Slc a 0 b (a.c:Int) 4 fun d=>
 zF.call d<|
 Slc a b (a.n:Int) (a.c:Int) 4 fun f=>
 zF.call f<|
 zF.call a<|
 Q
def qD (a:Sl) (b:Int) (Q:K): K :=
 Slc a 0 b (a.c:Int) 1 fun d=>
 zG.call d<|
 Slc a b (a.n:Int) (a.c:Int) 1 fun f=>
 zG.call f<|
 zG.call a<|
 Q
def zF.b1 (Q:K) (n:Int→Int→K) (a:Sl) (b c:Int): K :=
 Ite (decide (b < c))
  (Dr<|
  Idx a c 4 fun d=>
  Idx a b 4 fun f=>
  LdN d 4 fun g=>
  LdN f 4 fun i=>
  Idx a b 4 fun j=>
  StN j 4 g<|
  Idx a c 4 fun k=>
  StN k 4 i<|
  Ar (IntKind.wrap .i64 (b + 1)) fun l=>
  Ar (IntKind.wrap .i64 (c - 1)) fun m=>
  n l m)
  (Q)
def zF (a:Sl) (Q:K): K :=
 Ar (IntKind.wrap .i64 ((a.n:Int) - 1)) fun b=>
 yY (α:=Int×Int) (fun X x=>zF.b1 Q (fun c d=>X (c,d)) a x.1 x.2) (0,b)
def zG.b1 (Q:K) (n:Int→Int→K) (a:Sl) (b c:Int): K :=
 Ite (decide (b < c))
  (Dr<|
  Idx a c 1 fun d=>
  Idx a b 1 fun f=>
  Ld d Value.pointer fun g=>
  Ld f Value.pointer fun i=>
  Idx a b 1 fun j=>
  St j (.pointer g)<|
  Idx a c 1 fun k=>
  St k (.pointer i)<|
  Ar (IntKind.wrap .i64 (b + 1)) fun l=>
  Ar (IntKind.wrap .i64 (c - 1)) fun m=>
  n l m)
  (Q)
def zG (a:Sl) (Q:K): K :=
 Ar (IntKind.wrap .i64 ((a.n:Int) - 1)) fun b=>
 yY (α:=Int×Int) (fun X x=>zG.b1 Q (fun c d=>X (c,d)) a x.1 x.2) (0,b)
end
section
open Go Go.Sep
section
variable {B w:World} {Γ:List zC}
theorem zEF {s:Sl} {xs:List UInt8} {j:Nat} {x:UInt8} {k:Int→K} (hr:RdB w s xs) (hx:xs[j]? = some x) (hk:k (x.toNat:Int) w):Idx s (j:Int) 1 (fun t=>Ld t (Value.int .u8) k) w:=by
 have e:xs.map qd = (xs.map fun b=>(b.toNat:Int)).map (Value.int .u8):=by rw [List.map_map]; rfl
 have hr2:RdC w s 1 ((xs.map fun b=>(b.toNat:Int)).map (Value.int .u8)):=by rw [← e]; exact hr
 exact zEB hr2 (by rw [List.getElem?_map,hx]; rfl) hk
theorem zF7 {w:World} {s:Sl} {xs:List UInt8} (h:RdB w s xs) (hx:xs ≠ []):∀ a,s.a = some a→a.spot = none:=by
 intro a ha
 have h1:=h.at' a ha 0 (by have:=List.length_pos_iff.2 hx; simpa using this)
 have e:a.add 0 = a:=by simp [Addr.add]
 rw [e] at h1
 unfold World.cell? at h1
 cases hs:a.spot with
 | none=>rfl
 | some y=>
  exfalso
  have h2:(xs.map qd)[0]? ≠ none:=by
   cases xs with
   | nil=>exact absurd rfl hx
   | cons x xs=>simp
  split at h1
  ·simp only [hs,Option.isSome_some,if_true] at h1
   exact h2 h1.symm
  ·exact h2 h1.symm
theorem zAx {g x:Sl} {xs ys:List UInt8} {k:Sl→K} (h:Holds B (Bytes zV g xs::Γ) w) (hy:RdB w x ys) (hroom:xs.length + ys.length ≤ 1000000000)
  (hk:∀ s w,Holds B (Bytes zV s (xs++ys)::Γ) w→s.n = xs.length + ys.length→(g.a.isSome = true→s.a.isSome = true)→k s w) :
  Do Tryz.prog (Builtin.append_ #[zR,zR] zR #[g.val,x.val]) Sl.val k w:=by
 have h1:xs.length = g.n:=by have:=h.jd.1; simpa using this
 have h2:ys.length = x.n:=by have:=hy.len; simpa using this
 refine zAu h (by kernel_rfl) (by kernel_rfl) (by':=1) (by kernel_rfl) zEi rfl hy (zHd _) (by omega) (by decide) fun s' w h hn ha=>hk s' w ?_ (by omega) ha
 have e:xs.map qd++ys.map qd = (xs++ys).map qd:=by simp
 rw [e] at h
 exact h
theorem jU {b n:Nat} {cs:Array Value} {xs:List UInt8} (hc:cs.toList = xs.map qd) (hn:xs.length = n) (h:Holds B (blk b (.cells cs zV (0,0))::Γ) w):Holds B (Bytes zV ⟨some ⟨b,0,none⟩,n,n⟩ xs::Γ) w :=
 h.imp (zLW hc (by simp [hn]))
theorem Bytes.len {s:Sl} {xs:List UInt8} (h:Holds B (Bytes zV s xs::Γ) w):xs.length = s.n:=by have:=h.jd.1; simpa using this
theorem Bytes.rd {s:Sl} {xs:List UInt8} (h:Holds B Γ w) (hm:Bytes zV s xs ∈ Γ):RdB w s xs:=h.rdC (E:=zV) hm
theorem zKC {w:World} {s:Sl} {d:List UInt8} {n c:Nat} (h:RdB w s d) (hn:n ≤ s.n):RdB w ⟨s.a,n,c⟩ (d.take n):=by
 have h1:=h.take (m:=n) (c:=c) hn
 show RdC w _ 1 ((d.take n).map qd)
 rw [List.map_take]
 simpa using h1
end
end
section
open Go Go.Sep
theorem ofInt32 (x:BitVec 32):BitVec.ofInt (IntKind.bits .u32) (x.toNat:Int) = x:=by
 show BitVec.ofInt 32 (x.toNat:Int) = x
 rw [BitVec.ofInt_natCast,BitVec.ofNat_toNat,BitVec.setWidth_eq]
theorem zIG (x:BitVec 32):IntKind.wrap .u32 (x.toNat:Int) = x.toNat:=zH2 (by omega) (by have:=x.isLt; omega)
theorem zKD (x y:BitVec 32):bitsOf .xor .u32 (x.toNat:Int) (y.toNat:Int) = ((x ^^^ y).toNat:Int):=by
 unfold bitsOf
 simp only [ofInt32]
 exact zIG _
theorem zOU (x y:BitVec 32):bitsOf .and .u32 (x.toNat:Int) (y.toNat:Int) = ((x &&& y).toNat:Int):=by
 unfold bitsOf
 simp only [ofInt32]
 exact zIG _
theorem zIH (x:BitVec 32) (n:Nat) (hn:n < 32):uY .u32 (x.toNat:Int) (n:Int) = ((x >>> n).toNat:Int):=by
 unfold uY
 have:min ((n:Int).toNat) (IntKind.bits .u32) = n:=by simp [IntKind.bits]; omega
 rw [this,BitVec.toNat_ushiftRight,Nat.shiftRight_eq_div_pow,Int.fdiv_eq_ediv_of_nonneg _ (Int.le_of_lt (Int.pow_pos (by decide))),Int.natCast_ediv,Int.natCast_pow]
 rfl
def zHf (s:BitVec 32):BitVec 32:=if s &&& 1 = 1 then (s >>> 1) ^^^ 2197175160#32 else s >>> 1
def zEm:Nat→BitVec 32→BitVec 32
 | 0,s=>s
 | n + 1,s=>zEm n (zHf s)
theorem zFB:∀ (n:Nat) (s:BitVec 32),zEm (n + 1) s = zHf (zEm n s)
 | 0,s=>rfl
 | n + 1,s=>by rw [zEm,zFB n]; rfl
def zLa (s:BitVec 32) (b:UInt8):BitVec 32:=zEm 8 (s ^^^ b.toBitVec.setWidth 32)
def zEn (xs:List UInt8):BitVec 32:=xs.foldl zLa 4294967295#32
def zOV (xs:List UInt8):BitVec 32:=4294967295#32 ^^^ zEn xs
section
variable {B w:World} {Γ:List zC}
theorem zLb (x:UInt8):IntKind.wrap .u32 (x.toNat:Int) = ((x.toBitVec.setWidth 32).toNat:Int):=by
 have:=x.toNat_lt
 rw [zH2 (by omega) (by omega),BitVec.toNat_setWidth]
 have e:x.toBitVec.toNat = x.toNat:=rfl
 rw [e,Nat.mod_eq_of_lt (by omega)]
theorem zEo {s:Sl} {xs:List UInt8} {k:Int→K} (hl:xs.length ≤ 1000000000) (h:Holds B Γ w) (hr:∀ w,Holds B Γ w→RdB w s xs) (hk:∀ w,Holds B Γ w→k ((zOV xs).toNat:Int) w):qM.call s k w:=by
 have hn:xs.length = s.n:=by have:=(hr w h).len; simpa using this
 refine zGu _ _ _ ?_
 unfold qM
 refine yY.of (fun t w=>∃ j:Nat,t = (((zEn (xs.take j)).toNat:Int),(j:Int))∧j ≤ xs.length∧Holds B Γ w) (fun t _=>((s.n:Int) - t.2).toNat) ⟨0,rfl,by omega,h⟩ ?_
 clear h
 rintro t w ⟨j,rfl,hj,h⟩
 dsimp only
 unfold qM.b1
 refine yc (fun hb=>?_) (fun hb=>?_)
 ·simp only [decide_eq_true_eq] at hb
  have hjl:j < xs.length:=by omega
  have hx:xs[j]? = some xs[j]:=List.getElem?_eq_getElem hjl
  generalize hX:xs[j] = x at hx
  refine zEF (hr w h) hx ?_
  refine qY (zLb x) ?_
  refine qY (zKD _ _) ?_
  refine yY.of (fun t w=>∃ i:Nat,t = (((zEm i (zEn (xs.take j) ^^^ x.toBitVec.setWidth 32)).toNat:Int),(i:Int))∧i ≤ 8∧Holds B Γ w) (fun t _=>((8:Int) - t.2).toNat) ⟨0,rfl,by omega,h⟩ ?_
  clear h
  rintro t w ⟨i,rfl,hi,h⟩
  dsimp only
  unfold qM.b2
  refine yc (fun hb2=>?_) (fun hb2=>?_)
  ·simp only [decide_eq_true_eq] at hb2
   have hS:=zFB i (zEn (xs.take j) ^^^ x.toBitVec.setWidth 32)
   have key:∀ w,Holds B Γ w→(fun (t:Int×Int) w=>∃ i:Nat,t = (((zEm i (zEn (xs.take j) ^^^ x.toBitVec.setWidth 32)).toNat:Int),(i:Int))∧i ≤ 8∧Holds B Γ w) (((zHf (zEm i (zEn (xs.take j) ^^^ x.toBitVec.setWidth 32))).toNat:Int),((i:Int) + 1)) w:=fun w h=>by
    refine ⟨i + 1,?_,by omega,h⟩
    rw [hS]
    simp
   clear hS
   generalize zEm i (zEn (xs.take j) ^^^ x.toBitVec.setWidth 32) = S at key
   refine qY (zOU S 1#32) ?_
   refine zEg (by decide) ?_
   refine qY (zIH S 1 (by decide)) ?_
   have e1:((S &&& 1#32).toNat:Int) = 1 ↔ S &&& 1 = 1:=by
    constructor
    ·intro h1
     apply BitVec.eq_of_toNat_eq
     have:(S &&& 1#32).toNat = 1:=by omega
     exact this
    ·intro h1
     have:(S &&& 1#32).toNat = 1:=by rw [show S &&& 1#32 = 1 from h1]; rfl
     omega
   refine yc (fun hb3=>?_) (fun hb3=>?_)
   ·simp only [decide_eq_true_eq] at hb3
    refine qY (zKD (S >>> 1) 2197175160#32) ?_
    unfold qM.s3
    refine jo (by omega) (by omega) ?_
    have e2:zHf S = (S >>> 1) ^^^ 2197175160#32:=by unfold zHf; rw [if_pos (e1.1 hb3)]
    rw [← e2]
    exact ⟨key _ h,by omega⟩
   ·simp only [decide_eq_false_iff_not] at hb3
    unfold qM.s3
    refine jo (by omega) (by omega) ?_
    have e2:zHf S = S >>> 1:=by unfold zHf; rw [if_neg (fun h2=>hb3 (e1.2 h2))]
    rw [← e2]
    exact ⟨key _ h,by omega⟩
  ·simp only [decide_eq_false_iff_not] at hb2
   have hi8:i = 8:=by omega
   subst hi8
   refine jo (by omega) (by omega) ?_
   refine ⟨⟨j + 1,?_,by omega,h⟩,by omega⟩
   have e:zEn (xs.take (j + 1)) = zEm 8 (zEn (xs.take j) ^^^ x.toBitVec.setWidth 32):=by
    rw [List.take_succ_eq_append_getElem hjl,hX]
    unfold zEn
    rw [List.foldl_append]
    rfl
   rw [e]
   simp
 ·simp only [decide_eq_false_iff_not] at hb
  have hj2:j = xs.length:=by omega
  subst hj2
  refine qY (zKD 4294967295#32 _) ?_
  rw [List.take_length]
  exact hk _ h
end
end
end Go.Proofs.YtgmbfnboiobeaaaGreat
namespace Go.Sep
section
open Go Go.RowKit
def HG (B:World) (Γ:List zC) (k:K):Prop:=∀ w,Holds B Γ w→k w
class Own (b:Nat) (Γ:List zC) (A:outParam zC) (Δ:outParam (List zC)):Prop where perm:Γ.Perm (A::Δ)
class zF8 (s:Sl) (Γ:List zC) (A:outParam zC) (Δ:outParam (List zC)):Prop where perm:Γ.Perm (A::Δ)
class Pick (A:zC) (Γ:List zC) (Δ:outParam (List zC)):Prop where perm:Γ.Perm (A::Δ)
class Drops (Γ Δ:List zC):Prop where imp:∀ {h:Hp},stars Γ h→stars Δ h
theorem zBD {A X:zC} {Γ Δ:List zC} (h:Γ.Perm (A::Δ)):(X::Γ).Perm (A::X::Δ):=(h.cons X).trans (List.Perm.swap _ _ _)
instance (priority:=low) zOW {b:Nat} {X A:zC} {Γ Δ:List zC} [h:Own b Γ A Δ]:Own b (X::Γ) A (X::Δ):=⟨zBD h.perm⟩
instance (priority:=high) zOj {b:Nat} {o:Obj} {Γ:List zC}:Own b (blk b o::Γ) (blk b o) Γ:=⟨.refl _⟩
instance (priority:=low) zNb {s:Sl} {X A:zC} {Γ Δ:List zC} [h:zF8 s Γ A Δ]:zF8 s (X::Γ) A (X::Δ):=⟨zBD h.perm⟩
instance (priority:=high) zOk {E esz:Nat} {s:Sl} {vs:List Value} {Γ:List zC}:zF8 s (SlC E esz s vs::Γ) (SlC E esz s vs) Γ:=⟨.refl _⟩
instance (priority:=high) zOl {E:Nat} {s:Sl} {vs:List UInt8} {Γ:List zC}:zF8 s (Bytes E s vs::Γ) (Bytes E s vs) Γ:=⟨.refl _⟩
instance (priority:=low) zNc {A X:zC} {Γ Δ:List zC} [h:Pick A Γ Δ]:Pick A (X::Γ) (X::Δ):=⟨zBD h.perm⟩
instance (priority:=high) zNd {A:zC} {Γ:List zC}:Pick A (A::Γ) Γ:=⟨.refl _⟩
instance (priority:=high) zNK {A:zC} {Γ Γ' Δ:List zC} [p:Pick A Γ Γ'] [d:Drops Γ' Δ]:Drops Γ (A::Δ):=⟨fun h=>jV (fun _ h=>h) (fun _ h=>d.imp h) (zDv p.perm h)⟩
instance zNL {Γ:List zC}:Drops Γ Γ:=⟨fun h=>h⟩
instance (priority:=low) zNe {Γ:List zC}:Drops Γ []:=⟨fun _=>trivial⟩
instance (priority:=low) zNM {A:zC} {Γ Δ:List zC} [d:Drops Γ Δ]:Drops (A::Γ) Δ:=⟨fun h=>d.imp (zDt h)⟩
section
variable {B w:World} {Γ Δ:List zC} {k:K} {A A':zC}
theorem Holds.drops (h:Holds B Γ w) [d:Drops Γ Δ]:Holds B Δ w:=⟨h.below,d.imp h.stars⟩
theorem hg (h:Holds B Γ w) (hk:HG B Γ k):k w:=hk w h
theorem qm (h:HG B Δ k) [d:Drops Γ Δ]:HG B Γ k:=fun w hw=>h w hw.drops
theorem zF9 {α:Sort _} {F:α→zC} (h:∀ x,HG B (F x::Γ) k):HG B (Sep.ex F::Γ) k:=fun w hw=>by
 obtain ⟨x,hx⟩:=Holds.ex.1 hw; exact h x w hx
theorem zMP {p:Prop} (h:p→HG B Γ k):HG B (pur p::Γ) k:=fun w hw=>by
 obtain ⟨hp,hx⟩:=Holds.pur.1 hw; exact h hp w hx
theorem zCl (h:HG B (Δ++Γ) k):HG B (Sep.stars Δ::Γ) k:=fun w hw=>h w (Holds.flat.1 hw)
theorem vw (A:zC) (h:HG B (A::Δ) k) [p:Pick A Γ Δ]:HG B Γ k:=fun w hw=>h w (hw.perm p.perm)
theorem zAM (b:Nat) (h:HG B (A::Δ) k) [p:Own b Γ A Δ]:HG B Γ k:=fun w hw=>h w (hw.perm p.perm)
theorem zGA (s:Sl) (h:HG B (A::Δ) k) [p:zF8 s Γ A Δ]:HG B Γ k:=fun w hw=>h w (hw.perm p.perm)
theorem zNN (h:HG B (A'::A::Γ) k):HG B (A::A'::Γ) k:=fun w hw=>h w hw.swap
theorem zAy {b:Bool} {x y:K} (h1:b = true→HG B Γ x) (h2:b = false→HG B Γ y):HG B Γ (Ite b x y):=fun w hw=>⟨fun hb=>h1 hb w hw,fun hb=>h2 hb w hw⟩
theorem s_t {b:Bool} {x y:K} (h:HG B Γ x) (hb:b = true:=by first | rfl | (simp; done) | (simp; omega)):HG B Γ (Ite b x y):=fun w hw=>qN hb (h w hw)
theorem s_f {b:Bool} {x y:K} (h:HG B Γ y) (hb:b = false:=by first | rfl | (simp; done) | (simp; omega)):HG B Γ (Ite b x y):=fun w hw=>zk hb (h w hw)
theorem jG {e e':Int} {k:Int→K} (he:e = e') (h:HG B Γ (k e')):HG B Γ (Ar e k):=fun w hw=>qY he (h w hw)
theorem zIs {e:Int} {k:Int→K} (h:HG B Γ (k e)) (h0:-9223372036854775808 ≤ e:=by omega) (h1:e ≤ 9223372036854775807:=by omega):HG B Γ (Ar (IntKind.wrap .i64 e) k):=jG (wrap64 h0 h1) h
theorem zIt {p:Prop} (hp:p) (h:HG B Γ k):HG B Γ (Cd p k):=fun w hw=>⟨hp,h w hw⟩
theorem jS {a:Addr} {k:Addr→K} (h:HG B Γ (k a)):HG B Γ (Nn (some a) k):=fun w hw=>⟨a,rfl,h w hw⟩
theorem zLc (h:HG B Γ k):HG B Γ (Dr k):=fun w hw=>zBe hw fun w hw=>h w hw
theorem zPM {k:(World→Prop)→K} (h:HG B Γ (k (Holds B Γ))):HG B Γ (qx k):=fun w hw=>⟨Holds B Γ,hw,h w hw⟩
theorem zNO (h:HG B Γ k) [d:Drops Γ Δ]:HG B Γ (Sv (Holds B Δ) k):=fun w hw=>⟨hw.drops,h w hw⟩
theorem zOX {α:Type} {cs:List Value} {off:Nat} {c:α→Value} {x:α} {k:α→K} (h:HG B Γ (k x)) (hv:nth cs off = some (c x):=by rfl):HG B Γ (Fld cs.toArray off c k):=fun w hw=>⟨x,by rw [zCc] at hv; simpa using hv,h w hw⟩
theorem zMQ {a b:ByteArray} {k:ByteArray→K} (hl:((a.size + b.size:Nat):Int) ≤ 9223372036854775807) (h:HG B Γ (k (a++b))):HG B Γ (Cat a b k):=fun w hw=>⟨_,hl,rfl,h w hw⟩
theorem zNP {zero:List Value} {cs:List Value} {n:Nat} {k:Array Value→K} (h:HG B Γ (k cs.toArray)) (hz:zero.length = n:=by rfl) (hn:cs.length = n:=by rfl):HG B Γ (Bld zero.toArray (fun i=>some (i * n,n)) [(0,.agg cs.toArray)] k):=fun w hw=>zMj (by simpa using hz) (by simpa using hn) (h w hw)
class je (a:Addr) (b off:outParam Nat):Prop where h:a = ⟨b,off,none⟩
instance zPN {b off:Nat}:je ⟨b,off,none⟩ b off:=⟨rfl⟩
instance zOm {b off n:Nat}:je ((⟨b,off,none⟩:Addr).add n) b (off + n):=⟨yB _ _ _⟩
theorem jI {T:TypeId} {cs:Array Value} {k:Addr→K} (h:∀ b,HG B (blk b (.cells cs T (0,0))::Γ) (k ⟨b,0,none⟩)):HG B Γ (New T cs k):=fun w hw=>vX hw fun b w hw=>h b w hw
theorem zBE {b:Nat} {o:Obj} (h:Holds B Γ w) [p:Own b Γ (blk b o) Δ]:w.heap[b]? = some o:=(h.perm p.perm).block
theorem vV {α:Type} {a:Addr} {b off:Nat} {l:List Value} {T:TypeId} {fz:Nat×Nat} {c:α→Value} {x:α} {k:α→K} (h:HG B Γ (k x)) [ad:je a b off] [p:Own b Γ (blk b (.cells l.toArray T fz)) Δ] (hv:nth l off = some (c x):=by rfl):HG B Γ (Ld a c k):=fun w hw=>
 ⟨x,by rw [ad.h]; exact qX (zBE hw (p:=p)) (by rw [zCc] at hv; simpa using hv),h w hw⟩
theorem zII {b off n:Nat} {l l':List Value} {T:TypeId} {fz:Nat×Nat} (h:w.heap[b]? = some (.cells l.toArray T fz)) (hl:(l.drop off).take n = l') (hn:l'.length = n):RdN w ⟨b,off,none⟩ l'.toArray:=by
 refine zIg h fun i hi=>?_
 have hi':i < l'.length:=by simpa using hi
 have:l'[i]? = l[off + i]?:=by rw [← hl,List.getElem?_take,if_pos (by omega),List.getElem?_drop]
 simpa using this.symm
theorem zOY {a:Addr} {b off n:Nat} {l l':List Value} {T:TypeId} {fz:Nat×Nat} {k:Array Value→K} (h:HG B Γ (k l'.toArray)) [ad:je a b off] [p:Own b Γ (blk b (.cells l.toArray T fz)) Δ]
  (hl:(l.drop off).take n = l':=by first | rfl | simp only [Nat.zero_add,Nat.reduceAdd,List.drop_zero,List.drop_succ_cons,List.take_succ_cons,List.take_zero]) (hn:l'.length = n:=by rfl):HG B Γ (LdN a n k):=fun w hw=>
 ⟨l'.toArray,by simpa using hn,by rw [ad.h]; exact zII (zBE hw (p:=p)) hl hn,h w hw⟩
variable {Γ0:List zC}
theorem zGx {α:Type} {a:Addr} {b off:Nat} {l:List Value} {T:TypeId} {fz:Nat×Nat} {c:α→Value} {x:α} {k:α→K} (h:HG B Γ (k x)) [ad:je a b off] [p:Own b Γ0 (blk b (.cells l.toArray T fz)) Δ] (hv:nth l off = some (c x):=by rfl):HG B Γ (LdS (Holds B Γ0) a c k):=fun w hw=>
 ⟨x,fun w' hw'=>by rw [ad.h]; exact qX (zBE hw' (p:=p)) (by rw [zCc] at hv; simpa using hv),h w hw⟩
theorem zNQ {a:Addr} {b off n:Nat} {l l':List Value} {T:TypeId} {fz:Nat×Nat} {k:Array Value→K} (h:HG B Γ (k l'.toArray)) [ad:je a b off] [p:Own b Γ0 (blk b (.cells l.toArray T fz)) Δ]
  (hl:(l.drop off).take n = l':=by first | rfl | simp only [Nat.zero_add,Nat.reduceAdd,List.drop_zero,List.drop_succ_cons,List.take_succ_cons,List.take_zero]) (hn:l'.length = n:=by rfl):HG B Γ (jw (Holds B Γ0) a n k):=fun w hw=>
 ⟨l'.toArray,by simpa using hn,fun w' hw'=>by rw [ad.h]; exact zII (zBE hw' (p:=p)) hl hn,h w hw⟩
theorem t0 {v x0:Value} {l:List Value}:(x0::l).set 0 v = v::l:=rfl
theorem t1 {v x0 x1:Value} {l:List Value}:(x0::x1::l).set 1 v = x0::v::l:=rfl
theorem t2 {v x0 x1 x2:Value} {l:List Value}:(x0::x1::x2::l).set 2 v = x0::x1::v::l:=rfl
theorem t3 {v x0 x1 x2 x3:Value} {l:List Value}:(x0::x1::x2::x3::l).set 3 v = x0::x1::x2::v::l:=rfl
theorem t4 {v x0 x1 x2 x3 x4:Value} {l:List Value}:(x0::x1::x2::x3::x4::l).set 4 v = x0::x1::x2::x3::v::l:=rfl
theorem t5 {v x0 x1 x2 x3 x4 x5:Value} {l:List Value}:(x0::x1::x2::x3::x4::x5::l).set 5 v = x0::x1::x2::x3::x4::v::l:=rfl
theorem t6 {v x0 x1 x2 x3 x4 x5 x6:Value} {l:List Value}:(x0::x1::x2::x3::x4::x5::x6::l).set 6 v = x0::x1::x2::x3::x4::x5::v::l:=rfl
theorem t7 {v x0 x1 x2 x3 x4 x5 x6 x7:Value} {l:List Value}:(x0::x1::x2::x3::x4::x5::x6::x7::l).set 7 v = x0::x1::x2::x3::x4::x5::x6::v::l:=rfl
theorem zKE {l l':List Value} {off:Nat} {v:Value} (h:l.set off v = l':=by first | exact t0 | exact t1 | exact t2 | exact t3 | exact t4 | exact t5 | exact t6 | exact t7 | rfl):l.set off v = l':=h
theorem zGy {a:Addr} {b off:Nat} {l l':List Value} {T:TypeId} {v:Value} (h:HG B (blk b (.cells l'.toArray T (0,0))::Δ) k) [ad:je a b off] [p:Own b Γ (blk b (.cells l.toArray T (0,0))) Δ] (ho:Nat.ble (off + 1) l.length = true:=by rfl)
  (hl:l.set off v = l':=by exact zKE) (hv:qj v = true:=by rfl):HG B Γ (St a v k):=fun w hw=>by
 have h1:=hw.perm p.perm
 refine S0 h1 ad.h (by have:=Nat.le_of_ble_eq_true ho; simp only [List.size_toArray]; omega) hv fun w2 h2=>h w2 ?_
 rw [N6,hl] at h2; exact h2
theorem zOZ {a:Addr} {b n:Nat} {l l':List Value} {T:TypeId} (h:HG B (blk b (.cells l'.toArray T (0,0))::Δ) k) [ad:je a b 0] [p:Own b Γ (blk b (.cells l.toArray T (0,0))) Δ] (hn:l.length = n:=by rfl) (hn':l'.length = n:=by rfl)
  (hf:l'.all qj = true:=by rfl):HG B Γ (StN a n l'.toArray k):=fun w hw=>
 T0 (hw.perm p.perm) ad.h (by simpa using hn) (by simpa using hn') (fun v hv=>List.all_eq_true.1 hf v (by simpa using hv)) fun w2 h2=>h w2 h2
theorem zCm {s:Sl} {E esz:Nat} {vs:List Value} (h:Holds B Γ w) [p:zF8 s Γ (SlC E esz s vs) Δ]:RdC w s esz vs∧vs.length = s.n * esz∧s.n ≤ s.c∧(∀ a,s.a = some a→a.spot = none)∧(s.a = none→s.c = 0):=by
 have h1:=h.perm p.perm
 exact ⟨h1.rdC List.mem_cons_self,h1.jd⟩
theorem zLd {s:Sl} {E esz:Nat} {vs:List Value} (h:Holds B Γ w) (p:zF8 s Γ (SlC E esz s vs) Δ):vs.length = s.n * esz∧s.n ≤ s.c∧(∀ a,s.a = some a→a.spot = none)∧(s.a = none→s.c = 0):=(zCm h (p:=p)).2
theorem zFC (s:Sl) {E esz:Nat} {vs:List Value} [p:zF8 s Γ (SlC E esz s vs) Δ] (h:vs.length = s.n * esz→s.n ≤ s.c→(∀ a,s.a = some a→a.spot = none)→(s.a = none→s.c = 0)→HG B Γ k):HG B Γ k:=fun w hw=>by
 obtain ⟨h1,h2,h3,h4⟩:=zLd hw p
 exact h h1 h2 h3 h4 w hw
end
end
section
open Go Go.RowKit
def zNR (P:Program) (T U E esz:Nat):Bool:=sliceT P T E esz && zGp P U && match P.info? E with
 | some i=>Nat.ble i.bytes 1000 && !Nat.beq i.bytes 0 && match i.zero with
  | some z=>Nat.beq z.cells.size esz && z.cells.toList.all qj
  | none=>false
 | none=>false
theorem zIu {P:Program} {T U E esz:Nat} (h:zNR P T U E esz = true):sliceT P T E esz = true∧zGp P U = true∧∃ n zv,zCg P E n = true∧n ≤ 1000∧n ≠ 0∧uP P E zv∧zv.cells.size = esz∧∀ v ∈ zv.cells.toList,qj v = true:=by
 unfold zNR at h
 simp only [Bool.and_eq_true] at h
 obtain ⟨⟨h1,h2⟩,h3⟩:=h
 refine ⟨h1,h2,?_⟩
 split at h3
 ·rename_i i hi
  simp only [Bool.and_eq_true,Bool.not_eq_true'] at h3
  obtain ⟨⟨h4,h5⟩,h6⟩:=h3
  split at h6
  ·rename_i z hz
   simp only [Bool.and_eq_true] at h6
   refine ⟨i.bytes,z,by unfold zCg; rw [hi]; simp,Nat.le_of_ble_eq_true h4,(fun e=>by rw [e] at h5; cases h5),⟨i,hi,hz⟩,Nat.eq_of_beq_eq_true h6.1,List.all_eq_true.1 h6.2⟩
  ·cases h6
 ·cases h3
section
variable {P:Program} {B w:World} {Γ Δ:List zC} {E esz:Nat} {s x:Sl} {vs us:List Value}
theorem zEG {T U Tr:Nat} {k:Sl→K} (hx:∀ w,Holds B Γ w→RdC w x esz us) (hfl:∀ u ∈ us,qj u = true) (hroom:s.n + x.n ≤ 100000000) (h:∀ s',s'.n = s.n + x.n→HG B (SlC E esz s' (vs++us)::Δ) (k s')) [p:zF8 s Γ (SlC E esz s vs) Δ] (hT:zNR P T U E esz = true:=by kernel_rfl) :
  HG B Γ (Do P (Builtin.append_ #[T,U] Tr #[s.val,x.val]) Sl.val k):=fun w hw=>by
 obtain ⟨h1,h2,n,zv,h3,h4,h5,h6,h7,_⟩:=zIu hT
 refine zAu (hw.perm p.perm) h1 h2 h3 h6 h7 (hx w hw) hfl ?_ h5 fun s' w' h' hn _=>h s' hn w' h'
 have h8:(2 * (s.n + x.n) + 800) * n ≤ 200000800 * 1000:=Nat.mul_le_mul (by omega) h4
 omega
end
end
section
open Go Go.RowKit
section
variable {P:Program} {B w:World} {Γ Δ Δ2:List zC} {E esz:Nat} {s x:Sl} {vs us:List Value}
theorem zCn {t:Nat} {cs:List Value} {T:TypeId} {k:Nat} (he:cs.length = esz) [q:Own t Γ (blk t (.cells cs.toArray T (0,0))) Δ]:∀ w,Holds B Γ w→RdC w ⟨some ⟨t,0,none⟩,1,k⟩ esz cs:=fun w hw=>
 RdC.zF3 (E:=T) (hw.perm q.perm) List.mem_cons_self (by simp) (by simpa using he) k
end
section
variable {P:Program} {B w:World} {Γ Δ:List zC} {k:K}
theorem least {p:Nat→Prop} (h:∃ n,p n):∃ n,p n∧∀ m,p m→n ≤ m:=by
 obtain ⟨n,hn⟩:=h
 induction n using Nat.strongRecOn with
 | ind n ih=>
  by_cases h:∃ m,m < n∧p m
  ·obtain ⟨m,h1,h2⟩:=h; exact ih m h1 h2
  ·exact ⟨n,hn,fun m hm=>Nat.le_of_not_lt fun h2=>h ⟨m,h2,hm⟩⟩
theorem zBk {α ι:Type} {body:(α→K)→α→K} {x:α} (J:α→ι→Prop) (Γf:α→ι→List zC) (m:α→ι→Nat) (i:ι) (h0:J x i)
  (h:∀ (k':α→K) x i,J x i→(∀ x' i',J x' i'→m x' i' < m x i→HG B (Γf x' i') (k' x'))→HG B (Γf x i) (body k' x)) (hΓ:Γf x i = Γ:=by rfl):HG B Γ (yY body x):=fun w hw=>by
 subst hΓ
 let I:α→World→Prop:=fun x w=>∃ i,J x i∧Holds B (Γf x i) w
 let p:α→World→Nat→Prop:=fun x w n=>∃ i,J x i∧Holds B (Γf x i) w∧m x i = n
 have hp:∀ x w,I x w→∃ n,p x w n:=fun x w ⟨i,h1,h2⟩=>⟨_,i,h1,h2,rfl⟩
 let μ:α→World→Nat:=fun x w=>@dite _ (I x w) (Classical.propDecidable _) (fun h=>Classical.choose (least (hp x w h))) fun _=>0
 have hμ:∀ x w (h:I x w),p x w (μ x w)∧∀ n,p x w n→μ x w ≤ n:=fun x w h=>by
  have:=Classical.choose_spec (least (hp x w h))
  simpa [μ,h] using this
 refine yY.of I μ ⟨i,h0,hw⟩ fun x w hI=>?_
 obtain ⟨i,hj,hw,hm⟩:=(hμ x w hI).1
 refine h _ x i hj (fun x' i' hj' hlt w' hw'=>⟨⟨i',hj',hw'⟩,?_⟩) w hw
 have:=(hμ x' w' ⟨i',hj',hw'⟩).2 _ ⟨i',hj',hw',rfl⟩
 omega
theorem zIJ {α:Type} {body:(α→K)→α→K} {x:α} (J:α→Prop) (m:α→Nat) (h0:J x)
  (h:∀ (k':α→K) x,J x→(∀ x',J x'→m x' < m x→HG B Γ (k' x'))→HG B Γ (body k' x)):HG B Γ (yY body x) :=
 zBk (ι:=Unit) (fun x _=>J x) (fun _ _=>Γ) (fun x _=>m x) () h0 fun k' x _ hj hk=>h k' x hj fun x' hj' hm=>hk x' () hj' hm
end
abbrev bs (l:List UInt8):ByteArray:=⟨l.toArray⟩
abbrev x9 (l:List UInt8):Value:=.string (bs l)
section
variable {B w:World} {Γ Δ:List zC} {k:K} {α:Type} {F:α→zC} {A C:List α} {x:α}
theorem zKF:(((A++x::C).map F)++Γ).Perm (((A++C).map F)++F x::Γ):=by
 have h2:((A++x::C).map F).Perm (F x::(A++C).map F):=(List.perm_middle (a:=x) (l₁:=A) (l₂:=C)).map _
 refine (h2.append_right Γ).trans ?_
 exact (List.perm_middle (a:=F x) (l₁:=(A++C).map F) (l₂:=Γ)).symm
theorem zLe (h:HG B (Sep.stars ((A++x::C).map F)::Γ) k):HG B (F x::Sep.stars ((A++C).map F)::Γ) k:=fun w hw=>
 h w (Holds.flat.2 ((Holds.flat.1 hw.swap).perm zKF.symm))
end
section
variable {P:Program} {B w:World} {Γ Δ:List zC}
theorem zCo {α:Type} {c:α→Value} {L:List α} {s:Sl} {j:Nat} {jj:Int} {x:α} {k:α→K} (hr:∀ w,Holds B Γ w→RdC w s 1 (L.map c)) (hx:L[j]? = some x) (h:HG B Γ (k x)) (hj:jj = (j:Int):=by first | rfl | omega):HG B Γ (Idx s jj 1 fun t=>Ld t c k):=fun w hw=>by
 subst hj; exact zEB (hr w hw) hx (h w hw)
end
end
end Go.Sep
namespace Go.Proofs.YtgmbfnboiobeaaaGreat
section
open Go Go.Sep
def u8 (n:Nat):UInt8:=UInt8.ofNat n
theorem u8N (n:Nat):(u8 n).toNat = n % 256:=by simp [u8,UInt8.toNat_ofNat']
theorem zAe (n:Nat):IntKind.wrap .u8 (n:Int) = ((u8 n).toNat:Int):=by
 rw [u8N]
 unfold IntKind.wrap
 simp [IntKind.bits,IntKind.signed]
theorem zMR (n:Nat) (k:Nat) (hk:k < 64):uY .i64 (n:Int) (k:Int) = ((n / 2 ^ k:Nat):Int):=by
 unfold uY
 have:min ((k:Int).toNat) (IntKind.bits .i64) = k:=by simp [IntKind.bits]; omega
 rw [this,Int.fdiv_eq_ediv_of_nonneg _ (Int.le_of_lt (Int.pow_pos (by decide))),Int.natCast_ediv,Int.natCast_pow]
 rfl
end
section
open Go Go.Sep
def hd2 (n:Nat):List UInt8:=[u8 (n / 256),u8 n]
def zGz (b:List UInt8):BitVec 32:=zOV (hd2 b.length++b)
def hd6 (b:List UInt8):List UInt8:=hd2 b.length++[u8 (zGz b).toNat,u8 ((zGz b >>> 8).toNat),u8 ((zGz b >>> 16).toNat),u8 ((zGz b >>> 24).toNat)]
def zU (b:List UInt8):List UInt8:=hd6 b++b
theorem zIK (b:List UInt8):(hd6 b).length = 6:=rfl
theorem yM (b:List UInt8):(zU b).length = 6 + b.length:=by simp [zU,zIK]
section
variable {B w:World} {Γ:List zC}
theorem zCp {s:Sl} {b:List UInt8} {k:Int→K} (hl:b.length ≤ 100000000) (h:Holds B Γ w) (hr:∀ w,Holds B Γ w→RdB w s b) (hk:∀ w,Holds B Γ w→k ((zGz b).toNat:Int) w):uH.call s k w:=by
 have hn:b.length = s.n:=by have:=(hr w h).len; simpa using this
 refine zED _ _ _ ?_
 unfold uH
 refine zEg (by decide) ?_
 rw [← hn]
 refine qY (zMR _ 8 (by decide)) ?_
 refine qY (zAe _) ?_
 refine qY (zAe _) ?_
 refine vX h ?_
 clear h
 intro t10 w h
 try simp only [yB,Nat.zero_add,Nat.reduceAdd]
 replace h:=jU (xs:=hd2 b.length) (n:=2) (by rfl) rfl h
 refine zAx h (hr _ h.tail) (by simp [hd2]; omega) fun t12 w h _ _=>?_
 refine zEo (by simp [hd2]; omega) h (fun w h=>Bytes.rd h List.mem_cons_self) fun w h=>?_
 exact hk _ h.tail
theorem vv {s:Sl} {b:List UInt8} {k:Sl→Int→K} (hl:b.length ≤ 4096) (h:Holds B Γ w) (hr:∀ w,Holds B Γ w→RdB w s b) (hk:∀ f w,Holds B (Bytes zV f (zU b)::Γ) w→k f 0 w):xu.call s k w:=by
 have hn:b.length = s.n:=by have:=(hr w h).len; simpa using this
 refine zEk _ _ _ ?_
 unfold xu
 refine zk (by simp only [decide_eq_false_iff_not]; omega) ?_
 refine zCp (by omega) h hr fun w h=>?_
 refine zEg (by decide) ?_
 rw [← hn]
 refine qY (zMR _ 8 (by decide)) ?_
 refine qY (zAe _) ?_
 refine qY (zAe _) ?_
 refine qY (zAe _) ?_
 refine zEg (by decide) ?_
 refine qY (zIH _ 8 (by decide)) ?_
 refine qY (zAe _) ?_
 refine zEg (by decide) ?_
 refine qY (zIH _ 16 (by decide)) ?_
 refine qY (zAe _) ?_
 refine zEg (by decide) ?_
 refine qY (zIH _ 24 (by decide)) ?_
 refine qY (zAe _) ?_
 refine vX h ?_
 clear h
 intro t29 w h
 try simp only [yB,Nat.zero_add,Nat.reduceAdd]
 replace h:=jU (xs:=hd6 b) (n:=6) (by rfl) rfl h
 refine zAx h (hr _ h.tail) (by rw [zIK]; omega) fun t32 w h _ _=>?_
 exact hk _ _ h
theorem jr {a b:Sl} {xs ys:List UInt8} {k:Bool→K} (hl:xs.length ≤ 1000000000) (h:Holds B Γ w) (hx:∀ w,Holds B Γ w→RdB w a xs) (hy:∀ w,Holds B Γ w→RdB w b ys)
  (hk:∀ w,Holds B Γ w→k (decide (xs = ys)) w):zq.call a b k w:=by
 have hn:xs.length = a.n:=by have:=(hx w h).len; simpa using this
 have hm:ys.length = b.n:=by have:=(hy w h).len; simpa using this
 refine jR _ _ _ _ ?_
 unfold zq
 refine yc (fun hb=>?_) (fun hb=>?_)
 ·simp only [decide_eq_true_eq] at hb
  have:=hk w h
  rw [decide_eq_false (fun e=>hb (by rw [e] at hn; omega))] at this
  exact this
 simp only [decide_eq_false_iff_not] at hb
 refine yY.of (fun t w=>∃ j:Nat,t = (j:Int)∧j ≤ xs.length∧xs.take j = ys.take j∧Holds B Γ w) (fun t _=>((a.n:Int) - t).toNat) ⟨0,rfl,by omega,rfl,h⟩ ?_
 clear h
 rintro t w ⟨j,rfl,hj,he,h⟩
 unfold zq.b1
 refine yc (fun hb2=>?_) (fun hb2=>?_)
 ·simp only [decide_eq_true_eq] at hb2
  refine zBe h ?_
  clear h
  intro w h
  have hxj:xs[j]? = some xs[j]:=List.getElem?_eq_getElem (by omega)
  have hyj:ys[j]? = some ys[j]:=List.getElem?_eq_getElem (by omega)
  generalize hX:xs[j] = x at hxj
  generalize hY:ys[j] = y at hyj
  refine zEF (hx w h) hxj ?_
  refine zEF (hy w h) hyj ?_
  refine yc (fun hne=>?_) (fun hne=>?_)
  ·simp only [decide_eq_true_eq] at hne
   have h1:xs ≠ ys:=fun e=>by
    subst e
    rw [hxj] at hyj
    cases hyj
    exact hne rfl
   have:=hk w h
   rw [decide_eq_false h1] at this
   exact this
  ·simp only [decide_eq_false_iff_not,Decidable.not_not] at hne
   have hxy:x = y:=UInt8.toNat_inj.1 (by omega)
   refine jo (by omega) (by omega) ?_
   refine ⟨⟨j + 1,by omega,by omega,?_,h⟩,by omega⟩
   rw [List.take_succ_eq_append_getElem (by omega:j < xs.length),List.take_succ_eq_append_getElem (by omega:j < ys.length),he,hX,hY,hxy]
 ·simp only [decide_eq_false_iff_not] at hb2
  have h1:xs = ys:=by
   rw [List.take_of_length_le (by omega),List.take_of_length_le (by omega)] at he
   exact he
  have:=hk w h
  rw [decide_eq_true h1] at this
  exact this
end
end
section
open Go Go.Sep
section
variable {B w:World} {Γ:List zC}
def zQ (d:List UInt8):List UInt8×Nat×Nat :=
 if d.length < 6 then ([],0,30)
 else
  let n:=256 * (d.getD 0 0).toNat + (d.getD 1 0).toNat
  if 4096 < n then ([],0,31)
  else if d.length - 6 < n then ([],0,30)
  else if zU ((d.drop 6).take n) = d.take (6 + n) then ((d.drop 6).take n,6 + n,0) else ([],0,33)
theorem zPO (x:Nat) (hx:x < 256):zBr .i64 (x:Int) 8 = ((x * 256:Nat):Int):=by
 unfold zBr
 have:min ((8:Int).toNat) (IntKind.bits .i64) = 8:=rfl
 rw [this]
 rw [wrap64 (by omega) (by omega)]
 omega
theorem zPP (x y:Nat) (hx:x < 256) (hy:y < 256):bitsOf .or .i64 ((x * 256:Nat):Int) (y:Int) = ((256 * x + y:Nat):Int):=by
 unfold bitsOf
 simp only
 have h1:(BitVec.ofInt (IntKind.bits .i64) ((x * 256:Nat):Int) ||| BitVec.ofInt (IntKind.bits .i64) (y:Int)).toNat = 256 * x + y:=by
  show (BitVec.ofInt 64 ((x * 256:Nat):Int) ||| BitVec.ofInt 64 (y:Int)).toNat = _
  rw [BitVec.toNat_or,BitVec.ofInt_natCast,BitVec.ofInt_natCast,BitVec.toNat_ofNat,BitVec.toNat_ofNat,Nat.mod_eq_of_lt (by omega),Nat.mod_eq_of_lt (by omega)]
  have h4:=Nat.two_pow_add_eq_or_of_lt (i:=8) (b:=y) (by omega) x
  have h5:2 ^ 8 * x = x * 256:=by omega
  rw [h5] at h4
  omega
 rw [h1,wrap64 (by omega) (by omega)]
theorem uT {s:Sl} {d:List UInt8} {k:Sl→Int→Int→K} (hl:d.length ≤ 100000000) (h:Holds B Γ w) (hr:∀ w,Holds B Γ w→RdB w s d) (hcap:s.n ≤ s.c)
  (hk:∀ f w,Holds B (Bytes zV f (zQ d).1::Γ) w→k f ((zQ d).2.1:Int) ((zQ d).2.2:Int) w):xP.call s k w:=by
 have hn:d.length = s.n:=by have:=(hr w h).len; simpa using this
 refine zDV _ _ _ ?_
 unfold xP
 unfold zQ at hk
 refine yc (fun hb=>?_) (fun hb=>?_)
 ·simp only [decide_eq_true_eq] at hb
  rw [if_pos (by omega)] at hk
  exact hk _ _ (h.zAJ _ _)
 simp only [decide_eq_false_iff_not] at hb
 rw [if_neg (by omega)] at hk
 have hsp:=zF7 (hr w h) (fun e=>by rw [e] at hn; simp at hn; omega)
 refine zBe h ?_
 clear h
 intro w h
 have h0:d[0]? = some (d.getD 0 0):=by
  have:0 < d.length:=by omega
  simp [List.getD,List.getElem?_eq_getElem this]
 have h1:d[1]? = some (d.getD 1 0):=by
  have:1 < d.length:=by omega
  simp [List.getD,List.getElem?_eq_getElem this]
 have hx:=(d.getD 0 0).toNat_lt
 have hy:=(d.getD 1 0).toNat_lt
 generalize d.getD 0 0 = x at h0 hx hk
 generalize d.getD 1 0 = y at h1 hy hk
 refine zEF (j:=0) (hr w h) h0 ?_
 refine qY (wrap64 (by omega) (by omega)) ?_
 refine zEg (by decide) ?_
 refine qY (zPO _ (by omega)) ?_
 refine zEF (j:=1) (hr w h) h1 ?_
 refine qY (wrap64 (by omega) (by omega)) ?_
 refine qY (zPP _ _ (by omega) (by omega)) ?_
 generalize 256 * x.toNat + y.toNat = n at hk
 simp only at hk
 refine yc (fun hb2=>?_) (fun hb2=>?_)
 ·simp only [decide_eq_true_eq] at hb2
  rw [if_pos (by omega)] at hk
  exact hk _ _ (h.zAJ _ _)
 simp only [decide_eq_false_iff_not] at hb2
 rw [if_neg (by omega)] at hk
 refine qY (wrap64 (by omega) (by omega)) ?_
 refine yc (fun hb3=>?_) (fun hb3=>?_)
 ·simp only [decide_eq_true_eq] at hb3
  rw [if_pos (by omega)] at hk
  exact hk _ _ (h.zAJ _ _)
 simp only [decide_eq_false_iff_not] at hb3
 rw [if_neg (by omega)] at hk
 have e6:(6:Int) + (n:Int) = ((6 + n:Nat):Int):=by omega
 refine qY (e':=((6 + n:Nat):Int)) (by rw [wrap64 (by omega) (by omega)]; omega) ?_
 refine ⟨_,by omega,by omega,by omega,by omega,rfl,?_⟩
 simp only [Int.toNat_natCast,show (6:Int).toNat = 6 from rfl]
 have hd6:∀ w,Holds B Γ w→RdB w ⟨uN s.a 6 s.c 1,6 + n - 6,s.c - 6⟩ ((d.drop 6).take n):=fun w h=>by
  have h1:=(hr w h).drop (l:=6) (c:=s.c) (by omega) hcap hsp
  have h2:=h1.take (m:=n) (c:=s.c - 6) (by simp only; omega)
  have e:6 + n - 6 = n:=by omega
  rw [e]
  show RdC w _ 1 (((d.drop 6).take n).map qd)
  rw [List.map_take,List.map_drop]
  simpa using h2
 have hdl:((d.drop 6).take n).length = n:=by simp; omega
 refine vv (b:=(d.drop 6).take n) (by omega) h hd6 fun f w h=>?_
 refine qY (e':=((6 + n:Nat):Int)) (by rw [wrap64 (by omega) (by omega)]; omega) ?_
 refine ⟨_,by omega,by omega,by omega,by omega,rfl,?_⟩
 simp only [Int.toNat_natCast,show (0:Int).toNat = 0 from rfl,zNG hsp,Nat.sub_zero]
 have hfl:=yM ((d.drop 6).take n)
 refine jr (xs:=zU ((d.drop 6).take n)) (ys:=d.take (6 + n)) (by omega) h (fun w h=>Bytes.rd h List.mem_cons_self) (fun w h=>by
  have h1:=(hr w h.tail).take (m:=6 + n) (c:=s.c) (by omega)
  show RdC w _ 1 ((d.take (6 + n)).map qd)
  rw [List.map_take]
  simpa using h1) fun w h=>?_
 by_cases he:zU ((d.drop 6).take n) = d.take (6 + n)
 ·rw [if_pos he] at hk
  rw [decide_eq_true he]
  refine zk rfl ?_
  have hfn:=Bytes.len h
  have hfc:=h.jd
  refine ⟨_,by omega,by omega,by omega,by omega,rfl,?_⟩
  simp only [Int.toNat_natCast,show (6:Int).toNat = 6 from rfl]
  have h2:=h.imp (SlC.zOT (l:=6) (by omega))
  have e2:((zU ((d.drop 6).take n)).map qd).drop (6 * 1) = ((d.drop 6).take n).map qd:=by
   rw [← List.map_drop]
   congr 1
  rw [e2] at h2
  have e3:f.n = 6 + n:=by omega
  have:=hk _ _ h2
  rw [e3] at this ⊢
  exact this
 ·rw [if_neg he] at hk
  rw [decide_eq_false he]
  refine qN rfl ?_
  exact hk _ _ (h.tail.zAJ _ _)
end
theorem vg {b:List UInt8} (rest:List UInt8) (hb:b.length ≤ 4096):zQ (zU b++rest) = (b,6 + b.length,0):=by
 have hl:(zU b++rest).length = 6 + b.length + rest.length:=by rw [List.length_append,yM]
 have h0:(zU b++rest).getD 0 0 = u8 (b.length / 256):=rfl
 have h1:(zU b++rest).getD 1 0 = u8 b.length:=rfl
 have hd:(zU b++rest).drop 6 = b++rest:=rfl
 have ht:(zU b++rest).take (6 + b.length) = zU b:=by rw [List.take_append_of_le_length (by rw [yM]; omega),List.take_of_length_le (by rw [yM]; omega)]
 have hn:256 * (u8 (b.length / 256)).toNat + (u8 b.length).toNat = b.length:=by rw [u8N,u8N]; omega
 unfold zQ
 rw [if_neg (by omega),h0,h1]
 simp only [hn]
 rw [if_neg (by omega),if_neg (by omega),hd,ht,List.take_append_of_le_length (Nat.le_refl _),List.take_length,if_pos rfl]
structure zNS (d:List UInt8):Prop where
 le:(zQ d).2.1 ≤ d.length
 ok:(zQ d).2.2 = 0→6 ≤ (zQ d).2.1∧(zQ d).1.length + 6 = (zQ d).2.1∧d = zU (zQ d).1++d.drop (zQ d).2.1
 no:(zQ d).2.2 ≠ 0→(zQ d).1 = []∧(zQ d).2.1 = 0
 small:(zQ d).1.length ≤ 4096
 err:(zQ d).2.2 ≤ 33
theorem zHg (d:List UInt8):zNS d:=by
 by_cases h1:d.length < 6
 ·have e:zQ d = ([],0,30):=by unfold zQ; rw [if_pos h1]
  constructor <;> simp [e]
 by_cases h2:4096 < 256 * (d.getD 0 0).toNat + (d.getD 1 0).toNat
 ·have e:zQ d = ([],0,31):=by unfold zQ; rw [if_neg h1]; simp only; rw [if_pos h2]
  constructor <;> simp [e]
 by_cases h3:d.length - 6 < 256 * (d.getD 0 0).toNat + (d.getD 1 0).toNat
 ·have e:zQ d = ([],0,30):=by unfold zQ; rw [if_neg h1]; simp only; rw [if_neg h2,if_pos h3]
  constructor <;> simp [e]
 obtain ⟨n,hn⟩:∃ n,n = 256 * (d.getD 0 0).toNat + (d.getD 1 0).toNat:=⟨_,rfl⟩
 by_cases h4:zU ((d.drop 6).take n) = d.take (6 + n)
 ·have e:zQ d = ((d.drop 6).take n,6 + n,0):=by unfold zQ; rw [if_neg h1]; simp only; rw [← hn,if_neg (by omega),if_neg (by omega),if_pos h4]
  constructor
  ·rw [e]; simp only; omega
  ·intro _
   rw [e]
   refine ⟨by simp only; omega,by simp; omega,?_⟩
   simp only
   rw [h4,List.take_append_drop]
  ·intro h; rw [e] at h; exact absurd rfl h
  ·rw [e]; simp; omega
  ·rw [e]; simp
 ·have e:zQ d = ([],0,33):=by unfold zQ; rw [if_neg h1]; simp only; rw [← hn,if_neg (by omega),if_neg (by omega),if_neg h4]
  constructor <;> simp [e]
theorem zNS.all {d:List UInt8}:zNS d:=zHg d
theorem zCq {x y r s:List UInt8} (hx:x.length ≤ 4096) (hy:y.length ≤ 4096) (h:zU x++r = zU y++s):x = y∧r = s:=by
 have h1:=vg r hx
 rw [h,vg s hy] at h1
 have h2:x = y:=(congrArg Prod.fst h1).symm
 subst h2
 exact ⟨rfl,List.append_cancel_left h⟩
section
variable {B w:World} {Γ:List zC}
theorem zG0 {w:World} {s:Sl} {d:List UInt8} {i:Nat} (h:RdB w s d) (hi:i ≤ s.n) (hcap:s.n ≤ s.c) (hsp:∀ a,s.a = some a→a.spot = none):RdB w ⟨uN s.a i s.c 1,s.n - i,s.c - i⟩ (d.drop i):=by
 have h2:=h.drop (l:=i) (c:=s.c) hi hcap hsp
 simp only [Nat.mul_one] at h2
 show RdC w _ 1 ((d.drop i).map qd)
 rw [List.map_drop]
 exact h2
end
end
section
open Go Go.Sep
def uU (n:Nat):List UInt8:=if h:n < 128 then [u8 n] else u8 (n % 128 + 128)::uU (n / 128)
termination_by n
decreasing_by omega
theorem uy {n:Nat} (h:n < 128):uU n = [u8 n]:=by rw [uU,dif_pos h]
theorem zAz {n:Nat} (h:¬ n < 128):uU n = u8 (n % 128 + 128)::uU (n / 128):=by rw [uU,dif_neg h]
theorem xQ:∀ (k n:Nat),n < 128 ^ (k + 1)→(uU n).length ≤ k + 1
 | 0,n,h=>by rw [uy (by omega)]; simp
 | k + 1,n,h=>by
  by_cases hn:n < 128
  ·rw [uy hn]; simp
  ·rw [zAz hn]
   have:n / 128 < 128 ^ (k + 1):=Nat.div_lt_of_lt_mul (by rw [Nat.pow_succ] at h; omega)
   have:=xQ k _ this
   simp only [List.length_cons]; omega
theorem zMS (n:Nat):bitsOf .or .u8 (IntKind.wrap .u8 (n:Int)) 128 = ((u8 (n % 128 + 128)).toNat:Int):=by
 rw [zAe]
 unfold bitsOf
 simp only
 have key:∀ x:BitVec 8,(x ||| 128#8).toNat = x.toNat % 128 + 128:=by decide
 have h2:(BitVec.ofInt (IntKind.bits .u8) ((u8 n).toNat:Int) ||| BitVec.ofInt (IntKind.bits .u8) 128).toNat = (BitVec.ofInt (IntKind.bits .u8) ((u8 n).toNat:Int)).toNat % 128 + 128:=key (BitVec.ofInt 8 ((u8 n).toNat:Int))
 have h3:(BitVec.ofInt (IntKind.bits .u8) ((u8 n).toNat:Int)).toNat = (u8 n).toNat:=by
  show (BitVec.ofInt 8 ((u8 n).toNat:Int)).toNat = _
  rw [BitVec.ofInt_natCast,BitVec.toNat_ofNat,Nat.mod_eq_of_lt (by have:=(u8 n).toNat_lt; omega)]
 rw [h2,h3,zAe]
 simp only [u8N]
 omega
theorem zKG (n:Nat) (k:Nat) (hk:k < 64):uY .u64 (n:Int) (k:Int) = ((n / 2 ^ k:Nat):Int):=by
 unfold uY
 have:min ((k:Int).toNat) (IntKind.bits .u64) = k:=by simp [IntKind.bits]; omega
 rw [this,Int.fdiv_eq_ediv_of_nonneg _ (Int.le_of_lt (Int.pow_pos (by decide))),Int.natCast_ediv,Int.natCast_pow]
 rfl
end
section
open Go Go.Sep
section
variable {B w:World} {Γ:List zC}
theorem qR {b:Sl} {xs:List UInt8} {k:Sl→K} (h:Holds B Γ w) (hr:∀ w,Holds B Γ w→RdB w b xs) (hl:xs.length ≤ 1000000000)
  (hk:∀ s w,Holds B (Bytes zV s xs::Γ) w→s.a.isNone = b.a.isNone→k s w):zh.call b k w:=by
 refine jP _ _ _ ?_
 unfold zh
 refine yc (fun hb=>?_) (fun hb=>?_)
 ·have hx:xs = []:=by
   have h1:=(hr w h).nil (by simpa using hb)
   have h2:=(hr w h).len
   rw [h1] at h2; simpa using h2
  subst hx
  exact hk _ _ (h.zAJ _ _) (by rw [hb]; rfl)
 ·refine vX h ?_
  clear h
  intro t w h
  try simp only [yB,Nat.zero_add,Nat.reduceAdd]
  replace h:=jU (xs:=[]) (n:=0) (by rfl) rfl h
  refine zAx h (hr w h.tail) (by simp; omega) fun s w h hs ha=>?_
  refine hk s w h ?_
  rw [hb]
  have:=ha rfl
  cases hh:s.a <;> simp [hh] at this ⊢
end
end
section
open Go Go.Sep
section
variable {B w:World} {Γ:List zC}
theorem zCE {p:Nat} {g:Sl} {xs:List UInt8} {n:Nat} {k:K} (hl:xs.length + n ≤ 1000000) (h:Holds B (blk p (.cells #[g.val] xL (0,0))::Bytes zV g xs::Γ) w)
  (hk:∀ g' w,Holds B (blk p (.cells #[g'.val] xL (0,0))::Bytes zV g' (xs++uU n)::Γ) w→k w):yj.call (some ⟨p,0,none⟩) (n:Int) k w:=by
 refine zAd _ _ _ _ ?_
 unfold yj
 refine yY.of (fun t w=>∃ (m:Nat) (ys:List UInt8) (g':Sl),t = (m:Int)∧xs++uU n = ys++uU m∧ys.length + m ≤ 1000000∧Holds B (blk p (.cells #[g'.val] xL (0,0))::Bytes zV g' ys::Γ) w) (fun t _=>t.toNat) ⟨n,xs,g,rfl,rfl,hl,h⟩ ?_
 clear h
 rintro t w ⟨m,ys,g',rfl,he,hm,h⟩
 unfold yj.b1
 refine yc (fun hb=>?_) (fun hb=>?_)
 ·simp only [decide_eq_true_eq] at hb
  refine ug rfl ?_
  refine xI (x:=g') h rfl (by first | with_reducible exact M0 | with_reducible exact M1 | with_reducible exact M2 | with_reducible exact M3 | with_reducible exact M4 | with_reducible exact M5 | with_reducible exact M6 | with_reducible exact M7 | with_reducible exact M8 | with_reducible exact M9 | with_reducible exact M10 | with_reducible exact M11 | with_reducible exact M12) ?_ ?_
  ·exact rfl
  refine qY rfl ?_
  refine qY (zMS m) ?_
  refine vX h ?_
  clear h
  intro t16 w h
  try simp only [yB,Nat.zero_add,Nat.reduceAdd]
  replace h:=jU (xs:=[u8 (m % 128 + 128)]) (n:=1) (by rfl) rfl h
  replace h:=P1 h
  replace h:=P1 h
  replace h:=P2 h
  try simp only [N1,N2,N3,N4,N5,N6,N7] at h
  refine zAx h (Bytes.rd h.tail List.mem_cons_self) (by simp; omega) fun t17 w h _ _=>?_
  replace h:=P2 h
  replace h:=D2 h
  try simp only [N1,N2,N3,N4,N5,N6,N7] at h
  first | refine S0 h rfl ?_ rfl ?_ | refine S1 h rfl ?_ rfl ?_ | refine S2 h rfl ?_ rfl ?_ | refine S3 h rfl ?_ rfl ?_ | refine S4 h rfl ?_ rfl ?_ | refine S5 h rfl ?_ rfl ?_ | refine S6 h rfl ?_ rfl ?_ | refine S7 h rfl ?_ rfl ?_ | refine S8 h rfl ?_ rfl ?_
  ·first | exact Nat.lt_of_ble_eq_true rfl | (simp; done) | (simp; omega)
  clear h
  intro w h
  try simp only [N1,N2,N3,N4,N5,N6,N7] at h
  refine zEg (by decide) ?_
  refine qY (zKG m 7 (by decide)) ?_
  refine ⟨⟨m / 128,ys++[u8 (m % 128 + 128)],t17,rfl,?_,by simp; omega,h⟩,by omega⟩
  rw [he,zAz (by omega)]
  simp
 ·simp only [decide_eq_false_iff_not] at hb
  refine ug rfl ?_
  refine xI (x:=g') h rfl (by first | with_reducible exact M0 | with_reducible exact M1 | with_reducible exact M2 | with_reducible exact M3 | with_reducible exact M4 | with_reducible exact M5 | with_reducible exact M6 | with_reducible exact M7 | with_reducible exact M8 | with_reducible exact M9 | with_reducible exact M10 | with_reducible exact M11 | with_reducible exact M12) ?_ ?_
  ·exact rfl
  refine qY (zAe m) ?_
  refine vX h ?_
  clear h
  intro t27 w h
  try simp only [yB,Nat.zero_add,Nat.reduceAdd]
  replace h:=jU (xs:=[u8 m]) (n:=1) (by rfl) rfl h
  replace h:=P1 h
  replace h:=P1 h
  replace h:=P2 h
  try simp only [N1,N2,N3,N4,N5,N6,N7] at h
  refine zAx h (Bytes.rd h.tail List.mem_cons_self) (by simp; omega) fun t17 w h _ _=>?_
  replace h:=P2 h
  replace h:=D2 h
  try simp only [N1,N2,N3,N4,N5,N6,N7] at h
  first | refine S0 h rfl ?_ rfl ?_ | refine S1 h rfl ?_ rfl ?_ | refine S2 h rfl ?_ rfl ?_ | refine S3 h rfl ?_ rfl ?_ | refine S4 h rfl ?_ rfl ?_ | refine S5 h rfl ?_ rfl ?_ | refine S6 h rfl ?_ rfl ?_ | refine S7 h rfl ?_ rfl ?_ | refine S8 h rfl ?_ rfl ?_
  ·first | exact Nat.lt_of_ble_eq_true rfl | (simp; done) | (simp; omega)
  clear h
  intro w h
  try simp only [N1,N2,N3,N4,N5,N6,N7] at h
  refine hk t17 _ ?_
  rw [he,uy (by omega)]
  exact h
theorem zBl {p:Nat} {g:Sl} {xs:List UInt8} {k:Sl→K} (hl:xs.length ≤ 1000000) (h:Holds B (blk p (.cells #[g.val] xL (0,0))::Bytes zV g xs::Γ) w)
  (hk:∀ s w,Holds B (Bytes zV s xs::Γ) w→k s w):qQ.call (some ⟨p,0,none⟩) k w:=by
 refine zAK _ _ _ ?_
 unfold qQ
 refine ug rfl ?_
 refine xI (x:=g) h rfl (by first | with_reducible exact M0 | with_reducible exact M1 | with_reducible exact M2 | with_reducible exact M3 | with_reducible exact M4 | with_reducible exact M5 | with_reducible exact M6 | with_reducible exact M7 | with_reducible exact M8 | with_reducible exact M9 | with_reducible exact M10 | with_reducible exact M11 | with_reducible exact M12) ?_ ?_
 ·exact rfl
 refine qR h (fun w h=>Bytes.rd h (List.mem_cons_of_mem _ List.mem_cons_self)) (by omega) fun s w h _=>?_
 replace h:=D1 h
 replace h:=D1 h
 try simp only [N1,N2,N3,N4,N5,N6,N7] at h
 exact hk _ _ h
end
end
end Go.Proofs.YtgmbfnboiobeaaaGreat
namespace Go.Sep
section
open Go Go.RowKit Go.MapKept
section
variable {α β:Type} [DecidableEq α]
def zW (k:α):List (α×β)→Option β
 | []=>none
 | p::m=>if k = p.1 then some p.2 else zW k m
def yN (k:α) (v:β):List (α×β)→List (α×β)
 | []=>[(k,v)]
 | p::m=>if k = p.1 then (k,v)::m else p::yN k v m
def xU (k:α):List (α×β)→List (α×β)
 | []=>[]
 | p::m=>if k = p.1 then m else p::xU k m
theorem zG1 (k:α):∀ m:List (α×β),(zW k m = none∧(∀ v,yN k v m = m++[(k,v)])∧xU k m = m∧∀ p ∈ m,p.1 ≠ k) ∨
  ∃ j x,j < m.length∧m[j]? = some (k,x)∧(∀ i,i < j→∀ p,m[i]? = some p→p.1 ≠ k)∧zW k m = some x∧(∀ v,yN k v m = m.set j (k,v))∧xU k m = m.eraseIdx j
 | []=>.inl ⟨rfl,fun _=>rfl,rfl,by simp⟩
 | p::m=>by
  by_cases hk:k = p.1
  ·refine .inr ⟨0,p.2,by simp,by rw [hk]; rfl,fun i hi=>by omega,by simp [zW,hk],fun v=>by simp [yN,hk],by simp [xU,hk]⟩
  ·rcases zG1 k m with ⟨h1,h2,h3,h4⟩ | ⟨j,x,hj,h0,hb,h1,h2,h3⟩
   ·refine .inl ⟨by simp [zW,hk,h1],fun v=>by simp [yN,hk,h2],by simp [xU,hk,h3],fun q hq=>?_⟩
    rcases List.mem_cons.1 hq with rfl | hq
    ·exact fun e=>hk e.symm
    ·exact h4 q hq
   ·refine .inr ⟨j + 1,x,by simpa using hj,by simpa using h0,fun i hi q hq=>?_,by simp [zW,hk,h1],fun v=>by simp [yN,hk,h2],by simp [xU,hk,h3]⟩
    cases i with
    | zero=>simp at hq; subst hq; exact fun e=>hk e.symm
    | succ i=>exact hb i (by omega) q (by simpa using hq)
end
structure zDZ {α:Type} (d:TypeDesc) (enc:α→Value):Prop where
 key:∀ a,IsKey d (enc a)
 inj:∀ a b,enc a = enc b→a = b
 bits:∀ a,Instr.sameBits 10000 (enc a) (enc a) = true
theorem zA0 (k:IntKind):zDZ (.int k) (Value.int k):=⟨fun _=>rfl,fun a b h=>by injection h,fun a=>by simp [Instr.sameBits]⟩
theorem zG2:zDZ .string Value.string:=⟨fun _=>trivial,fun a b h=>by injection h,fun a=>by
 show (a == a) = true
 rw [bytes_beq]⟩
section
variable {α β:Type} [DecidableEq α] {P:Program} {B w:World} {Γ:List zC} {enc:α→Value} {cV:β→Value}
def zCF (enc:α→Value) (cV:β→Value) (es:Array MapEntry) (m:List (α×β)):Prop:=es.toList.map (fun e=>(e.key,e.val)) = m.map fun p=>(enc p.1,cV p.2)
def stamps (es:Array MapEntry) (c:Nat):Prop:=(es.toList.map (·.born)).Nodup∧∀ e ∈ es.toList,e.born < c
theorem zEH (c:Nat):stamps #[] c:=⟨by simp,by simp⟩
theorem zG3 {es:Array MapEntry} {c:Nat} (h:stamps es c) (k v:Value):stamps (es.push { key:=k,val:=v,born:=c }) (c + 1):=by
 refine ⟨?_,fun e he=>?_⟩
 ·simp only [Array.toList_push,List.map_append,List.map_cons,List.map_nil]
  rw [List.nodup_append]
  refine ⟨h.1,by simp,fun x hx y hy=>?_⟩
  simp only [List.mem_singleton] at hy
  subst hy
  obtain ⟨e,he,rfl⟩:=List.mem_map.1 hx
  have:=h.2 e he
  omega
 ·simp only [Array.toList_push] at he
  rcases List.mem_append.1 he with he | he
  ·have:=h.2 e he; omega
  ·simp only [List.mem_singleton] at he; subst he; exact Nat.lt_succ_self _
theorem zEp {es:Array MapEntry} {c:Nat} (h:stamps es c) (j:Nat) (k v:Value):stamps (es.modify j fun e=>{ e with key:=k,val:=v }) c:=by
 have e1:(es.modify j fun e=>{ e with key:=k,val:=v }).toList.map (·.born) = es.toList.map (·.born):=by
  apply List.ext_getElem?
  intro i
  simp only [List.getElem?_map,Array.getElem?_toList,Array.getElem?_modify]
  split
  ·cases es[i]? <;> rfl
  ·rfl
 refine ⟨by rw [e1]; exact h.1,fun e he=>?_⟩
 have:e.born ∈ es.toList.map (·.born):=by rw [← e1]; exact List.mem_map_of_mem he
 obtain ⟨e',he',hb⟩:=List.mem_map.1 this
 rw [← hb]; exact h.2 e' he'
theorem zGB {es:Array MapEntry} {c:Nat} (h:stamps es c) (j:Nat):stamps (es.eraseIdxIfInBounds j) c:=by
 have hs:List.Sublist (es.eraseIdxIfInBounds j).toList es.toList:=by
  unfold Array.eraseIdxIfInBounds
  split
  ·rw [Array.toList_eraseIdx]; exact List.eraseIdx_sublist _ _
  ·exact List.Sublist.refl _
 exact ⟨h.1.sublist (hs.map _),fun e he=>h.2 e (hs.subset he)⟩
def qK (enc:α→Value) (cV:β→Value) (b:Nat) (m:List (α×β)):zC:=ex fun es:Array MapEntry=>ex fun c:Nat=>fun g=>(zCF enc cV es m∧stamps es c)∧blk b (.map es c) g
theorem qK.opens {b:Nat} {m:List (α×β)} (h:Holds B (qK enc cV b m::Γ) w):∃ es c,(zCF enc cV es m∧stamps es c)∧Holds B (blk b (.map es c)::Γ) w:=by
 obtain ⟨es,h⟩:=Holds.ex.1 h
 obtain ⟨c,h⟩:=Holds.ex.1 h
 exact ⟨es,c,h.fact fun g hg=>hg.1,h.imp fun g hg=>hg.2⟩
theorem qK.shuts {b:Nat} {m:List (α×β)} {es:Array MapEntry} {c:Nat} (hr:zCF enc cV es m∧stamps es c) (h:Holds B (blk b (.map es c)::Γ) w):Holds B (qK enc cV b m::Γ) w :=
 Holds.ex.2 ⟨es,Holds.ex.2 ⟨c,h.imp fun g hg=>⟨hr,hg⟩⟩⟩
theorem zDp {es:Array MapEntry} {m:List (α×β)} (hr:zCF enc cV es m) (i:Nat):(es.toList[i]?).map (fun e=>(e.key,e.val)) = (m[i]?).map fun p=>(enc p.1,cV p.2):=by
 have:=congrArg (·[i]?) hr
 simpa using this
theorem zIv {d:TypeDesc} (hE:zDZ d enc) {es:Array MapEntry} {m:List (α×β)} (hr:zCF enc cV es m):∀ x ∈ es.toList,IsKey d x.key:=by
 intro x hx
 have:(x.key,x.val) ∈ m.map fun p=>(enc p.1,cV p.2):=by rw [← hr]; exact List.mem_map_of_mem hx
 obtain ⟨p,_,hp⟩:=List.mem_map.1 this
 have:enc p.1 = x.key:=congrArg Prod.fst hp
 rw [← this]; exact hE.key _
theorem zGC {d:TypeDesc} (hE:zDZ d enc) {es:Array MapEntry} {m:List (α×β)} (hr:zCF enc cV es m) (k:α) :
  (Instr.findNow d (enc k) es.toList 0 = some none∧zW k m = none∧(∀ v,yN k v m = m++[(k,v)])∧xU k m = m) ∨
  ∃ j x,Instr.findNow d (enc k) es.toList 0 = some (some (j,cV x))∧j < m.length∧m[j]? = some (k,x)∧zW k m = some x∧(∀ v,yN k v m = m.set j (k,v))∧xU k m = m.eraseIdx j:=by
 have hlen:es.toList.length = m.length:=by have:=congrArg List.length hr; simpa using this
 rcases zG1 k m with ⟨h1,h2,h3,h4⟩ | ⟨j,x,hj,h0,hb,h1,h2,h3⟩
 ·refine .inl ⟨?_,h1,h2,h3⟩
  rcases findNow_spec (hE.key k) es.toList 0 (zIv hE hr) with ⟨g1,_⟩ | ⟨i,e,g1,g2,g3⟩
  ·exact g1
  ·have:=zDp hr i
   rw [g2] at this
   cases hm:m[i]? with
   | none=>rw [hm] at this; simp at this
   | some p=>
    rw [hm] at this
    simp only [Option.map_some,Option.some.injEq,Prod.mk.injEq] at this
    exact absurd (hE.inj _ _ (this.1.symm.trans g3)) (h4 p (List.mem_of_getElem? hm))
 ·have key:∀ (l:List MapEntry) (m:List (α×β)) (j i:Nat),l.map (fun e=>(e.key,e.val)) = m.map (fun p=>(enc p.1,cV p.2))→m[j]? = some (k,x)→(∀ i,i < j→∀ p,m[i]? = some p→p.1 ≠ k) →
    Instr.findNow d (enc k) l i = some (some (i + j,cV x)):=by
   intro l
   induction l with
   | nil=>intro m j i hr hm _; cases m <;> simp at hr hm
   | cons e l ih=>
    intro m j i hr hm hb
    cases m with
    | nil=>simp at hr
    | cons p m=>
     simp only [List.map_cons,List.cons.injEq,Prod.mk.injEq] at hr
     obtain ⟨⟨e1,e2⟩,hr⟩:=hr
     obtain ⟨r,hs,hiff⟩:=sameNow_of_keys (hE.key k) (hE.key p.1)
     unfold Instr.findNow
     rw [e1,hs]
     cases j with
     | zero=>
      simp only [List.getElem?_cons_zero,Option.some.injEq] at hm
      subst hm
      have:r = true:=hiff.2 rfl
      subst this
      simp only [e2,Nat.add_zero]
     | succ j=>
      have hne:p.1 ≠ k:=hb 0 (by omega) p rfl
      have:r = false:=by
       cases r with
       | false=>rfl
       | true=>exact absurd (hE.inj _ _ (hiff.1 rfl)) (fun e=>hne e.symm)
      subst this
      simp only
      rw [ih m j (i + 1) hr (by simpa using hm) (fun i' hi' q hq=>hb (i' + 1) (by omega) q (by simpa using hq))]
      congr 3; omega
  refine .inr ⟨j,x,?_,hj,h0,h1,h2,h3⟩
  have:=key es.toList m j 0 hr h0 hb
  rwa [Nat.zero_add] at this
def zAf (P:Program) (T:TypeId) (d:TypeDesc) (E:TypeId):Prop:=∃ kt,P.underlying T = some (.map kt E)∧P.underlying kt = some d
theorem zIL {T:TypeId} {d:TypeDesc} {E:TypeId} {k:Option Nat→K} (h:Holds B Γ w) (hk:∀ b w,Holds B (qK enc cV b []::Γ) w→k (some b) w) :
  Do P (Instr.makeMap T none) Value.map k w:=by
 refine ⟨some w.heap.size,{ w with heap:=w.heap.push (.map #[] 0) },rfl,hk _ _ (qK.shuts (es:=#[]) (c:=0) ⟨rfl,zEH 0⟩ (h.alloc _))⟩
theorem zKH {T E:TypeId} {d:TypeDesc} {b:Nat} {m:List (α×β)} {z:β} {a:α} (hT:zAf P T d E) (hE:zDZ d enc) (hz:uP P E (cV z)) {es:Array MapEntry} {c:Nat} (hb:w.heap[b]? = some (.map es c)) (hr:zCF enc cV es m) (ok:Bool) :
  (Instr.lookup T (.map (some b)) (enc a) ok).run P w = .ok (if ok then .tuple #[cV ((zW a m).getD z),.bool (zW a m).isSome] else cV ((zW a m).getD z)) w:=by
 obtain ⟨kt,hT,hd⟩:=hT
 unfold Instr.lookup
 simp only [Sem.run_bind,run_underlying hT,Result.andThen,MapKept.run_getObj_map hb,run_checkKey hd (hE.key a),Sem.run_pure]
 rcases zGC hE hr a with ⟨h1,h2,_⟩ | ⟨j,x,h1,_,_,h2,_⟩
 ·simp only [run_findKey hd h1,Result.andThen,Sem.run_bind,uf hz,Sem.run_pure,h2]
  cases ok <;> rfl
 ·simp only [run_findKey hd h1,Result.andThen,Sem.run_bind,Sem.run_pure,h2]
  cases ok <;> rfl
theorem zLf {T E:TypeId} {d:TypeDesc} {b:Nat} {m:List (α×β)} {z:β} {a:α} {k:β→K} (hT:zAf P T d E) (hE:zDZ d enc) (hz:uP P E (cV z)) (h:Holds B (qK enc cV b m::Γ) w)
  (hk:k ((zW a m).getD z) w):Rd P (Instr.lookup T (.map (some b)) (enc a) false) cV k w:=by
 obtain ⟨es,c,⟨hr,hst⟩,h⟩:=qK.opens h
 exact ⟨_,zKH hT hE hz h.block hr false,hk⟩
theorem Holds.zGD {b:Nat} {es es':Array MapEntry} {c c':Nat} (h:Holds B (blk b (.map es c)::Γ) w):(setObj b (.map es' c')).run P w = .ok () { w with heap:=w.heap.setIfInBounds b (.map es' c') } ∧
  Holds B (blk b (.map es' c')::Γ) { w with heap:=w.heap.setIfInBounds b (.map es' c') } :=
 ⟨run_setObj_map _ h.block,h.setBlock rfl⟩
theorem zIM {T E:TypeId} {d:TypeDesc} {b:Nat} {m:List (α×β)} {a:α} {v:β} {k:K} (hT:zAf P T d E) (hE:zDZ d enc) (h:Holds B (qK enc cV b m::Γ) w)
  (hk:∀ w',Holds B (qK enc cV b (yN a v m)::Γ) w'→k w'):DoU P (Instr.mapUpdate T (.map (some b)) (enc a) (cV v)) k w:=by
 obtain ⟨kt,hT,hd⟩:=hT
 obtain ⟨es,c,⟨hr,hst⟩,h⟩:=qK.opens h
 have hb:=h.block
 have hlen:es.size = m.length:=by have:=congrArg List.length hr; simpa using this
 unfold Instr.mapUpdate DoU
 simp only [Sem.run_bind,run_underlying hT,Result.andThen,MapKept.run_getObj_map hb,run_checkKey hd (hE.key a)]
 rcases zGC hE hr a with ⟨h1,_,h2,_⟩ | ⟨j,x,h1,hj,h0,_,h2,_⟩
 ·simp only [run_findKey hd h1,Result.andThen]
  obtain ⟨e1,h3⟩:=h.zGD (P:=P) (es':=es.push { key:=enc a,val:=cV v,born:=c }) (c':=c + 1)
  refine ⟨_,_,e1,hk _ (qK.shuts ⟨?_,zG3 hst _ _⟩ h3)⟩
  rw [h2]
  simp only [zCF,Array.toList_push,List.map_append,List.map_cons,List.map_nil]
  rw [show es.toList.map (fun e=>(e.key,e.val)) = _ from hr]
 ·have hes:∃ e,es.toList[j]? = some e∧e.key = enc a:=by
   have:=zDp hr j
   rw [h0] at this
   cases he:es.toList[j]? with
   | none=>rw [he] at this; simp at this
   | some e=>
    rw [he] at this
    simp only [Option.map_some,Option.some.injEq,Prod.mk.injEq] at this
    exact ⟨e,rfl,this.1⟩
  obtain ⟨e,he,hek⟩:=hes
  have he2:es[j]? = some e:=by rw [← he,Array.getElem?_toList]
  simp only [run_findKey hd h1,Result.andThen,Sem.run_bind,he2,Option.map_some,Option.getD_some,hek,Instr.keyThatStays,hE.bits,if_true,Sem.run_pure]
  obtain ⟨e1,h3⟩:=h.zGD (P:=P) (es':=es.modify j fun e=>{ e with key:=enc a,val:=cV v }) (c':=c)
  refine ⟨_,_,e1,hk _ (qK.shuts ⟨?_,zEp hst _ _ _⟩ h3)⟩
  rw [h2]
  simp only [zCF]
  apply List.ext_getElem?
  intro i
  have hi:=zDp hr i
  simp only [List.getElem?_map,Array.getElem?_toList,Array.getElem?_modify] at hi ⊢
  by_cases hij:j = i
  ·subst hij
   rw [List.getElem?_set_self hj,he2]
   simp
  ·rw [List.getElem?_set_ne hij,if_neg hij]
   exact hi
theorem zFD {T KT E t:TypeId} {d:TypeDesc} {b:Nat} {m:List (α×β)} {a:α} {k:Value→K} (hT:zAf P T d E) (hE:zDZ d enc) (h:Holds B (qK enc cV b m::Γ) w)
  (hk:∀ w',Holds B (qK enc cV b (xU a m)::Γ) w'→k (.tuple #[]) w'):Do P (Builtin.delete_ #[T,KT] t #[.map (some b),enc a]) id k w:=by
 obtain ⟨kt,hT,hd⟩:=hT
 obtain ⟨es,c,⟨hr,hst⟩,h⟩:=qK.opens h
 have hb:=h.block
 have hlen:es.size = m.length:=by have:=congrArg List.length hr; simpa using this
 have e0:#[T,KT][0]? = some T:=rfl
 have e1:#[Value.map (some b),enc a][0]? = some (.map (some b)):=rfl
 have e2:#[Value.map (some b),enc a][1]? = some (enc a):=rfl
 unfold Builtin.delete_ Do
 simp only [e0,e1,e2,Sem.run_bind,run_underlying hT,Result.andThen,MapKept.run_getObj_map hb,run_checkKey hd (hE.key a)]
 rcases zGC hE hr a with ⟨h1,_,_,h2⟩ | ⟨j,x,h1,hj,h0,_,_,h2⟩
 ·simp only [run_findKey hd h1,Result.andThen,Sem.run_bind]
  obtain ⟨e3,h3⟩:=h.zGD (P:=P) (es':=es) (c':=c)
  refine ⟨.tuple #[],_,?_,hk _ (qK.shuts ⟨?_,hst⟩ h3)⟩
  ·simp only [Sem.run_bind,e3,Result.andThen,Sem.run_pure]; rfl
  rw [h2]; exact hr
 ·simp only [run_findKey hd h1,Result.andThen,Sem.run_bind]
  obtain ⟨e3,h3⟩:=h.zGD (P:=P) (es':=es.eraseIdxIfInBounds j) (c':=c)
  refine ⟨.tuple #[],_,?_,hk _ (qK.shuts ⟨?_,zGB hst _⟩ h3)⟩
  ·simp only [Sem.run_bind,e3,Result.andThen,Sem.run_pure]; rfl
  rw [h2]
  have hjs:j < es.size:=by omega
  simp only [zCF,Array.eraseIdxIfInBounds,dif_pos hjs,Array.toList_eraseIdx]
  have mape:∀ {α β:Type} (f:α→β) (l:List α) (i:Nat),(l.eraseIdx i).map f = (l.map f).eraseIdx i:=by
   intro α β f l
   induction l with
   | nil=>intro i; simp
   | cons x l ih=>intro i; cases i <;> simp [ih]
  rw [mape,mape,show es.toList.map (fun e=>(e.key,e.val)) = _ from hr]
end
section
variable {α β γ:Type} [DecidableEq α]
theorem zG4 (g:β→γ) (k:α):∀ m:List (α×β),zW k (m.map fun p=>(p.1,g p.2)) = (zW k m).map g
 | []=>rfl
 | p::m=>by
  simp only [List.map_cons,zW]
  split
  ·rfl
  ·exact zG4 g k m
theorem zEI (g:β→γ) (k:α):∀ m:List (α×β),xU k (m.map fun p=>(p.1,g p.2)) = (xU k m).map fun p=>(p.1,g p.2)
 | []=>rfl
 | p::m=>by
  simp only [List.map_cons,xU]
  split
  ·rfl
  ·rw [List.map_cons,zEI g k m]
theorem zA1 (g:β→γ) (k:α) (v:β):∀ m:List (α×β),yN k (g v) (m.map fun p=>(p.1,g p.2)) = (yN k v m).map fun p=>(p.1,g p.2)
 | []=>rfl
 | p::m=>by
  simp only [List.map_cons,yN]
  split
  ·rfl
  ·rw [List.map_cons,zA1 g k v m]
theorem uI {k:α} {v:β} {m:List (α×β)} (h:zW k m = none):yN k v m = m++[(k,v)]:=by
 rcases zG1 k m with ⟨_,h2,_⟩ | ⟨_,_,_,_,_,h1,_⟩
 ·exact h2 v
 ·rw [h] at h1; cases h1
end
end
section
open Go Go.RowKit
section
variable {α β:Type} [DecidableEq α] {P:Program} {B w:World} {Γ Δ:List zC} {enc:α→Value} {cV:β→Value} {k:K}
instance (priority:=high) zOn {α β:Type} [DecidableEq α] {enc:α→Value} {cV:β→Value} {b:Nat} {m:List (α×β)} {Γ:List zC}:Own b (qK enc cV b m::Γ) (qK enc cV b m) Γ:=⟨.refl _⟩
theorem zIN {T:TypeId} {k:Option Nat→K} (h:∀ b,HG B (qK enc cV b []::Γ) (k (some b))):HG B Γ (Do P (Instr.makeMap T none) Value.map k):=fun w hw=>by
 refine ⟨some w.heap.size,{ w with heap:=w.heap.push (.map #[] 0) },rfl,h _ _ (qK.shuts (es:=#[]) (c:=0) ⟨rfl,zEH 0⟩ (hw.alloc _))⟩
theorem zGE {γ:Type} {cG:γ→Value} {g:β→γ} {T E:TypeId} {d:TypeDesc} {b:Nat} {m:List (α×β)} {z:β} {a:α} {k:γ→K} (hc:∀ x,cV x = cG (g x)) (hT:zAf P T d E) (hE:zDZ d enc) (hz:uP P E (cV z)) (h:HG B Γ (k (g ((zW a m).getD z)))) [p:Own b Γ (qK enc cV b m) Δ] :
  HG B Γ (Rd P (Instr.lookup T (.map (some b)) (enc a) false) cG k):=fun w hw=>by
 obtain ⟨x,hx,hk⟩:=zLf (P:=P) (T:=T) (a:=a) (k:=fun y w=>y = (zW a m).getD z∧k (g y) w) hT hE hz (hw.perm p.perm) ⟨rfl,h w hw⟩
 obtain ⟨rfl,hk⟩:=hk
 exact ⟨_,by rw [hx,hc],hk⟩
theorem zMT {γ:Type} {cG:γ→Value} {T E:TypeId} {d:TypeDesc} {b:Nat} {m:List (α×β)} {a:α} {v:β} {x:Value} (hx:x = cV v) (hT:zAf P T d E) (hE:zDZ d enc) (h:HG B (qK enc cV b (yN a v m)::Δ) k) [p:Own b Γ (qK enc cV b m) Δ] :
  HG B Γ (DoU P (Instr.mapUpdate T (.map (some b)) (enc a) x) k):=fun w hw=>by subst hx; exact zIM hT hE (hw.perm p.perm) fun w' h'=>h w' h'
theorem y5 (m:List (α×β)) (a a':α) (v:β):zW a' (yN a v m) = if a' = a then some v else zW a' m:=by
 induction m with
 | nil=>simp [yN,zW]
 | cons p m ih=>
  unfold yN
  split
  ·rename_i h
   subst h
   by_cases h2:a' = p.1 <;> simp [zW,h2]
  ·rename_i h
   by_cases h2:a' = p.1
   ·simp [zW,h2]
    intro h3; exact absurd h3.symm h
   ·simp [zW,h2,ih]
end
end
section
open Go Go.RowKit
class Nx (B:World) (Γ:List zC) (k:K) (Δ:outParam (List zC)) (j:outParam K):Prop where h:HG B Δ j→HG B Γ k
class zG5 (l:List Value) (n:Nat) (v:outParam Value):Prop where h:nth l n = some v
class Cv {α:Type} (c:α→Value) (v:Value) (x:outParam α):Prop where h:v = c x
class zLg (l:List Value) (n:Nat) (v:Value) (l':outParam (List Value)):Prop where h:l.set n v = l'∧n < l.length
class zEJ (l:List Value) (m n:Nat) (l':outParam (List Value)):Prop where h:(l.drop m).take n = l'∧l'.length = n
class zDG (v:Value):Prop where h:qj v = true
class zIO (l:List Value):Prop where h:l.all qj = true
class zG6 (l:List Value) (n:outParam Nat):Prop where h:l.length = n
class zBW (b:Bool) (v:outParam Bool):Prop where h:b = v
instance zPr {v:Value} {l:List Value}:zG5 (v::l) 0 v:=⟨rfl⟩
instance zPs {v u:Value} {l:List Value} {n:Nat} [h:zG5 l n v]:zG5 (u::l) (n + 1) v:=⟨h.h⟩
instance zPQ {b:Bool}:Cv Value.bool (.bool b) b:=⟨rfl⟩
instance zPt {k:IntKind} {n:Int}:Cv (Value.int k) (.int k n) n:=⟨rfl⟩
instance zPu {b:ByteArray}:Cv Value.string (.string b) b:=⟨rfl⟩
instance zPv {p:Option Addr}:Cv Value.pointer (.pointer p) p:=⟨rfl⟩
instance zPw {p:Option Nat}:Cv Value.map (.map p) p:=⟨rfl⟩
instance (priority:=high) zP9 {s:Sl}:Cv Sl.val s.val s:=⟨rfl⟩
instance zPx {a:Option Addr} {n c:Nat}:Cv Sl.val (.slice a n c) ⟨a,n,c⟩:=⟨rfl⟩
instance zQA {v:Value}:Cv id v v:=⟨rfl⟩
instance zPy {v:Array Value}:Cv Value.agg (.agg v) v:=⟨rfl⟩
instance zPz {v u:Value} {l:List Value}:zLg (u::l) 0 v (v::l):=⟨⟨rfl,Nat.zero_lt_succ _⟩⟩
instance zP0 {v u:Value} {l l':List Value} {n:Nat} [h:zLg l n v l']:zLg (u::l) (n + 1) v (u::l'):=⟨⟨by rw [List.set_cons_succ,h.h.1],Nat.succ_lt_succ h.h.2⟩⟩
instance zPR {l:List Value}:zEJ l 0 0 []:=⟨⟨rfl,rfl⟩⟩
instance zPS {u:Value} {l l':List Value} {n:Nat} [h:zEJ l 0 n l']:zEJ (u::l) 0 (n + 1) (u::l'):=⟨⟨by have:=h.h.1; rw [List.drop_zero] at this ⊢; rw [List.take_succ_cons,this],by rw [List.length_cons,h.h.2]⟩⟩
instance zPT {u:Value} {l l':List Value} {m n:Nat} [h:zEJ l m n l']:zEJ (u::l) (m + 1) n l':=⟨h.h⟩
instance zPU {b:Bool}:zDG (.bool b):=⟨rfl⟩
instance zPV {k:IntKind} {n:Int}:zDG (.int k n):=⟨rfl⟩
instance zPW {b:ByteArray}:zDG (.string b):=⟨rfl⟩
instance zPX {p:Option Addr}:zDG (.pointer p):=⟨rfl⟩
instance zPY {p:Option Nat}:zDG (.map p):=⟨rfl⟩
instance zOo {a:Option Addr} {n c:Nat}:zDG (.slice a n c):=⟨rfl⟩
instance zPZ:zIO []:=⟨rfl⟩
instance zPa {v:Value} {l:List Value} [h:zDG v] [g:zIO l]:zIO (v::l):=⟨by rw [List.all_cons,h.h,g.h]; rfl⟩
instance zP1:zG6 [] 0:=⟨rfl⟩
instance zP2 {v:Value} {l:List Value} {n:Nat} [h:zG6 l n]:zG6 (v::l) (n + 1):=⟨by rw [List.length_cons,h.h]⟩
instance zPb:zBW true true:=⟨rfl⟩
instance zPc:zBW false false:=⟨rfl⟩
instance zOp {b:Bool} [h:zBW b true]:zBW (!b) false:=⟨by rw [h.h]; rfl⟩
instance zOq {b:Bool} [h:zBW b false]:zBW (!b) true:=⟨by rw [h.h]; rfl⟩
instance zPd {α:Type} {x:α}:zBW (some x).isNone false:=⟨rfl⟩
instance zPe {α:Type}:zBW (none:Option α).isNone true:=⟨rfl⟩
instance (priority:=high) zOa {b n:Nat}:je ((⟨b,0,none⟩:Addr).add n) b n:=⟨by rw [yB,Nat.zero_add]⟩
section
variable {B:World} {Γ Δ Γ0:List zC} {k j:K}
theorem zMU {k:(World→Prop)→K} (Γ0:List zC) (h:HG B Γ (k (Holds B Γ0))) [d:Drops Γ Γ0]:HG B Γ (qx k):=fun w hw=>⟨Holds B Γ0,hw.drops,h w hw⟩
theorem zHh (h:HG B Δ j) [n:Nx B Γ k Δ j]:HG B Γ k:=n.h h
instance zP3 {a:Addr} {k:Addr→K}:Nx B Γ (Nn (some a) k) Γ (k a):=⟨jS⟩
instance zP4:Nx B Γ (Dr k) Γ k:=⟨zLc⟩
instance zP5 {k:(World→Prop)→K}:Nx B Γ (qx k) Γ (k (Holds B Γ)):=⟨zPM⟩
instance zP6 [d:Drops Γ Δ]:Nx B Γ (Sv (Holds B Δ) k) Γ k:=⟨fun h=>zNO h⟩
instance zP7 {α:Type} {a:Addr} {b off:Nat} {l:List Value} {T:TypeId} {fz:Nat×Nat} {c:α→Value} {v:Value} {x:α} {k:α→K} [ad:je a b off] [p:Own b Γ (blk b (.cells l.toArray T fz)) Δ] [n:zG5 l off v] [e:Cv c v x]:Nx B Γ (Ld a c k) Γ (k x):=⟨fun h=>vV h (by rw [n.h,e.h])⟩
instance zPf {α:Type} {a:Addr} {b off:Nat} {l:List Value} {T:TypeId} {fz:Nat×Nat} {c:α→Value} {v:Value} {x:α} {k:α→K} [ad:je a b off] [p:Own b Γ0 (blk b (.cells l.toArray T fz)) Δ] [n:zG5 l off v] [e:Cv c v x]:Nx B Γ (LdS (Holds B Γ0) a c k) Γ (k x):=⟨fun h=>zGx h (by rw [n.h,e.h])⟩
instance zPg {a:Addr} {b off n:Nat} {l l':List Value} {T:TypeId} {fz:Nat×Nat} {k:Array Value→K} [ad:je a b off] [p:Own b Γ (blk b (.cells l.toArray T fz)) Δ] [t:zEJ l off n l']:Nx B Γ (LdN a n k) Γ (k l'.toArray):=⟨fun h=>zOY h t.h.1 t.h.2⟩
instance zOr {a:Addr} {b off n:Nat} {l l':List Value} {T:TypeId} {fz:Nat×Nat} {k:Array Value→K} [ad:je a b off] [p:Own b Γ0 (blk b (.cells l.toArray T fz)) Δ] [t:zEJ l off n l']:Nx B Γ (jw (Holds B Γ0) a n k) Γ (k l'.toArray):=⟨fun h=>zNQ h t.h.1 t.h.2⟩
instance zP8 {a:Addr} {b off:Nat} {l l':List Value} {T:TypeId} {v:Value} [ad:je a b off] [p:Own b Γ (blk b (.cells l.toArray T (0,0))) Δ] [s:zLg l off v l'] [f:zDG v]:Nx B Γ (St a v k) (blk b (.cells l'.toArray T (0,0))::Δ) k:=⟨fun h=>zGy h (Nat.ble_eq_true_of_le s.h.2) s.h.1 f.h⟩
instance zPh {a:Addr} {b n:Nat} {l l':List Value} {T:TypeId} [ad:je a b 0] [p:Own b Γ (blk b (.cells l.toArray T (0,0))) Δ] [h1:zG6 l n] [h2:zG6 l' n] [f:zIO l']:Nx B Γ (StN a n l'.toArray k) (blk b (.cells l'.toArray T (0,0))::Δ) k:=⟨fun h=>zOZ h h1.h h2.h f.h⟩
instance zPi {α:Type} {l:List Value} {off:Nat} {c:α→Value} {v:Value} {x:α} {k:α→K} [n:zG5 l off v] [e:Cv c v x]:Nx B Γ (Fld l.toArray off c k) Γ (k x):=⟨fun h=>zOX h (by rw [n.h,e.h])⟩
instance zOs {zero cs:List Value} {n:Nat} {k:Array Value→K} [h1:zG6 zero n] [h2:zG6 cs n]:Nx B Γ (Bld zero.toArray (fun i=>some (i * n,n)) [(0,.agg cs.toArray)] k) Γ (k cs.toArray):=⟨fun h=>zNP h h1.h h2.h⟩
instance zQB {b:Bool} {x y:K} [h:zBW b true]:Nx B Γ (Ite b x y) Γ x:=⟨fun g=>s_t g h.h⟩
instance zQC {b:Bool} {x y:K} [h:zBW b false]:Nx B Γ (Ite b x y) Γ y:=⟨fun g=>s_f g h.h⟩
end
class zA2 (v:Value) (us:outParam (List Value)):Prop where h:v.cells = us.toArray
class zFE (z:List Value) (off:Nat) (us:List Value) (z':outParam (List Value)):Prop where h:off + us.length ≤ z.length∧z' = z.take off++us++z.drop (off + us.length)
class zGF (pl:List (Nat×Nat)) (i:Nat) (off n:outParam Nat):Prop where h:pl[i]? = some (off,n)
class zIP (pl:List (Nat×Nat)) (z:List Value) (ps:List (Nat×Value)) (cs:outParam (List Value)):Prop where h:Instr.fill (pl[·]?) z.toArray ps = some cs.toArray
instance zOt {l:List Value}:zA2 (.agg l.toArray) l:=⟨rfl⟩
instance zOu {b:Bool}:zA2 (.bool b) [.bool b]:=⟨rfl⟩
instance zOv {k:IntKind} {n:Int}:zA2 (.int k n) [.int k n]:=⟨rfl⟩
instance zOw {b:ByteArray}:zA2 (.string b) [.string b]:=⟨rfl⟩
instance zOx {p:Option Addr}:zA2 (.pointer p) [.pointer p]:=⟨rfl⟩
instance zOy {p:Option Nat}:zA2 (.map p) [.map p]:=⟨rfl⟩
instance zOb {a:Option Addr} {n c:Nat}:zA2 (.slice a n c) [.slice a n c]:=⟨rfl⟩
instance zPj {z:List Value}:zFE z 0 [] z:=⟨⟨by simp,by simp⟩⟩
instance zPk {v u:Value} {z us z':List Value} [h:zFE z 0 us z']:zFE (v::z) 0 (u::us) (u::z'):=⟨by
 obtain ⟨h1,h2⟩:=h.h
 simp only [Nat.zero_add,List.take_zero,List.nil_append] at h1 h2
 refine ⟨by simp; omega,?_⟩
 simp only [List.length_cons,Nat.zero_add,List.take_zero,List.nil_append,List.drop_succ_cons,List.cons_append]
 rw [h2]⟩
instance zPl {v:Value} {z us z':List Value} {off:Nat} [h:zFE z off us z']:zFE (v::z) (off + 1) us (v::z'):=⟨by
 obtain ⟨h1,h2⟩:=h.h
 refine ⟨by simp; omega,?_⟩
 rw [h2,show off + 1 + us.length = (off + us.length) + 1 by omega]
 simp⟩
instance zOz {o n:Nat} {pl:List (Nat×Nat)}:zGF ((o,n)::pl) 0 o n:=⟨rfl⟩
instance zO0 {x:Nat×Nat} {o n i:Nat} {pl:List (Nat×Nat)} [h:zGF pl i o n]:zGF (x::pl) (i + 1) o n:=⟨h.h⟩
instance zPm {pl:List (Nat×Nat)} {z:List Value}:zIP pl z [] z:=⟨rfl⟩
theorem zIw {pl:Nat→Option (Nat×Nat)} {z us z':List Value} {i off:Nat} {v:Value} {ps:List (Nat×Value)} (hp:pl i = some (off,us.length)) (hc:v.cells = us.toArray) (h:off + us.length ≤ z.length∧z' = z.take off++us++z.drop (off + us.length)) :
  Instr.fill pl z.toArray ((i,v)::ps) = Instr.fill pl z'.toArray ps:=by
 obtain ⟨h1,rfl⟩:=h
 rw [Instr.fill,hp,hc]
 simp only [List.size_toArray]
 rw [if_neg (by simp; omega)]
 congr 1
 have hl:(z.take off).length = off:=by rw [List.length_take]; omega
 have key:∀ (us m pre C:List Value),pre.length = off→m.length = us.length→∀ (o:Nat) (pre2:List Value),pre2.length = off + o→(us.zipIdx o).foldl (fun (cs:Array Value) (p:Value×Nat)=>cs.setIfInBounds (off + p.2) p.1) (pre2++m++C).toArray = (pre2++us++C).toArray:=by
  intro us
  induction us with
  | nil=>intro m pre C _ hm o pre2 _; rw [List.length_eq_zero_iff.1 hm]; rfl
  | cons u us ih=>
   intro m pre C hp hm o pre2 hp2
   cases m with
   | nil=>simp at hm
   | cons x m=>
    simp only [List.zipIdx_cons,List.foldl_cons]
    have e:(pre2++x::m++C).toArray.setIfInBounds (off + o) u = ((pre2++[u])++m++C).toArray:=by
     apply Array.ext'
     rw [← hp2]
     simp
    rw [e,ih m pre C hp (by simpa using hm) (o + 1) (pre2++[u]) (by simp; omega)]
    simp
 have e:z = z.take off++(z.drop off).take us.length++z.drop (off + us.length):=by
  rw [← List.drop_drop,List.append_assoc,List.take_append_drop,List.take_append_drop]
 have h3:=key us ((z.drop off).take us.length) (z.take off) (z.drop (off + us.length)) hl (by rw [List.length_take,List.length_drop]; omega) 0 (z.take off) (by omega)
 rw [← e] at h3
 rw [← Array.foldl_toList,Array.toList_zipIdx]
 exact h3
instance zPn {pl:List (Nat×Nat)} {z z' us cs:List Value} {i off n:Nat} {v:Value} {ps:List (Nat×Value)} [p:zGF pl i off n] [c:zA2 v us] [l:zG6 us n] [o:zFE z off us z'] [f:zIP pl z' ps cs]:zIP pl z ((i,v)::ps) cs :=
 ⟨by rw [zIw (by rw [l.h]; exact p.h) c.h o.h]; exact f.h⟩
instance zPo {pl:List (Nat×Nat)} {B:World} {Γ:List zC} {z cs:List Value} {ps:List (Nat×Value)} {k:Array Value→K} [f:zIP pl z ps cs]:Nx B Γ (Bld z.toArray (pl[·]?) ps k) Γ (k cs.toArray):=⟨fun h w hw=>⟨_,f.h,h w hw⟩⟩
end
end Go.Sep
namespace Go.Proofs.YtgmbfnboiobeaaaGreat
section
open Go Go.Sep
structure zDH (s0:Sl) (x0:List UInt8) (s:Sl) (xs:List UInt8):Prop where
 rd:∀ w,RdB w s0 x0→RdB w s xs
 n:s.n = xs.length
 cap:s.n ≤ s.c
 spot:∀ a,s.a = some a→a.spot = none
theorem zDH.drop {s0 s:Sl} {x0 xs:List UInt8} {l:Nat} (h:zDH s0 x0 s xs) (hl:l ≤ s.n):zDH s0 x0 ⟨uN s.a l s.c 1,s.n - l,s.c - l⟩ (xs.drop l):=by
 refine ⟨fun w hw=>?_,by simp [h.n],by have:=h.cap; simp only; omega,fun a ha=>?_⟩
 ·have h1:=(h.rd w hw).drop (l:=l) (c:=s.c) hl h.cap h.spot
  rw [Nat.mul_one,← List.map_drop] at h1
  exact h1
 ·simp only [uN] at ha
  split at ha
  ·exact h.spot a ha
  ·cases hx:s.a with
   | none=>rw [hx] at ha; cases ha
   | some a0=>
    rw [hx] at ha
    simp only [Option.map_some,Option.some.injEq] at ha
    subst ha
    unfold Addr.add
    split
    ·exact h.spot a0 hx
    ·rfl
theorem zOc {w:World} {s:Sl} {xs:List UInt8} (h:RdB w s xs):RdC w s 1 ((xs.map fun b=>(b.toNat:Int)).map (Value.int .u8)):=by
 rw [List.map_map]; exact h
def zEK (e:Nat) (xs:List UInt8):zC:=ex fun s0:Sl=>ex fun x0:List UInt8=>ex fun s:Sl=>Sep.stars [pur (zDH s0 x0 s xs),blk e (.cells [s.val].toArray xZ (0,0)),Bytes zV s0 x0]
theorem zNT (i:Nat):2 ^ (7 * i) = 128 ^ i:=by rw [Nat.pow_mul]
theorem zMV {a c i:Nat} (ha:a < 128 ^ i) (hc:a + c * 128 ^ i < 18446744073709551616) (hi:7 * i < 64):bitsOf .or .u64 (a:Int) (zBr .u64 (c:Int) ((7 * i:Nat):Int)) = ((a + c * 128 ^ i:Nat):Int):=by
 have h1:zBr .u64 (c:Int) ((7 * i:Nat):Int) = ((c * 128 ^ i:Nat):Int):=by
  unfold zBr
  have:min (((7 * i:Nat):Int).toNat) (IntKind.bits .u64) = 7 * i:=by simp [IntKind.bits]; omega
  rw [this]
  have e:(c:Int) * 2 ^ (7 * i) = ((c * 128 ^ i:Nat):Int):=by
   rw [← zNT]; push_cast; rfl
  rw [e,zAU (by omega) (by omega)]
 rw [h1]
 unfold bitsOf
 simp only
 have h2:(BitVec.ofInt (IntKind.bits .u64) (a:Int) ||| BitVec.ofInt (IntKind.bits .u64) ((c * 128 ^ i:Nat):Int)).toNat = a + c * 128 ^ i:=by
  show (BitVec.ofInt 64 (a:Int) ||| BitVec.ofInt 64 ((c * 128 ^ i:Nat):Int)).toNat = _
  rw [BitVec.toNat_or,BitVec.ofInt_natCast,BitVec.ofInt_natCast,BitVec.toNat_ofNat,BitVec.toNat_ofNat,Nat.mod_eq_of_lt (by omega),Nat.mod_eq_of_lt (by omega)]
  have h4:=Nat.two_pow_add_eq_or_of_lt (i:=7 * i) (b:=a) (by rw [zNT]; exact ha) c
  rw [zNT,Nat.mul_comm,Nat.or_comm] at h4
  rw [← h4,Nat.add_comm]
 rw [h2,zAU (by omega) (by omega)]
section
variable {B:World} {Γ Δ:List zC} {k Q:K} {e:Nat} {xs:List UInt8}
theorem zKI (h:∀ s0 x0 s,zDH s0 x0 s xs→HG B (blk e (.cells [s.val].toArray xZ (0,0))::Bytes zV s0 x0::Γ) k):HG B (zEK e xs::Γ) k:=zF9 fun s0=>zF9 fun x0=>zF9 fun s=>zCl <| zMP fun h1=>h s0 x0 s h1
theorem zDq {s0 s:Sl} {x0:List UInt8} (h1:zDH s0 x0 s xs) (h:HG B (zEK e xs::Γ) k):HG B (blk e (.cells [s.val].toArray xZ (0,0))::Bytes zV s0 x0::Γ) k:=fun w hw=>by
 refine h w ?_
 have h3:Holds B (Sep.stars [pur (zDH s0 x0 s xs),blk e (.cells [s.val].toArray xZ (0,0)),Bytes zV s0 x0]::Γ) w:=Holds.flat.2 (Holds.pur.2 ⟨h1,hw⟩)
 exact h3.imp fun g hg=>⟨s0,x0,s,hg⟩
instance (priority:=high) zO1:Sep.Own e (zEK e xs::Γ) (zEK e xs) Γ:=⟨.refl _⟩
theorem zFF {s:Sl} {q:Option Addr→K} (hl:xs.length ≤ 1000000) (hr:∀ w,Holds B Γ w→RdB w s xs) (h:∀ e,HG B (zEK e xs::Γ) (q (some ⟨e,0,none⟩))):HG B Γ (vK.call s q):=fun w hw=>by
 refine zEC _ _ _ ?_
 unfold vK
 refine qR hw hr (by omega) fun s1 w hw _=>?_
 refine hg hw ?_
 clear hw w
 refine jI fun e=>?_
 refine fun w hw=>?_
 have hc:=hw.tail.jd
 rw [List.length_map,Nat.mul_one] at hc
 exact zDq (e:=e) (xs:=xs) (s0:=s1) (x0:=xs) (s:=s1) ⟨fun w h=>h,hc.1.symm,hc.2.1,hc.2.2.1⟩ (h e) w hw
theorem zFG {q:Int→K} (h:HG B (zEK e xs::Γ) (q (if xs = [] then 0 else 32))):HG B (zEK e xs::Γ) (xM.call (some ⟨e,0,none⟩) q):=by
 refine fun w hw=>zDU _ _ _ ?_
 refine hg hw ?_
 clear hw w
 unfold xM
 refine zKI fun s0 x0 s ho=>?_
 refine jS ?_
 refine vV (b:=e) (l:=[s.val]) (x:=s) ?_
 have hn:=ho.n
 have back:=zDq (B:=B) (Γ:=Γ) (e:=e) ho h
 refine zAy (fun hb=>?_) fun hb=>?_
 ·rw [if_neg (by rintro rfl; simp only [decide_eq_true_eq] at hb; simp at hn; omega)] at back
  exact back
 ·rw [if_pos (by simp only [decide_eq_false_iff_not] at hb; exact List.eq_nil_of_length_eq_zero (by omega))] at back
  exact back
theorem zKJ {s0 s:Sl} {x0:List UInt8} {l:Nat} {ll:Int} {ks:Sl→K} (ho:zDH s0 x0 s xs) (hl:l ≤ s.n) (hll:ll = (l:Int)) (h:HG B Γ (ks ⟨uN s.a l s.c 1,s.n - l,s.c - l⟩)):HG B Γ (Slc s ll (s.n:Int) (s.c:Int) 1 ks):=fun w hw=>by
 subst hll
 exact ⟨_,by omega,by omega,by have:=ho.cap; omega,by omega,by simp,h w hw⟩
theorem zEL {b:UInt8} {rest:List UInt8} {q:Int→Int→K} (hx:xs = b::rest) (h:HG B (zEK e rest::Γ) (q (b.toNat:Int) 0)):HG B (zEK e xs::Γ) (xS.call (some ⟨e,0,none⟩) q):=by
 refine fun w hw=>zCi _ _ _ ?_
 refine hg hw ?_
 clear hw w
 unfold xS
 refine zKI fun s0 x0 s ho=>?_
 have hn:=ho.n
 have hl:1 ≤ s.n:=by rw [hn,hx]; simp
 refine jS ?_
 refine vV (b:=e) (l:=[s.val]) (x:=s) ?_
 refine s_f ?_ (by simp; omega)
 refine vV (b:=e) (l:=[s.val]) (x:=s) ?_
 refine zCo (L:=xs.map fun b=>(b.toNat:Int)) (c:=Value.int .u8) (j:=0) (x:=(b.toNat:Int)) (fun w hw=>zOc (ho.rd w (Bytes.rd hw (List.mem_cons_of_mem _ List.mem_cons_self)))) (by rw [hx]; rfl) ?_
 refine vV (b:=e) (l:=[s.val]) (x:=s) ?_
 refine zKJ ho hl rfl ?_
 refine zGy (b:=e) (l:=[s.val]) (l':=[Sl.val ⟨uN s.a 1 s.c 1,s.n - 1,s.c - 1⟩]) ?_ rfl rfl
 have h1:=ho.drop hl
 rw [hx] at h1
 exact zDq h1 h
theorem zFH {n:Nat} {rest:List UInt8} {q:Int→Int→K} (hn:n < 18446744073709551616) (hx:xs = uU n++rest) (hl:xs.length ≤ 1000000) (h:HG B (zEK e rest::Γ) (q (n:Int) 0)):HG B (zEK e xs::Γ) (ze.call (some ⟨e,0,none⟩) q):=by
 refine fun w hw=>zDT _ _ _ ?_
 refine hg hw ?_
 clear hw w
 unfold ze
 refine zKI fun s0 x0 s ho=>?_
 have hsn:=ho.n
 refine jS ?_
 refine vV (b:=e) (l:=[s.val]) (x:=s) ?_
 refine zBk (α:=Int×Int) (ι:=Nat×Nat×Nat) (fun y i=>y.1 = (i.2.1:Int)∧y.2 = (i.1:Int)∧n = i.2.1 + i.2.2 * 128 ^ i.1∧i.2.1 < 128 ^ i.1∧(0 < i.1→1 ≤ i.2.2)∧xs.drop i.1 = uU i.2.2++rest) (fun y i=>blk e (.cells [s.val].toArray xZ (0,0))::Bytes zV s0 x0::Γ) (fun y i=>xs.length - i.1) (0,0,n) ⟨rfl,rfl,by simp,by simp,by simp,by simpa using hx⟩ ?_
 rintro k' ⟨_,_⟩ ⟨i,a,m⟩ ⟨rfl,rfl,hnm,ha,hm1,hd⟩ hk'
 simp only at hnm ha hm1 hd hk' ⊢
 have hi9:i ≤ 9:=by
  refine Nat.le_of_not_lt fun h10=>?_
  have h1:=hm1 (by omega)
  have h2:128 ^ 10 ≤ 128 ^ i:=Nat.pow_le_pow_right (by omega) h10
  have h3:128 ^ i ≤ m * 128 ^ i:=Nat.le_mul_of_pos_left _ h1
  omega
 have hne:uU m ≠ []:=by
  by_cases h1:m < 128
  ·rw [uy h1]; simp
  ·rw [zAz h1]; simp
 have hil:i < xs.length:=by
  refine Nat.lt_of_not_le fun h1=>?_
  rw [List.drop_of_length_le h1] at hd
  exact hne (List.append_eq_nil_iff.1 hd.symm).1
 unfold ze.b1
 refine s_t ?_ (by simp; omega)
 have step:∀ {b:UInt8},xs[i]? = some b→HG B (blk e (.cells [s.val].toArray xZ (0,0))::Bytes zV s0 x0::Γ) (ze.s2 q (fun n2 t11=>k' (n2,t11)) ⟨e,0,none⟩ (a:Int) (i:Int) (b.toNat:Int) s (s.n:Int) (i:Int) false)→(i = 9→b.toNat ≤ 1) →
   HG B (blk e (.cells [s.val].toArray xZ (0,0))::Bytes zV s0 x0::Γ) (Idx s (i:Int) 1 fun t14=>Ld t14 (Value.int .u8) fun t15=>Ite (decide ((i:Int) = 9)) (ze.s2 q (fun n2 t11=>k' (n2,t11)) ⟨e,0,none⟩ (a:Int) (i:Int) t15 s (s.n:Int) (i:Int) (decide ((1:Int) < t15))) (ze.s2 q (fun n2 t11=>k' (n2,t11)) ⟨e,0,none⟩ (a:Int) (i:Int) t15 s (s.n:Int) (i:Int) false)):=fun {b} hb hs hb9=>by
  refine zCo (L:=xs.map fun b=>(b.toNat:Int)) (c:=Value.int .u8) (j:=i) (x:=(b.toNat:Int)) (fun w hw=>zOc (ho.rd w (Bytes.rd hw (List.mem_cons_of_mem _ List.mem_cons_self)))) (by rw [List.getElem?_map,hb]; rfl) ?_
  refine zAy (fun h9=>?_) fun h9=>hs
  have:=hb9 (by simp only [decide_eq_true_eq] at h9; omega)
  rw [show decide ((1:Int) < (b.toNat:Int)) = false by simp; omega]
  exact hs
 have hget:xs[i]? = (xs.drop i)[0]?:=by simp
 by_cases hm:m < 128
 ·rw [uy hm] at hd
  have hub:(u8 m).toNat = m:=by rw [u8N,Nat.mod_eq_of_lt (by omega)]
  refine step (b:=u8 m) (by rw [hget,hd]; rfl) ?_ fun h9=>?_
  ·unfold ze.s2
   refine s_f ?_ (by rfl)
   refine zIt (by decide) ?_
   rw [hub]
   have e1:Int.tmod (m:Int) 128 = (m:Int):=Int.tmod_eq_of_lt (by omega) (by omega)
   refine jG e1 ?_
   refine jG (zAU (by omega) (by omega)) ?_
   refine jG (show IntKind.wrap .i64 (7 * (i:Int)) = ((7 * i:Nat):Int) by rw [wrap64 (by omega) (by omega)]; push_cast; rfl) ?_
   refine zIt (by omega) ?_
   refine jG rfl ?_
   refine jG (zMV ha (by omega) (by omega)) ?_
   refine s_t ?_ (by simp; omega)
   have s3:HG B (blk e (.cells [s.val].toArray xZ (0,0))::Bytes zV s0 x0::Γ) (ze.s3 q (fun n2 t11=>k' (n2,t11)) ⟨e,0,none⟩ ((a + m * 128 ^ i:Nat):Int) (i:Int) false):=by
    unfold ze.s3
    refine s_f ?_ (by rfl)
    refine vV (b:=e) (l:=[s.val]) (x:=s) ?_
    refine zIs ?_
    refine zKJ ho (l:=i + 1) (by omega) (by push_cast; rfl) ?_
    refine zGy (b:=e) (l:=[s.val]) (l':=[Sl.val ⟨uN s.a (i + 1) s.c 1,s.n - (i + 1),s.c - (i + 1)⟩]) ?_ rfl rfl
    have h1:=ho.drop (l:=i + 1) (by omega)
    have h2:xs.drop (i + 1) = rest:=by
     rw [← List.drop_drop,hd]; rfl
    rw [h2] at h1
    rw [← hnm]
    exact zDq h1 h
   refine zAy (fun h0=>?_) fun h0=>s3
   by_cases hi0:0 < i
   ·have:=hm1 hi0
    simp only [decide_eq_true_eq] at h0
    omega
   ·rw [show decide ((0:Int) < (i:Int)) = false by simp; omega]
    exact s3
  ·rw [hub]
   subst h9
   have h3:m * 128 ^ 9 ≤ n:=by omega
   have h4:(128:Nat) ^ 9 = 9223372036854775808:=by decide
   rw [h4] at h3
   omega
 ·rw [zAz hm] at hd
  have hub:(u8 (m % 128 + 128)).toNat = m % 128 + 128:=by rw [u8N,Nat.mod_eq_of_lt (by omega)]
  have hi8:i ≤ 8:=by
   refine Nat.le_of_not_lt fun h9=>?_
   have h2:128 ^ 9 ≤ 128 ^ i:=Nat.pow_le_pow_right (by omega) h9
   have h3:128 * 128 ^ 9 ≤ m * 128 ^ i:=Nat.mul_le_mul (by omega) h2
   omega
  refine step (b:=u8 (m % 128 + 128)) (by rw [hget,hd]; rfl) ?_ fun h9=>by omega
  unfold ze.s2
  refine s_f ?_ (by rfl)
  refine zIt (by decide) ?_
  rw [hub]
  have e1:Int.tmod ((m % 128 + 128:Nat):Int) 128 = ((m % 128:Nat):Int):=by rw [Int.tmod_eq_emod_of_nonneg (by omega)]; omega
  refine jG e1 ?_
  refine jG (zAU (by omega) (by omega)) ?_
  refine jG (show IntKind.wrap .i64 (7 * (i:Int)) = ((7 * i:Nat):Int) by rw [wrap64 (by omega) (by omega)]; push_cast; rfl) ?_
  refine zIt (by omega) ?_
  refine jG rfl ?_
  have hmm:m = m % 128 + 128 * (m / 128):=by omega
  have hmul:m * 128 ^ i = m % 128 * 128 ^ i + m / 128 * 128 ^ (i + 1):=by
   rw [Nat.pow_succ]
   conv=>lhs; rw [hmm]
   rw [Nat.add_mul,Nat.mul_comm 128 (m / 128),Nat.mul_assoc,Nat.mul_comm 128 (128 ^ i)]
  refine jG (zMV ha (by omega) (by omega)) ?_
  refine s_f ?_ (by simp; omega)
  refine zIs ?_
  refine hk' (((a + m % 128 * 128 ^ i:Nat):Int),(i:Int) + 1) (i + 1,a + m % 128 * 128 ^ i,m / 128) ⟨rfl,by simp,by simp only; omega,?_,fun _=>by simp only; omega,?_⟩ (by simp only; omega)
  ·simp only
   rw [Nat.pow_succ]
   have h5:m % 128 * 128 ^ i ≤ 127 * 128 ^ i:=Nat.mul_le_mul_right _ (by omega)
   omega
  ·simp only
   rw [← List.drop_drop,hd]; rfl
end
end
section
open Go Go.Sep
def zBm (p:Nat) (xs:List UInt8):zC:=ex fun s:Sl=>Sep.stars [blk p (.cells [s.val].toArray xL (0,0)),SlC zV 1 s (xs.map qd)]
section
variable {B:World} {Γ Δ:List zC} {p:Nat} {xs:List UInt8} {k Q:K}
theorem zIQ (h:∀ s,HG B (blk p (.cells [s.val].toArray xL (0,0))::SlC zV 1 s (xs.map qd)::Γ) k):HG B (zBm p xs::Γ) k:=zF9 fun s=>zCl (h s)
theorem zCG {s:Sl} (h:HG B (zBm p xs::Γ) k):HG B (blk p (.cells [s.val].toArray xL (0,0))::SlC zV 1 s (xs.map qd)::Γ) k:=fun w hw=>by
 refine h w ?_
 have h3:Holds B (Sep.stars [blk p (.cells [s.val].toArray xL (0,0)),SlC zV 1 s (xs.map qd)]::Γ) w:=Holds.flat.2 hw
 exact h3.imp fun g hg=>⟨s,hg⟩
instance (priority:=high) zO2:Sep.Own p (zBm p xs::Γ) (zBm p xs) Γ:=⟨.refl _⟩
theorem zFI {q0:Addr→K} (h:∀ p,HG B (zBm p []::Γ) (q0 ⟨p,0,none⟩)):HG B Γ (New xL #[Sl.val ⟨none,0,0⟩] q0):=by
 refine jI fun p=>?_
 refine fun w hw=>?_
 refine hg (show Holds B (SlC zV 1 ⟨none,0,0⟩ (([]:List UInt8).map qd)::_) w from hw.zAJ _ _) ?_
 refine zNN ?_
 exact zCG (h p)
theorem zKK {n:Nat} (hn:n < 1180591620717411303424) (hx:xs.length ≤ 50000000) (h:HG B (zBm p (xs++uU n)::Γ) Q):HG B (zBm p xs::Γ) (yj.call (some ⟨p,0,none⟩) (n:Int) Q):=by
 refine fun w hw=>zAd _ _ _ _ ?_
 refine hg hw ?_
 clear hw w
 have hnl:=xQ 9 n (by simpa using hn)
 unfold yj
 refine zBk (α:=Int) (ι:=Nat×List UInt8) (fun x i=>x = (i.1:Int)∧i.2++uU i.1 = xs++uU n) (fun x i=>zBm p i.2::Γ) (fun x i=>i.1) (n,xs) ⟨rfl,rfl⟩ ?_
 rintro k' _ ⟨m,ys⟩ ⟨rfl,he⟩ hk'
 simp only at he hk' ⊢
 have hyl:ys.length ≤ 50000010:=by have:=congrArg List.length he; simp only [List.length_append] at this; omega
 unfold yj.b1
 refine zAy (fun hb=>?_) fun hb=>?_
 ·have hm:¬ m < 128:=by simp only [decide_eq_true_eq] at hb; omega
  refine jS ?_
  refine zIQ fun s=>?_
  refine zFC s fun a1 a2 a3 a4=>?_
  simp only [List.length_map] at a1
  repeat refine zHh ?_
  refine jG rfl ?_
  refine jG (zMS m) ?_
  refine jI fun t16=>?_
  refine zEG (s:=s) (esz:=1) (us:=[qd (u8 (m % 128 + 128))]) (zCn rfl) (by simp [qd,qj]) (by simp only; omega) fun s2 _=>?_
  rw [show ys.map qd++[qd (u8 (m % 128 + 128))] = (ys++[u8 (m % 128 + 128)]).map qd by simp]
  repeat refine zHh ?_
  refine zIt (by decide) ?_
  refine jG (zKG m 7 (by decide)) ?_
  refine zGA s2 ?_
  refine zAM p ?_
  refine zCG ?_
  refine qm (hk' ((m / 2 ^ 7:Nat):Int) (m / 2 ^ 7,ys++[u8 (m % 128 + 128)]) ⟨rfl,?_⟩ (by simp only; omega))
  simp only
  rw [← he,zAz hm]; simp
 ·have hm:m < 128:=by simp only [decide_eq_false_iff_not] at hb; omega
  refine jS ?_
  refine zIQ fun s=>?_
  refine zFC s fun a1 a2 a3 a4=>?_
  simp only [List.length_map] at a1
  repeat refine zHh ?_
  refine jG (zAe m) ?_
  refine jI fun t16=>?_
  refine zEG (s:=s) (esz:=1) (us:=[qd (u8 m)]) (zCn rfl) (by simp [qd,qj]) (by simp only; omega) fun s2 _=>?_
  rw [show ys.map qd++[qd (u8 m)] = (ys++[u8 m]).map qd by simp]
  repeat refine zHh ?_
  refine zGA s2 ?_
  refine zAM p ?_
  refine zCG ?_
  rw [← uy hm,he]
  exact qm h
theorem zIR {q:Sl→K} (hx:xs.length ≤ 50000000) (h:∀ s,HG B (Bytes zV s xs::zBm p xs::Γ) (q s)):HG B (zBm p xs::Γ) (qQ.call (some ⟨p,0,none⟩) q):=by
 refine fun w hw=>zAK _ _ _ ?_
 refine hg hw ?_
 clear hw w
 unfold qQ
 refine jS ?_
 refine zIQ fun s=>?_
 repeat refine zHh ?_
 refine fun w hw=>qR hw (fun w h=>(zCm (s:=s) h).1) (by omega) fun s1 w hw _=>?_
 refine hg hw ?_
 clear hw w
 refine zGA s ?_
 refine zAM p ?_
 refine zCG ?_
 exact qm (h s1)
theorem zGG {b:UInt8} (hx:xs.length ≤ 50000000) (h:HG B (zBm p (xs++[b])::Γ) Q):HG B (zBm p xs::Γ) (qz.call (some ⟨p,0,none⟩) (b.toNat:Int) Q):=by
 refine fun w hw=>zCh _ _ _ _ ?_
 refine hg hw ?_
 clear hw w
 unfold qz
 refine jS ?_
 refine zIQ fun s=>?_
 refine zFC s fun a1 a2 a3 a4=>?_
 simp only [List.length_map] at a1
 repeat refine zHh ?_
 refine jI fun t16=>?_
 refine zEG (s:=s) (esz:=1) (us:=[qd b]) (zCn rfl) (by simp [qd,qj]) (by simp only; omega) fun s2 _=>?_
 rw [show xs.map qd++[qd b] = (xs++[b]).map qd by simp]
 repeat refine zHh ?_
 refine zGA s2 ?_
 refine zAM p ?_
 refine zCG ?_
 exact qm h
end
end
section
open Go Go.Sep
def qp (b:List UInt8):List UInt8:=if h:b = [] then [] else zU (b.take 1024)++qp (b.drop 1024)
termination_by b.length
decreasing_by
 have:0 < b.length:=List.length_pos_iff.2 h
 simp; omega
theorem uJ:qp [] = []:=by rw [qp,dif_pos rfl]
theorem xR {b:List UInt8} (h:b ≠ []):qp b = zU (b.take 1024)++qp (b.drop 1024):=by rw [qp,dif_neg h]
def yU (b:List UInt8):List UInt8:=zU (uU b.length)++qp b
theorem zA3:∀ (n:Nat) (b:List UInt8),b.length = n→(qp b).length ≤ 7 * b.length:=by
 intro n
 induction n using Nat.strongRecOn with
 | _ n ih=>
  intro b hb
  by_cases h:b = []
  ·subst h; rw [uJ]; simp
  ·have hp:0 < b.length:=List.length_pos_iff.2 h
   rw [xR h,List.length_append,yM]
   have:=ih (b.drop 1024).length (by simp; omega) _ rfl
   simp only [List.length_drop,List.length_take] at this ⊢
   omega
section
variable {B w:World} {Γ:List zC}
theorem zCH {s:Sl} {k:Value→K} (h:Holds B Γ w)
  (hk:∀ s2 n3 w,Holds B (blk s2 (.cells #[s.val] zR (0,0))::blk n3 (.cells #[.int .i64 1024] j6 (0,0))::Γ) w→k (.func (.func 121) #[] #[.pointer (some ⟨s2,0,none⟩),.pointer (some ⟨n3,0,none⟩)]) w):zw.call s 1024 k w:=by
 refine jQ _ _ _ _ ?_
 unfold zw
 refine vX h ?_
 clear h
 intro s2 w h
 try simp only [yB,Nat.zero_add,Nat.reduceAdd]
 refine vX h ?_
 clear h
 intro n3 w h
 try simp only [yB,Nat.zero_add,Nat.reduceAdd]
 refine xI (x:=(1024:Int)) h rfl (by first | with_reducible exact M0 | with_reducible exact M1 | with_reducible exact M2 | with_reducible exact M3 | with_reducible exact M4 | with_reducible exact M5 | with_reducible exact M6 | with_reducible exact M7 | with_reducible exact M8 | with_reducible exact M9 | with_reducible exact M10 | with_reducible exact M11 | with_reducible exact M12) ?_ ?_
 ·exact rfl
 refine zk (by decide) ?_
 unfold zw.s1
 exact hk s2 n3 _ h.swap
theorem zLh {w:World} {s:Sl} {d:List UInt8} {i n:Nat} (h:RdB w s d) (hi:i + n ≤ s.n) (hcap:s.n ≤ s.c) (hsp:∀ a,s.a = some a→a.spot = none):RdB w ⟨uN s.a i (i + n) 1,n,n⟩ ((d.drop i).take n):=by
 have h1:=h.take (m:=i + n) (c:=i + n) hi
 have h2:=h1.drop (l:=i) (c:=i + n) (by simp only; omega) (by simp only; omega) hsp
 simp only [Nat.mul_one] at h2
 have e:i + n - i = n:=by omega
 rw [e] at h2
 show RdC w _ 1 (((d.drop i).take n).map qd)
 rw [List.map_take,List.map_drop]
 rw [List.drop_take,e] at h2
 exact h2
theorem zA4 {s:Sl} {xs:List UInt8} {k:Sl→K} (hl:xs.length ≤ 100000) (hcap:s.n ≤ s.c) (h:Holds B Γ w) (hr:∀ w,Holds B Γ w→RdB w s xs)
  (hk:∀ f w,Holds B (Bytes zV f (yU xs)::Γ) w→k f w):uo.call s k w:=by
 have hn:xs.length = s.n:=by have:=(hr w h).len; simpa using this
 refine zF6 _ _ _ ?_
 unfold uo
 refine vX h ?_
 clear h
 intro t10 w h
 try simp only [yB,Nat.zero_add,Nat.reduceAdd]
 rw [← hn]
 refine qY (zAU (by omega) (by omega)) ?_
 replace h:=(h.zAJ zV 1).swap
 refine zCE (xs:=[]) (n:=xs.length) (by simp; omega) h fun g' w h=>?_
 have hnl:(uU xs.length).length ≤ 3:=xQ 2 _ (by omega)
 refine zBl (by simp; omega) h fun d w h=>?_
 simp only [List.nil_append] at h
 refine vv (by omega) h (fun w h=>Bytes.rd h List.mem_cons_self) fun f w h=>?_
 refine vX h ?_
 clear h
 intro out w h
 try simp only [yB,Nat.zero_add,Nat.reduceAdd]
 first | refine S0 h rfl ?_ rfl ?_ | refine S1 h rfl ?_ rfl ?_ | refine S2 h rfl ?_ rfl ?_ | refine S3 h rfl ?_ rfl ?_ | refine S4 h rfl ?_ rfl ?_ | refine S5 h rfl ?_ rfl ?_ | refine S6 h rfl ?_ rfl ?_ | refine S7 h rfl ?_ rfl ?_ | refine S8 h rfl ?_ rfl ?_
 ·first | exact Nat.lt_of_ble_eq_true rfl | (simp; done) | (simp; omega)
 clear h
 intro w h
 try simp only [N1,N2,N3,N4,N5,N6,N7] at h
 refine zCH h fun s2 n3 w h=>?_
 refine zGW h rfl (by kernel_rfl) fun D l r w hr1 hr2 h hy=>?_
 have hfl:=zA3 _ xs rfl
 refine zD0 (u7 (yv l) ⟨s2,0,none⟩ ⟨n3,0,none⟩ (fun w3=>∃ Δ,Holds B (blk l (.loop r)::Δ) w3∧∀ w,Holds B Δ w→(Ld ⟨out,0,none⟩ Sl.val fun t33=>vT D (k t33)) w) w ?_) fun v w h=>h.2
 unfold yF
 refine yY.of (fun t w=>∃ (i:Nat) (o:Sl) (ys:List UInt8),t = (i:Int)∧i ≤ xs.length + 1024∧ys++qp (xs.drop i) = yU xs ∧
   Holds B (blk l (.loop r)::blk D (.deferred (some []))::blk s2 (.cells #[s.val] zR (0,0))::blk n3 (.cells #[.int .i64 1024] j6 (0,0))::blk out (.cells #[o.val] zR (0,0))::Bytes zV o ys::Γ) w)
  (fun t _=>((s.n:Int) - t).toNat) ⟨0,f,zU (uU xs.length),rfl,by omega,rfl,by
   replace h:=P5 h
   replace h:=P5 h
   replace h:=P5 h
   replace h:=P5 h
   replace h:=P5 h
   replace h:=P5 h
   replace h:=D6 h
   try simp only [N1,N2,N3,N4,N5,N6,N7] at h
   exact h⟩ ?_
 clear h
 rintro t w ⟨i,o,ys,rfl,hi,he,h⟩
 unfold yF.b1
 refine xI (x:=s) h rfl (by first | with_reducible exact M0 | with_reducible exact M1 | with_reducible exact M2 | with_reducible exact M3 | with_reducible exact M4 | with_reducible exact M5 | with_reducible exact M6 | with_reducible exact M7 | with_reducible exact M8 | with_reducible exact M9 | with_reducible exact M10 | with_reducible exact M11 | with_reducible exact M12) ?_ ?_
 ·exact rfl
 have hR:∀ w,Holds B (blk l (.loop r)::blk D (.deferred (some []))::blk s2 (.cells #[s.val] zR (0,0))::blk n3 (.cells #[.int .i64 1024] j6 (0,0))::blk out (.cells #[o.val] zR (0,0))::Bytes zV o ys::Γ) w→RdB w s xs:=fun w h=>hr _ h.tail.tail.tail.tail.tail.tail
 refine yc (fun hb=>?_) (fun hb=>?_)
 ·simp only [decide_eq_true_eq] at hb
  have hne:xs.drop i ≠ []:=fun e=>by have:=congrArg List.length e; simp at this; omega
  rw [xR hne] at he
  have hsp:=zF7 (hR w h) (fun e=>by rw [e] at hn; simp at hn; omega)
  refine zBe h ?_
  clear h
  intro w h
  refine xI (x:=(1024:Int)) h rfl (by first | with_reducible exact M0 | with_reducible exact M1 | with_reducible exact M2 | with_reducible exact M3 | with_reducible exact M4 | with_reducible exact M5 | with_reducible exact M6 | with_reducible exact M7 | with_reducible exact M8 | with_reducible exact M9 | with_reducible exact M10 | with_reducible exact M11 | with_reducible exact M12) ?_ ?_
  ·exact rfl
  refine xI (x:=s) h rfl (by first | with_reducible exact M0 | with_reducible exact M1 | with_reducible exact M2 | with_reducible exact M3 | with_reducible exact M4 | with_reducible exact M5 | with_reducible exact M6 | with_reducible exact M7 | with_reducible exact M8 | with_reducible exact M9 | with_reducible exact M10 | with_reducible exact M11 | with_reducible exact M12) ?_ ?_
  ·exact rfl
  refine ⟨_,by omega,by omega,by omega,by omega,rfl,?_⟩
  simp only [Int.toNat_natCast]
  obtain ⟨m,hm⟩:∃ m:Nat,m = min 1024 (xs.length - i):=⟨_,rfl⟩
  refine qY (e':=(m:Int)) (by split <;> omega) ?_
  refine xI (x:=s) h rfl (by first | with_reducible exact M0 | with_reducible exact M1 | with_reducible exact M2 | with_reducible exact M3 | with_reducible exact M4 | with_reducible exact M5 | with_reducible exact M6 | with_reducible exact M7 | with_reducible exact M8 | with_reducible exact M9 | with_reducible exact M10 | with_reducible exact M11 | with_reducible exact M12) ?_ ?_
  ·exact rfl
  refine qY (e':=((i + m:Nat):Int)) (by rw [wrap64 (by omega) (by omega)]; omega) ?_
  refine qY (e':=((i + m:Nat):Int)) (by rw [wrap64 (by omega) (by omega)]; omega) ?_
  refine ⟨_,by omega,by omega,by omega,by omega,rfl,?_⟩
  simp only [Int.toNat_natCast,show i + m - i = m by omega]
  have hmt:(xs.drop i).take 1024 = (xs.drop i).take m:=by
   have h1:(xs.drop i).length = xs.length - i:=by simp
   by_cases hle:xs.length - i ≤ 1024
   ·rw [List.take_of_length_le (by omega),List.take_of_length_le (by omega)]
   ·have:m = 1024:=by omega
    rw [this]
  have hyl:ys.length ≤ 800000:=by
   have h1:=congrArg List.length he
   have h2:(yU xs).length ≤ 9 + 7 * xs.length:=by
    unfold yU
    rw [List.length_append,yM]
    omega
   simp only [List.length_append] at h1
   omega
  refine zD1 (hy ⟨uN s.a i (i + m) 1,m,m⟩ (fun w=>∃ o',Holds B (blk l (.loop r)::blk D (.deferred (some []))::blk s2 (.cells #[s.val] zR (0,0))::blk n3 (.cells #[.int .i64 1024] j6 (0,0))::blk out (.cells #[Sl.val o'] zR (0,0))::Bytes zV o' (ys++zU ((xs.drop i).take 1024))::Γ) w) w _ h fun W h=>?_) fun v w hv=>?_
  ·have hc:=fun w (h:Holds B (blk l (.loop { r with state:=.busy })::blk D (.deferred (some []))::blk s2 (.cells #[s.val] zR (0,0))::blk n3 (.cells #[.int .i64 1024] j6 (0,0))::blk out (.cells #[o.val] zR (0,0))::Bytes zV o ys::Γ) w)=>zLh (i:=i) (n:=m) (hr _ h.tail.tail.tail.tail.tail.tail) (by omega) hcap hsp
   rw [hmt]
   have hml:((xs.drop i).take m).length = m:=by simp; omega
   refine vv (b:=(xs.drop i).take m) (by omega) h hc fun f w h=>?_
   refine xI (x:=o) h rfl (by first | with_reducible exact M0 | with_reducible exact M1 | with_reducible exact M2 | with_reducible exact M3 | with_reducible exact M4 | with_reducible exact M5 | with_reducible exact M6 | with_reducible exact M7 | with_reducible exact M8 | with_reducible exact M9 | with_reducible exact M10 | with_reducible exact M11 | with_reducible exact M12) ?_ ?_
   ·exact rfl
   have hfl2:=yM ((xs.drop i).take m)
   replace h:=P5 h
   replace h:=P5 h
   replace h:=P5 h
   replace h:=P5 h
   replace h:=P5 h
   replace h:=P5 h
   replace h:=P6 h
   try simp only [N1,N2,N3,N4,N5,N6,N7] at h
   refine zAx h (Bytes.rd h (List.mem_cons_of_mem _ List.mem_cons_self)) (by omega) fun o' w h _ _=>?_
   first | refine S0 h rfl ?_ rfl ?_ | refine S1 h rfl ?_ rfl ?_ | refine S2 h rfl ?_ rfl ?_ | refine S3 h rfl ?_ rfl ?_ | refine S4 h rfl ?_ rfl ?_ | refine S5 h rfl ?_ rfl ?_ | refine S6 h rfl ?_ rfl ?_ | refine S7 h rfl ?_ rfl ?_ | refine S8 h rfl ?_ rfl ?_
   ·first | exact Nat.lt_of_ble_eq_true rfl | (simp; done) | (simp; omega)
   clear h
   intro w h
   try simp only [N1,N2,N3,N4,N5,N6,N7] at h
   replace h:=P6 h
   replace h:=P6 h
   replace h:=P6 h
   replace h:=P6 h
   replace h:=P6 h
   replace h:=D6 h
   try simp only [N1,N2,N3,N4,N5,N6,N7] at h
   refine zJR h fun w h=>?_
   have e:({ ({ r with state:=.busy }:Loop) with state:=.ready,pending:=none }:Loop) = r:=by
    cases r
    simp only at hr1 hr2
    simp only [hr1,hr2]
   rw [e] at h
   exact ⟨o',h⟩
  ·obtain ⟨rfl,o',h⟩:=hv
   refine ⟨true,rfl,?_⟩
   refine zk rfl ?_
   refine xI (x:=(1024:Int)) h rfl (by first | with_reducible exact M0 | with_reducible exact M1 | with_reducible exact M2 | with_reducible exact M3 | with_reducible exact M4 | with_reducible exact M5 | with_reducible exact M6 | with_reducible exact M7 | with_reducible exact M8 | with_reducible exact M9 | with_reducible exact M10 | with_reducible exact M11 | with_reducible exact M12) ?_ ?_
   ·exact rfl
   refine qY (e':=((i + 1024:Nat):Int)) (by rw [wrap64 (by omega) (by omega)]; omega) ?_
   refine ⟨⟨i + 1024,o',_,rfl,by omega,?_,h⟩,by omega⟩
   rw [← he,List.append_assoc,List.drop_drop]
 ·simp only [decide_eq_false_iff_not] at hb
  have e0:xs.drop i = []:=List.drop_of_length_le (by omega)
  rw [e0,uJ,List.append_nil] at he
  subst he
  refine ⟨_,h,fun w h=>?_⟩
  refine xI (x:=o) h rfl (by first | with_reducible exact M0 | with_reducible exact M1 | with_reducible exact M2 | with_reducible exact M3 | with_reducible exact M4 | with_reducible exact M5 | with_reducible exact M6 | with_reducible exact M7 | with_reducible exact M8 | with_reducible exact M9 | with_reducible exact M10 | with_reducible exact M11 | with_reducible exact M12) ?_ ?_
  ·exact rfl
  replace h:=h
  refine zFg h fun w h=>?_
  replace h:=P3 h
  replace h:=D1 h
  replace h:=D1 h
  replace h:=D1 h
  try simp only [N1,N2,N3,N4,N5,N6,N7] at h
  exact hk _ _ h
end
end
section
open Go Go.Sep
theorem jf {b:List UInt8} (h:qp b = []):b = []:=by
 by_cases hb:b = []
 ·exact hb
 ·rw [xR hb] at h
  have:=congrArg List.length h
  rw [List.length_append,yM] at this
  simp at this
theorem zEM (b:List UInt8):b.length ≤ (qp b).length:=by
 have key:∀ (n:Nat) (b:List UInt8),b.length = n→b.length ≤ (qp b).length:=by
  intro n
  induction n using Nat.strongRecOn with
  | _ n ih=>
   intro b hb
   by_cases hbn:b = []
   ·subst hbn; simp
   ·have hp:0 < b.length:=List.length_pos_iff.2 hbn
    rw [xR hbn,List.length_append,yM]
    have:=ih (b.drop 1024).length (by simp; omega) _ rfl
    simp only [List.length_drop,List.length_take] at this ⊢
    omega
 exact key _ b rfl
theorem zG7 {b:List UInt8} (hb:b.length ≤ 1000000):(uU b.length).length ≤ 4096:=by have:=xQ 2 b.length (by omega); omega
theorem zG8 (b:List UInt8):b.length ≤ (yU b).length:=by
 have:=zEM b
 unfold yU
 rw [List.length_append]; omega
theorem zDI {b:List UInt8} (hb:b.length ≤ 100000):(yU b).length ≤ 9 + 7 * b.length:=by
 have h2:=zA3 _ b rfl
 have h3:=xQ 2 b.length (by omega)
 unfold yU
 rw [List.length_append,yM]
 omega
theorem zHi (a b:List UInt8) (h:qp a = qp b):a = b:=by
 have key:∀ (n:Nat) (a b:List UInt8),a.length = n→qp a = qp b→a = b:=by
  intro n
  induction n using Nat.strongRecOn with
  | _ n ih=>
   intro a b hn h
   by_cases ha:a = []
   ·subst ha; rw [uJ] at h; exact (jf h.symm).symm
   ·by_cases hb:b = []
    ·subst hb; rw [uJ] at h; exact jf h
    ·have hp:0 < a.length:=List.length_pos_iff.2 ha
     rw [xR ha,xR hb] at h
     obtain ⟨h1,h2⟩:=zCq (by simp; omega) (by simp; omega) h
     have h3:=ih (a.drop 1024).length (by simp; omega) _ _ rfl h2
     rw [← List.take_append_drop 1024 a,h1,h3,List.take_append_drop]
 exact key _ a b rfl h
theorem pack_inj {a b:List UInt8} (ha:a.length ≤ 100000) (h:yU a = yU b):a = b:=by
 have h1:=zG8 b
 have h2:=zDI ha
 rw [← h] at h1
 have h3:=zCq (zG7 (by omega)) (zG7 (by omega)) h
 exact zHi _ _ h3.2
section
variable {B w:World} {Γ:List zC}
theorem zCr {s:Sl} {d:List UInt8} {k:Sl→Int→K} (hl:d.length ≤ 100000) (hcap:s.n ≤ s.c) (h:Holds B Γ w) (hr:∀ w,Holds B Γ w→RdB w s d)
  (hok:∀ b f w,yU b = d→Holds B (Bytes zV f b::Γ) w→k f 0 w) (hno:(∀ b,yU b ≠ d)→∀ w,Holds B Γ w→k ⟨none,0,0⟩ 61 w):yH.call s k w:=by
 have hn:d.length = s.n:=by have:=(hr w h).len; simpa using this
 refine zEE _ _ _ ?_
 unfold yH
 refine uT (by omega) h hr hcap fun f w h=>?_
 replace h:=h.tail
 refine vX h ?_
 clear h
 intro t16 w h
 try simp only [yB,Nat.zero_add,Nat.reduceAdd]
 replace h:=jU (xs:=[]) (n:=0) (by rfl) rfl h
 have hF:=zHg d
 have hF1:=hF.le
 refine yY.of (fun t w=>∃ (i e:Nat) (o:Sl) (b:List UInt8),t = ((i:Int),(e:Int),o)∧i ≤ d.length∧e ≤ 33∧b.length ≤ i ∧
   (∀ b0,yU b0 = d→e = 0∧∃ j,b = b0.take j∧j ≤ b0.length∧d.drop i = qp (b0.drop j))∧Holds B (Bytes zV o b::Γ) w)
  (fun t _=>2 * ((s.n:Int) - t.1).toNat + (if t.2.1 = 0 then 1 else 0)) ⟨(zQ d).2.1,(zQ d).2.2,_,[],rfl,hF.le,hF.err,by simp,fun b0 hb0=>?_,h⟩ ?_
 ·have hnl:(uU b0.length).length ≤ 4096:=by
   have h1:(yU b0).length ≤ 100000:=by rw [hb0]; omega
   unfold yU at h1
   rw [List.length_append,yM] at h1
   have h3:(uU b0.length).length ≤ 4∨¬ b0.length < 128 ^ 4:=by
    by_cases hb:b0.length < 128 ^ 4
    ·exact .inl (xQ 3 _ hb)
    ·exact .inr hb
   rcases h3 with h3 | h3
   ·omega
   ·exfalso
    have h4:=zEM b0
    omega
  have hu:=vg (b:=uU b0.length) (qp b0) hnl
  have hu2:zQ d = (uU b0.length,6 + (uU b0.length).length,0):=by rw [← hb0]; exact hu
  rw [hu2]
  refine ⟨rfl,0,rfl,by omega,?_⟩
  rw [← hb0]
  unfold yU
  simp only [List.drop_zero]
  rw [← yM,List.drop_left]
 clear h hF hF1
 rintro t w ⟨i,e,o,b,rfl,hi,he33,hbl,hall,h⟩
 dsimp only
 have hlast:(∀ b0,yU b0 = d→e = 0∧d.drop i = []→b = b0):=fun b0 hb0 hx=>by
  obtain ⟨_,j,h1,h2,h3⟩:=hall b0 hb0
  rw [hx.2] at h3
  have h4:=jf h3.symm
  have:b0.length ≤ j:=by have:=congrArg List.length h4; simp at this; omega
  rw [h1,List.take_of_length_le this]
 unfold yH.b1
 refine yc (fun hb=>?_) (fun hb=>?_)
 ·simp only [decide_eq_true_eq] at hb
  have he0:e = 0:=by omega
  unfold yH.s2
  refine yc (fun hb2=>?_) (fun hb2=>?_)
  ·simp only [decide_eq_true_eq] at hb2
   refine ⟨_,by omega,by omega,by omega,by omega,rfl,?_⟩
   simp only [Int.toNat_natCast]
   have hsp:=zF7 (hr w h.tail) (fun e=>by rw [e] at hn; simp at hn; omega)
   have hG:=zHg (d.drop i)
   have hG1:=hG.le
   have hG2:=hG.small
   simp only [List.length_drop] at hG1
   refine uT (d:=d.drop i) (by simp; omega) h (fun w h=>zG0 (hr w h.tail) (by omega) hcap hsp) (by simp only; omega) fun f w h=>?_
   have hbb:b.length + (zQ (d.drop i)).1.length ≤ i + (zQ (d.drop i)).2.1:=by
    by_cases hz:(zQ (d.drop i)).2.2 = 0
    ·have:=(hG.ok hz).2.1; omega
    ·have:=(hG.no hz).1; rw [this]; simp; omega
   refine zAx h.swap (Bytes.rd h List.mem_cons_self) (by omega) fun o' w h _ _=>?_
   replace h:=h.del 1 at1
   try simp only [N1,N2,N3,N4,N5,N6,N7] at h
   refine qY (e':=((i + (zQ (d.drop i)).2.1:Nat):Int)) (by rw [wrap64 (by omega) (by omega)]; omega) ?_
   refine ⟨⟨_,_,o',_,rfl,by omega,hG.err,?_,fun b0 hb0=>?_,h⟩,?_⟩
   ·rw [List.length_append]; omega
   ·obtain ⟨_,j,h1,h2,h3⟩:=hall b0 hb0
    have hbn:b0.drop j ≠ []:=fun e=>by
     rw [e,uJ] at h3
     have:=congrArg List.length h3
     simp at this; omega
    rw [xR hbn] at h3
    have hu:=vg (b:=(b0.drop j).take 1024) (qp ((b0.drop j).drop 1024)) (by simp; omega)
    rw [← h3] at hu
    rw [hu]
    refine ⟨rfl,min (j + 1024) b0.length,?_,by omega,?_⟩
    ·simp only
     rw [h1,← List.take_add]
     by_cases hle:j + 1024 ≤ b0.length
     ·rw [Nat.min_eq_left hle]
     ·rw [Nat.min_eq_right (by omega),List.take_of_length_le (by omega),List.take_length]
    ·simp only
     rw [← List.drop_drop,h3,← yM,List.drop_left]
     rw [List.drop_drop]
     by_cases hle:j + 1024 ≤ b0.length
     ·rw [Nat.min_eq_left hle]
     ·rw [Nat.min_eq_right (by omega),List.drop_of_length_le (by omega),List.drop_length]
   ·by_cases hz:(zQ (d.drop i)).2.2 = 0
    ·have:=(hG.ok hz).1
     simp only [hz,he0]
     split <;> omega
    ·have:=(hG.no hz).2
     have hz2:¬ (((zQ (d.drop i)).2.2:Int) = 0):=by omega
     simp only [he0,this,if_neg hz2]
     simp
  ·simp only [decide_eq_false_iff_not] at hb2
   have hdi:d.drop i = []:=List.drop_of_length_le (by omega)
   refine zk (by simp only [decide_eq_false_iff_not]; omega) ?_
   have hsc:=h.jd
   refine zA4 (xs:=b) (by omega) hsc.2.1 h (fun w h=>Bytes.rd h List.mem_cons_self) fun f w h=>?_
   have hpl:(yU b).length ≤ 1000000:=by
    have h2:=zA3 _ b rfl
    have h3:=xQ 2 b.length (by omega)
    unfold yU
    rw [List.length_append,yM]
    omega
   refine jr (by omega) h (fun w h=>Bytes.rd h List.mem_cons_self) (fun w h=>hr w h.tail.tail) fun w h=>?_
   unfold yH.s3
   refine yc (fun hb3=>?_) (fun hb3=>?_)
   ·simp only [Bool.not_eq_true',decide_eq_false_iff_not] at hb3
    refine hno (fun b0 hb0=>?_) _ h.tail.tail
    have:=hlast b0 hb0 ⟨he0,hdi⟩
    rw [this] at hb3
    exact hb3 hb0
   ·simp only [Bool.not_eq_false',decide_eq_true_eq] at hb3
    exact hok b o _ hb3 h.tail
 ·simp only [decide_eq_false_iff_not] at hb
  unfold yH.s2
  refine zk rfl ?_
  refine qN (by simp only [decide_eq_true_eq]; omega) ?_
  unfold yH.s3
  refine qN rfl ?_
  refine hno (fun b0 hb0=>?_) _ h.tail
  have:=(hall b0 hb0).1
  omega
end
end
section
open Go.Proofs Go.Shelf
def zLi:Go.Shelf.Ren:=⟨fun | 6=>104 | 8=>126 | 9=>125 | 19=>141 | 20=>142 | 21=>132 | 22=>133 | 23=>134 | 24=>135 | 25=>136 | 26=>137 | 27=>138 | 28=>139 | 29=>140 | 36=>150 | 31=>151 | 32=>152 | 37=>153 | 38=>154 | 39=>155 | 41=>161 | n=>n,fun | 27=>71 | 29=>9 | 3=>3 | 32=>40 | 26=>71 | 0=>0 | 44=>213 | 46=>33 | 4=>4 | 36=>233 | 35=>232 | 41=>224 | 5=>5 | 9=>9 | 53=>248 | 57=>206 | 63=>257 | 64=>180 | n=>n,fun | n=>n⟩
theorem zIS:Go.Proofs.SlLaysM.n6 Tryz.prog zLi:={
 mixed:=by kernel_rfl
 f6:=⟨Tryz.f104.name,by decide,Tryz.func104.trans (congrArg some (by kernel_rfl))⟩
 f8:=Tryz.func126.trans (congrArg some (by kernel_rfl))
 f9:=⟨Tryz.f125.name,by decide,Tryz.func125.trans (congrArg some (by kernel_rfl))⟩
 f19:=Tryz.func141.trans (congrArg some (by kernel_rfl))
 f20:=Tryz.func142.trans (congrArg some (by kernel_rfl))
 f21:=⟨Tryz.f132.name,by decide,Tryz.func132.trans (congrArg some (by kernel_rfl))⟩
 f22:=⟨Tryz.f133.name,by decide,Tryz.func133.trans (congrArg some (by kernel_rfl))⟩
 f23:=⟨Tryz.f134.name,by decide,Tryz.func134.trans (congrArg some (by kernel_rfl))⟩
 f24:=⟨Tryz.f135.name,by decide,Tryz.func135.trans (congrArg some (by kernel_rfl))⟩
 f25:=⟨Tryz.f136.name,by decide,Tryz.func136.trans (congrArg some (by kernel_rfl))⟩
 f26:=⟨Tryz.f137.name,by decide,Tryz.func137.trans (congrArg some (by kernel_rfl))⟩
 f27:=⟨Tryz.f138.name,by decide,Tryz.func138.trans (congrArg some (by kernel_rfl))⟩
 f28:=⟨Tryz.f139.name,by decide,Tryz.func139.trans (congrArg some (by kernel_rfl))⟩
 f29:=⟨Tryz.f140.name,by decide,Tryz.func140.trans (congrArg some (by kernel_rfl))⟩
 f31:=Tryz.func151.trans (congrArg some (by kernel_rfl))
 f32:=Tryz.func152.trans (congrArg some (by kernel_rfl))
 f36:=⟨Tryz.f150.name,by decide,Tryz.func150.trans (congrArg some (by kernel_rfl))⟩
 f37:=⟨Tryz.f153.name,by decide,Tryz.func153.trans (congrArg some (by kernel_rfl))⟩
 f38:=⟨Tryz.f154.name,by decide,Tryz.func154.trans (congrArg some (by kernel_rfl))⟩
 f39:=⟨Tryz.f155.name,by decide,Tryz.func155.trans (congrArg some (by kernel_rfl))⟩
 f41:=⟨Tryz.f161.name,by decide,Tryz.func161.trans (congrArg some (by kernel_rfl))⟩
 t0:=Tryz.underlying0
 a0:=Tryz.isAgg0
 z0:=Tryz.sizeOf0
 v0:=Tryz.zeroValue0
 t3:=Tryz.underlying3
 a3:=Tryz.isAgg3
 z3:=Tryz.sizeOf3
 v3:=Tryz.zeroValue3
 t4:=Tryz.underlying4
 a4:=Tryz.isAgg4
 z4:=Tryz.sizeOf4
 v4:=Tryz.zeroValue4
 t5:=Tryz.underlying5
 a5:=Tryz.isAgg5
 z5:=Tryz.sizeOf5
 v5:=Tryz.zeroValue5
 t9:=Tryz.underlying9
 a9:=Tryz.isAgg9
 z9:=Tryz.sizeOf9
 v9:=Tryz.zeroValue9
 t26:=Tryz.underlying71
 a26:=Tryz.isAgg71
 z26:=Tryz.sizeOf71
 v26:=Tryz.zeroValue71
 t27:=Tryz.underlying71
 a27:=Tryz.isAgg71
 z27:=Tryz.sizeOf71
 v27:=Tryz.zeroValue71
 t29:=Tryz.underlying9
 a29:=Tryz.isAgg9
 z29:=Tryz.sizeOf9
 v29:=Tryz.zeroValue9
 t32:=Tryz.underlying40
 a32:=Tryz.isAgg40
 z32:=Tryz.sizeOf40
 v32:=Tryz.zeroValue40
 t35:=Tryz.underlying232
 a35:=Tryz.isAgg232
 z35:=Tryz.sizeOf232
 v35:=Tryz.zeroValue232
 t36:=Tryz.underlying233
 a36:=Tryz.isAgg233
 z36:=Tryz.sizeOf233
 v36:=Tryz.zeroValue233
 t41:=Tryz.underlying224
 a41:=Tryz.isAgg224
 z41:=Tryz.sizeOf224
 v41:=Tryz.zeroValue224
 t44:=Tryz.underlying213
 a44:=Tryz.isAgg213
 z44:=Tryz.sizeOf213
 v44:=Tryz.zeroValue213
 t46:=Tryz.underlying33
 a46:=Tryz.isAgg33
 z46:=Tryz.sizeOf33
 v46:=Tryz.zeroValue33
 t53:=Tryz.underlying248
 a53:=Tryz.isAgg248
 z53:=Tryz.sizeOf248
 v53:=Tryz.zeroValue248
 t57:=Tryz.underlying206
 a57:=Tryz.isAgg206
 z57:=Tryz.sizeOf206
 v57:=Tryz.zeroValue206
 t63:=Tryz.underlying257
 a63:=Tryz.isAgg257
 z63:=Tryz.sizeOf257
 v63:=Tryz.zeroValue257
 t64:=Tryz.underlying180
 a64:=Tryz.isAgg180
 z64:=Tryz.sizeOf180
 v64:=Tryz.zeroValue180 }
end
section
open Go Go.Sep
abbrev jA (ss:List (List UInt8)):List (List UInt8):=ss.mergeSort fun x y=>decide (x ≤ y)
section
variable {B w:World} {Γ:List zC}
theorem holds_grow (h:Holds B Γ w) (os:Array Obj):Holds B Γ (Sort.grow w os):=by
 obtain ⟨l⟩:=os
 induction l generalizing w with
 | nil=>simpa [Sort.grow] using h
 | cons o l ih=>
  have h1:=ih (h.alloc o).tail
  have e:Sort.grow { w with heap:=w.heap.push o } ⟨l⟩ = Sort.grow w ⟨o::l⟩:=by
   have e2:w.heap.push o++(⟨l⟩:Array Obj) = w.heap++(⟨o::l⟩:Array Obj):=by
    apply Array.ext'
    rw [Array.toList_append,Array.toList_append,Array.toList_push,List.append_assoc]
    rfl
   unfold Sort.grow
   rw [← e2]
  rw [e] at h1
  exact h1
theorem zCs {s:Sl} {ss:List (List UInt8)} {k:K} (hl:ss.length ≤ 1000000) (h:Holds B (SlC q9 1 s (ss.map x9)::Γ) w) (hk:∀ w,Holds B (SlC q9 1 s ((jA ss).map x9)::Γ) w→k w):qO.call s k w:=by
 have hsc:=h.jd
 have hn:ss.length = s.n:=by have:=hsc.1; simpa using this
 unfold qO.call zY
 cases ha:s.a with
 | none=>
  have hs0:s.n = 0:=by have:=hsc.2.2.2 ha; omega
  have hss:ss = []:=List.length_eq_zero_iff.1 (by omega)
  subst hss
  have h1:=AnyM.slices_Sort_string_none zIS none s.c w
  have e:[Sl.val s].toArray = #[.slice none 0 s.c]:=by
   show #[Value.slice s.a s.n s.c] = _
   rw [ha,hs0]
  rw [e]
  refine Calls.mono h1 fun e w' he=>?_
  obtain ⟨rfl,rfl⟩:=he
  exact ⟨rfl,hk _ (by simpa [jA] using h)⟩
 | some a=>
  obtain ⟨cs,fz,h,hsp,hf,hsz,hr,hlen,hc⟩:=zNH h ha
  obtain ⟨b,off,sp⟩:=a
  simp only at hsp
  subst hsp
  simp only at h hf hsz hr
  have hb:=h.block
  have hH:Sort.Holds Proofs.encStr w b off ss.toArray:=fun j hj=>by
   simp only [List.size_toArray] at hj
   have h1:=hr j (by simpa using hj)
   constructor
   ·refine qX hb ?_
    rw [h1,List.getElem?_map,List.getElem?_eq_getElem hj]
    simp [getElem!_pos,hj]
   ·exact jM hb (hf _ (by omega) (by omega))
  have h1:=AnyM.slices_Sort_string zIS b off s.c ss w hH (Array.getElem?_eq_some_iff.1 hb).1 (by omega)
  have e:[Sl.val s].toArray = #[.slice (some ⟨b,off,none⟩) ss.length s.c]:=by
   show #[Value.slice s.a s.n s.c] = _
   rw [ha,hn]
  rw [e]
  refine Calls.mono h1 fun e w' he=>?_
  obtain ⟨rfl,n,os,rfl⟩:=he
  refine ⟨rfl,hk _ ?_⟩
  have h2:Holds B (blk b (.cells cs q9 fz)::Γ) (Sort.ahead w n):=h.drew _
  have h3:=h2.setBlock (o':=.cells (Sort.putCells Proofs.encStr off (jA ss).toArray cs) q9 fz) rfl
  have e2:({ (Sort.ahead w n) with heap:=(Sort.ahead w n).heap.setIfInBounds b (.cells (Sort.putCells Proofs.encStr off (jA ss).toArray cs) q9 fz) }:World) = Sort.putRow Proofs.encStr (Sort.ahead w n) b off (jA ss).toArray:=by
   have harr:(Sort.ahead w n).heap.setIfInBounds b (.cells (Sort.putCells Proofs.encStr off (jA ss).toArray cs) q9 fz) = (Sort.ahead w n).heap.modify b (Sort.onCells (Sort.putCells Proofs.encStr off (jA ss).toArray)):=by
    apply Array.ext_getElem?
    intro i
    rw [Array.getElem?_modify]
    by_cases hi:b = i
    ·subst hi
     rw [if_pos rfl,h2.block,Array.getElem?_setIfInBounds_self_of_lt (Array.getElem?_eq_some_iff.1 h2.block).1]
     rfl
    ·rw [if_neg hi,Array.getElem?_setIfInBounds_ne hi]
   unfold Sort.putRow Sort.mapBlock
   rw [← harr]
  rw [e2] at h3
  have h4:=holds_grow h3 os
  have hsl:(jA ss).length = ss.length:=by simp [jA]
  refine zNI (a:=⟨b,off,none⟩) ha h4 ⟨rfl,hf,?_,fun i hi=>?_,by rw [List.length_map,hsl]; simpa using hlen,hc⟩
  ·have:(Sort.putCells Proofs.encStr off (jA ss).toArray cs).size = cs.size:=by simp [Sort.putCells]
   rw [this]; exact hsz
  ·simp only [List.length_map] at hi
   unfold Sort.putCells
   rw [Array.getElem?_mapIdx]
   have hlt:off + i < cs.size:=by omega
   rw [Array.getElem?_eq_getElem hlt,Option.map_some,if_pos (by simp; omega),List.getElem?_map,List.getElem?_eq_getElem hi,Option.map_some,Nat.add_sub_cancel_left,getElem!_pos (jA ss).toArray i (by simpa using hi)]
   simp
end
end
end Go.Proofs.YtgmbfnboiobeaaaGreat
namespace Go.Sep
section
open Go Go.RowKit Go.MapKept
section
variable {α β:Type} [DecidableEq α] {P:Program} {B w:World} {Γ:List zC} {enc:α→Value} {cV:β→Value}
def zHj (es:Array MapEntry) (seen:Array Nat) (m:List (α×β)):List (α×β):=((es.toList.zip m).filter fun p=>!seen.contains p.1.born).map Prod.snd
structure ItF (enc:α→Value) (cV:β→Value) (es:Array MapEntry) (c:Nat) (seen:Array Nat) (m left:List (α×β)) (cur:Option (α×β)):Prop where
 rel:zCF enc cV es m
 st:stamps es c
 lf:left = zHj es seen m
 cnt:seen.size + left.length = m.length
 cur:∀ p,cur = some p→∃ (seen':Array Nat) (e:MapEntry),seen = seen'.push e.born∧e ∈ es.toList∧e.key = enc p.1∧e.val = cV p.2
def vN (enc:α→Value) (cV:β→Value) (b r:Nat) (m left:List (α×β)) (cur:Option (α×β)):zC:=ex fun es:Array MapEntry=>ex fun c:Nat=>ex fun seen:Array Nat=>
 stars [pur (ItF enc cV es c seen m left cur),blk b (.map es c),blk r (.mapIter (some b) c seen c)]
theorem vN.opens {b r:Nat} {m left:List (α×β)} {cur:Option (α×β)} (h:Holds B (vN enc cV b r m left cur::Γ) w):∃ es c seen,ItF enc cV es c seen m left cur∧Holds B (blk b (.map es c)::blk r (.mapIter (some b) c seen c)::Γ) w:=by
 obtain ⟨es,h⟩:=Holds.ex.1 h
 obtain ⟨c,h⟩:=Holds.ex.1 h
 obtain ⟨seen,h⟩:=Holds.ex.1 h
 obtain ⟨hp,h⟩:=Holds.pur.1 (Holds.flat.1 h)
 exact ⟨es,c,seen,hp,h⟩
theorem vN.shuts {b r:Nat} {m left:List (α×β)} {cur:Option (α×β)} {es:Array MapEntry} {c:Nat} {seen:Array Nat} (hp:ItF enc cV es c seen m left cur) (h:Holds B (blk b (.map es c)::blk r (.mapIter (some b) c seen c)::Γ) w):Holds B (vN enc cV b r m left cur::Γ) w :=
 Holds.ex.2 ⟨es,Holds.ex.2 ⟨c,Holds.ex.2 ⟨seen,Holds.flat.2 (Holds.pur.2 ⟨hp,h⟩)⟩⟩⟩
theorem vN.ends {b r:Nat} {m left:List (α×β)} {cur:Option (α×β)} (h:Holds B (vN enc cV b r m left cur::Γ) w):Holds B (qK enc cV b m::Γ) w:=by
 obtain ⟨es,c,seen,hp,h⟩:=vN.opens h
 exact qK.shuts ⟨hp.rel,hp.st⟩ (h.del 1 rfl)
theorem zG9 {es:Array MapEntry} {m:List (α×β)} (h:zCF enc cV es m):es.toList.length = m.length:=by have:=congrArg List.length h; simpa using this
theorem zKL {es:Array MapEntry} {m:List (α×β)} (h:zCF enc cV es m):∀ p ∈ es.toList.zip m,p.1.key = enc p.2.1∧p.1.val = cV p.2.2:=by
 intro p hp
 obtain ⟨i,hi⟩:=List.getElem?_of_mem hp
 rw [List.getElem?_zip_eq_some] at hi
 have:=zDp h i
 rw [hi.1,hi.2] at this
 simp only [Option.map_some,Option.some.injEq,Prod.mk.injEq] at this
 exact this
theorem zIT {T E:TypeId} {d:TypeDesc} {b:Nat} {m:List (α×β)} {k:Option Addr→K} (hT:zAf P T d E) (h:Holds B (qK enc cV b m::Γ) w) (hk:∀ r w,Holds B (vN enc cV b r m m none::Γ) w→k (some ⟨r,0,none⟩) w) :
  Do P (Instr.range T (.map (some b))) Value.pointer k w:=by
 obtain ⟨kt,hT,hd⟩:=hT
 obtain ⟨es,c,⟨hr,hst⟩,h⟩:=qK.opens h
 have hb:=h.block
 refine ⟨some ⟨w.heap.size,0,none⟩,{ w with heap:=w.heap.push (.mapIter (some b) c #[] c) },?_,hk _ _ (vN.shuts (seen:=#[]) ⟨hr,hst,?_,by simp,fun p hp=>by cases hp⟩ (h.alloc _).swap)⟩
 ·unfold Instr.range
  simp only [Sem.run_bind,run_underlying hT,Result.andThen,MapKept.run_getObj_map hb,Sem.run_pure]
  rfl
 ·unfold zHj
  have e:(es.toList.zip m).filter (fun p=>!(#[]:Array Nat).contains p.1.born) = es.toList.zip m:=List.filter_eq_self.2 (fun p _=>by simp)
  rw [e,List.map_snd_zip (by rw [zG9 hr]; exact Nat.le_refl _)]
theorem zCt {es:List MapEntry} {m:List (α×β)} (seen:Array Nat) (hn:(es.map (·.born)).Nodup) (hl:es.length = m.length) {e:MapEntry} (he:e ∈ es.filter (fun e=>!seen.contains e.born)) :
  ∃ l1 p l2,(e,p) ∈ es.zip m∧((es.zip m).filter fun p=>!seen.contains p.1.born).map Prod.snd = l1++p::l2∧((es.zip m).filter fun p=>!(seen.push e.born).contains p.1.born).map Prod.snd = l1++l2:=by
 induction es generalizing m with
 | nil=>simp at he
 | cons x es ih=>
  cases m with
  | nil=>simp at hl
  | cons q m=>
   simp only [List.map_cons,List.nodup_cons] at hn
   simp only [List.zip_cons_cons]
   by_cases hx:x = e
   ·subst hx
    have hxs:(!seen.contains x.born) = true:=(List.mem_filter.1 he).2
    refine ⟨[],q,((es.zip m).filter fun p=>!seen.contains p.1.born).map Prod.snd,List.mem_cons_self,?_,?_⟩
    ·simp only [List.filter_cons]; rw [if_pos hxs]; rfl
    ·simp only [List.filter_cons]
     rw [if_neg (by simp)]
     simp only [List.nil_append]
     congr 1
     refine List.filter_congr fun p hp=>?_
     have hpe:p.1.born ≠ x.born:=fun heq=>hn.1 (by rw [← heq]; exact List.mem_map_of_mem (List.of_mem_zip hp).1)
     simp [Array.contains_push,hpe]
   ·have he2:e ∈ es.filter (fun e=>!seen.contains e.born):=by
     have h1:=List.mem_filter.1 he
     rcases List.mem_cons.1 h1.1 with h2 | h2
     ·exact absurd h2.symm hx
     ·exact List.mem_filter.2 ⟨h2,h1.2⟩
    obtain ⟨l1,p,l2,h1,h2,h3⟩:=ih hn.2 (by simpa using hl) he2
    have hxb:x.born ≠ e.born:=fun heq=>hn.1 (by rw [heq]; exact List.mem_map_of_mem (List.mem_filter.1 he2).1)
    by_cases hs:(!seen.contains x.born) = true
    ·refine ⟨q::l1,p,l2,List.mem_cons_of_mem _ h1,?_,?_⟩
     ·simp only [List.filter_cons]
      rw [if_pos hs,List.map_cons,h2]; rfl
     ·simp only [List.filter_cons]
      rw [if_pos (by simp [Array.contains_push,hxb] at hs ⊢; exact hs),List.map_cons,h3]; rfl
    ·refine ⟨l1,p,l2,List.mem_cons_of_mem _ h1,?_,?_⟩
     ·simp only [List.filter_cons]
      rw [if_neg hs,h2]
     ·simp only [List.filter_cons]
      rw [if_neg (by simp [Array.contains_push,hxb] at hs ⊢; exact hs),h3]
theorem zKM {b r:Nat} {m left:List (α×β)} {cur:Option (α×β)} {k:Value→K} (h:Holds B (vN enc cV b r m left cur::Γ) w)
  (h0:left = []→∀ w,Holds B (qK enc cV b m::Γ) w→k (.tuple #[.bool false]) w)
  (h1:∀ l1 p l2 w,left = l1++p::l2→p ∈ m→Holds B (vN enc cV b r m (l1++l2) (some p)::Γ) w→k (.tuple #[.bool true,enc p.1,cV p.2]) w) :
  Do P (Instr.next (.pointer (some ⟨r,0,none⟩)) false 0) id k w:=by
 have hend:=vN.ends h
 obtain ⟨es,c,seen,hp,h⟩:=vN.opens h
 have hb:=h.block
 have hr:=h.tail.block
 rcases run_next_at (P:=P) w 0 r b c c seen es c hr hb hp.st.2 (Nat.le_refl _) with ⟨hz,hrun⟩ | ⟨e,he,w1,hw1,hrun⟩
 ·refine ⟨_,w,hrun,h0 ?_ w hend⟩
  rw [hp.lf]
  unfold zHj
  have hnone:es.toList.filter (fun e=>!seen.contains e.born) = []:=by
   have:(leftOf es seen).toList.length = 0:=by simpa using hz
   unfold leftOf at this
   rw [Array.toList_filter] at this
   exact List.length_eq_zero_iff.1 this
  have:(es.toList.zip m).filter (fun p=>!seen.contains p.1.born) = []:=by
   rw [List.filter_eq_nil_iff] at hnone ⊢
   intro p hpz
   exact hnone p.1 (List.of_mem_zip hpz).1
  rw [this]; rfl
 ·have he2:e ∈ es.toList.filter (fun e=>!seen.contains e.born):=by
   unfold leftOf at he
   rw [Array.toList_filter] at he
   exact he
  obtain ⟨l1,p,l2,hz,hl,hl2⟩:=zCt seen hp.st.1 (zG9 hp.rel) he2
  have hkv:=zKL hp.rel _ hz
  simp only at hkv
  refine ⟨_,_,hrun,?_⟩
  show k (.tuple #[.bool true,e.key,e.val]) _
  rw [hkv.1,hkv.2]
  have hw:∃ w',w1 = w'∧Holds B (blk b (.map es c)::blk r (.mapIter (some b) c seen c)::Γ) w':=by
   rcases hw1 with rfl | rfl
   ·exact ⟨_,rfl,h⟩
   ·exact ⟨_,rfl,h.drew _⟩
  obtain ⟨w',rfl,h⟩:=hw
  refine h1 l1 p l2 _ (by rw [hp.lf]; exact hl) (List.of_mem_zip hz).2 (vN.shuts (es:=es) (c:=c) (seen:=seen.push e.born) ⟨hp.rel,hp.st,hl2.symm,?_,fun q hq=>?_⟩ ?_)
  ·have h3:=hp.cnt
   have h4:left = l1++p::l2:=by rw [hp.lf]; exact hl
   rw [h4] at h3
   simp only [List.length_append,List.length_cons,Array.size_push] at h3 ⊢
   omega
  ·cases hq
   exact ⟨seen,e,rfl,(List.of_mem_zip hz).1,hkv.1,hkv.2⟩
  ·exact (h.swap.setBlock (o':=.mapIter (some b) c (seen.push e.born) c) rfl).swap
def zDr (r n:Nat) (w:World):Nat:=match w.heap[r]? with
 | some (.mapIter _ _ seen _)=>n - seen.size
 | _=>0
theorem zCI {b r:Nat} {m left:List (α×β)} {cur:Option (α×β)} (h:Holds B (vN enc cV b r m left cur::Γ) w):zDr r m.length w = left.length:=by
 obtain ⟨es,c,seen,hp,h⟩:=vN.opens h
 have:=hp.cnt
 unfold zDr
 rw [h.tail.block]
 simp only
 omega
theorem zIU {b r:Nat} {m left:List (α×β)} {p:α×β} {k:Value→K} (h:Holds B (vN enc cV b r m left (some p)::Γ) w) (hk:k (.tuple #[enc p.1,cV p.2]) w) :
  Do P (Instr.entry (.pointer (some ⟨r,0,none⟩))) id k w:=by
 obtain ⟨es,c,seen,hp,h⟩:=vN.opens h
 obtain ⟨seen',e,hs,he,hk1,hk2⟩:=hp.cur p rfl
 subst hs
 refine ⟨_,w,run_entry_at (P:=P) w r b c seen' es c e h.tail.block h.block he hp.st.1,?_⟩
 show k (.tuple #[e.key,e.val]) w
 rw [hk1,hk2]
 exact hk
theorem zFJ {zv:Value} {T E:TypeId} {d:TypeDesc} {b:Nat} {m:List (α×β)} {a:α} (hT:zAf P T d E) (hE:zDZ d enc) (hz:uP P E zv) {es:Array MapEntry} {c:Nat} (hb:w.heap[b]? = some (.map es c)) (hr:zCF enc cV es m) (ok:Bool) :
  (Instr.lookup T (.map (some b)) (enc a) ok).run P w = .ok (if ok then .tuple #[((zW a m).map cV).getD zv,.bool (zW a m).isSome] else ((zW a m).map cV).getD zv) w:=by
 obtain ⟨kt,hT,hd⟩:=hT
 unfold Instr.lookup
 simp only [Sem.run_bind,run_underlying hT,Result.andThen,MapKept.run_getObj_map hb,run_checkKey hd (hE.key a),Sem.run_pure]
 rcases zGC hE hr a with ⟨h1,h2,_⟩ | ⟨j,x,h1,_,_,h2,_⟩
 ·simp only [run_findKey hd h1,Result.andThen,Sem.run_bind,uf hz,Sem.run_pure,h2]
  cases ok <;> rfl
 ·simp only [run_findKey hd h1,Result.andThen,Sem.run_bind,Sem.run_pure,h2]
  cases ok <;> rfl
end
end
end Go.Sep
namespace Go.Proofs.YtgmbfnboiobeaaaGreat
section
open Go Go.Sep
theorem jg:zDZ .string x9:=⟨fun _=>trivial,fun a b h=>by
 have h1:bs a = bs b:=by injection h
 have h2:=congrArg (fun x:ByteArray=>x.data.toList) h1
 simpa using h2,fun a=>zG2.bits (bs a)⟩
theorem zHk {l l':List (List UInt8)} (h:l.Perm l'):jA l = jA l':=by
 have tr:∀ a b c:List UInt8,decide (a ≤ b) = true→decide (b ≤ c) = true→decide (a ≤ c) = true:=fun a b c h1 h2=>by
  simp only [decide_eq_true_eq] at *
  exact List.le_trans h1 h2
 have tot:∀ a b:List UInt8,(decide (a ≤ b) || decide (b ≤ a)) = true:=fun a b=>by
  simp only [Bool.or_eq_true,decide_eq_true_eq]
  exact List.le_total a b
 refine List.Perm.eq_of_pairwise (le:=fun a b=>decide (a ≤ b) = true) (fun a b _ _ h1 h2=>?_) (List.pairwise_mergeSort tr tot l) (List.pairwise_mergeSort tr tot l') ?_
 ·simp only [decide_eq_true_eq] at h1 h2
  exact List.le_antisymm h1 h2
 ·exact ((List.mergeSort_perm l _).trans h).trans (List.mergeSort_perm l' _).symm
theorem zIx (l:List (List UInt8)):(jA l).length = l.length:=(List.mergeSort_perm l _).length_eq
theorem zIy {l:List (List UInt8)} {x:List UInt8}:x ∈ jA l ↔ x ∈ l:=(List.mergeSort_perm l _).mem_iff
abbrev SlS (s:Sl) (ss:List (List UInt8)):zC:=SlC q9 1 s (ss.map x9)
end
section
open Go Go.Sep
theorem zEq:zAf Tryz.prog qV .string vJ:=⟨9,by kernel_rfl,by kernel_rfl⟩
section
variable {B w:World} {Γ:List zC} {β:Type} {cV:β→Value}
theorem zBQ {mb t1:Nat} {m:List (List UInt8×β)} {k:Sl→K} (hm:m.length ≤ 1000000) (h:Holds B (blk t1 (.cells #[.map (some mb)] qV (0,0))::qK x9 cV mb m::Γ) w)
  (hk:∀ s ss w,ss.Perm (m.map Prod.fst)→Holds B (SlS s ss::qK x9 cV mb m::Γ) w→k s w):qF.call (.func (.func 105) #[] #[.pointer (some ⟨t1,0,none⟩)]) k w:=by
 refine zAA _ _ _ ?_
 unfold qF
 refine vZ _ _ _ _ ?_
 unfold yT
 refine vX h ?_
 clear h
 intro s2 w h
 try simp only [yB,Nat.zero_add,Nat.reduceAdd]
 refine zGW h rfl (by kernel_rfl) fun D l r w hr1 hr2 h hy=>?_
 refine zD0 (qy (yv l) ⟨t1,0,none⟩ (fun w3=>∃ Δ,Holds B (blk l (.loop r)::Δ) w3∧∀ w,Holds B Δ w→(Ld ⟨s2,0,none⟩ Sl.val fun t12=>vT D (k t12)) w) w ?_) fun v w h=>h.2
 unfold zL
 refine xI (x:=(some mb)) h rfl (by first | with_reducible exact M0 | with_reducible exact M1 | with_reducible exact M2 | with_reducible exact M3 | with_reducible exact M4 | with_reducible exact M5 | with_reducible exact M6 | with_reducible exact M7 | with_reducible exact M8 | with_reducible exact M9 | with_reducible exact M10 | with_reducible exact M11 | with_reducible exact M12) ?_ ?_
 ·exact rfl
 replace h:=P3 h
 replace h:=P3 h
 replace h:=P3 h
 replace h:=P3 h
 replace h:=P4 h
 try simp only [N1,N2,N3,N4,N5,N6,N7] at h
 refine zIT zEq h fun r2 w h=>?_
 replace h:=h.del 4 at4
 try simp only [N1,N2,N3,N4,N5,N6,N7] at h
 have h0:=(h.zAJ q9 1)
 refine yY.of (fun _ w=>∃ (o:Sl) (ss:List (List UInt8)) (left:List (List UInt8×β)) (cur:Option (List UInt8×β)),(ss++left.map Prod.fst).Perm (m.map Prod.fst) ∧
   Holds B (blk l (.loop r)::blk D (.deferred (some []))::blk s2 (.cells #[o.val] zDC (0,0))::SlS o ss::vN x9 cV mb r2 m left cur::Γ) w)
  (fun _ w=>zDr r2 m.length w) ⟨⟨none,0,0⟩,[],m,none,List.Perm.refl _,?_⟩ ?_
 ·replace h:=h0
  replace h:=P1 h
  replace h:=P1 h
  replace h:=P4 h
  replace h:=P4 h
  replace h:=P4 h
  try simp only [N1,N2,N3,N4,N5,N6,N7] at h
  exact h
 clear h h0
 rintro _ w ⟨o,ss,left,cur,hperm,h⟩
 have hcnt:=zCI (h.pick 4 at4)
 have hlen:=hperm.length_eq
 simp only [List.length_append,List.length_map] at hlen
 unfold zL.b1
 replace h:=P3 h
 replace h:=P3 h
 replace h:=P3 h
 replace h:=P3 h
 replace h:=P4 h
 try simp only [N1,N2,N3,N4,N5,N6,N7] at h
 refine zKM h (fun hl0 w h=>?_) (fun l1 p l2 w hl1 hpm h=>?_)
 ·refine ⟨_,false,rfl,rfl,?_⟩
  refine zk rfl ?_
  replace h:=P4 h
  replace h:=P4 h
  replace h:=P4 h
  replace h:=P4 h
  try simp only [N1,N2,N3,N4,N5,N6,N7] at h
  refine ⟨_,h,fun w h=>?_⟩
  refine xI (x:=o) h rfl (by first | with_reducible exact M0 | with_reducible exact M1 | with_reducible exact M2 | with_reducible exact M3 | with_reducible exact M4 | with_reducible exact M5 | with_reducible exact M6 | with_reducible exact M7 | with_reducible exact M8 | with_reducible exact M9 | with_reducible exact M10 | with_reducible exact M11 | with_reducible exact M12) ?_ ?_
  ·exact rfl
  refine zFg h fun w h=>?_
  replace h:=P2 h
  replace h:=P2 h
  replace h:=D2 h
  try simp only [N1,N2,N3,N4,N5,N6,N7] at h
  rw [hl0] at hperm
  simp only [List.map_nil,List.append_nil] at hperm
  exact hk o ss _ hperm h
 ·refine ⟨_,true,rfl,rfl,?_⟩
  refine qN rfl ?_
  refine zIU h ?_
  refine ⟨_,bs p.1,rfl,rfl,?_⟩
  replace h:=P4 h
  replace h:=P4 h
  replace h:=P4 h
  replace h:=P4 h
  try simp only [N1,N2,N3,N4,N5,N6,N7] at h
  refine zD1 (hy (bs p.1) (fun w=>∃ o',Holds B (blk l (.loop r)::blk D (.deferred (some []))::blk s2 (.cells #[Sl.val o'] zDC (0,0))::SlS o' (ss++[p.1])::vN x9 cV mb r2 m (l1++l2) (some p)::Γ) w) w _ h fun W h=>?_) fun v w hv=>?_
  ·have hon:ss.length = o.n:=by have:=(h.pick 3 at3).jd.1; simpa using this
   refine xI (x:=o) h rfl (by first | with_reducible exact M0 | with_reducible exact M1 | with_reducible exact M2 | with_reducible exact M3 | with_reducible exact M4 | with_reducible exact M5 | with_reducible exact M6 | with_reducible exact M7 | with_reducible exact M8 | with_reducible exact M9 | with_reducible exact M10 | with_reducible exact M11 | with_reducible exact M12) ?_ ?_
   ·exact rfl
   refine vX h ?_
   clear h
   intro t10 w h
   try simp only [yB,Nat.zero_add,Nat.reduceAdd]
   refine zAu (us:=[x9 p.1]) (h.pick 4 at4) (by kernel_rfl) (by kernel_rfl) (by':=16) (by kernel_rfl) zD9 rfl (RdC.zF3 (E:=q9) (b:=t10) (n:=1) (vs:=[x9 p.1]) (cs:=#[x9 p.1]) h List.mem_cons_self rfl rfl 1) (by simp [qj]) (by simp only; omega) (by decide) fun o' w h _ _=>?_
   try simp only [N1,N2,N3,N4,N5,N6,N7] at h
   first | refine S0 h rfl ?_ rfl ?_ | refine S1 h rfl ?_ rfl ?_ | refine S2 h rfl ?_ rfl ?_ | refine S3 h rfl ?_ rfl ?_ | refine S4 h rfl ?_ rfl ?_ | refine S5 h rfl ?_ rfl ?_ | refine S6 h rfl ?_ rfl ?_ | refine S7 h rfl ?_ rfl ?_ | refine S8 h rfl ?_ rfl ?_
   ·first | exact Nat.lt_of_ble_eq_true rfl | (simp; done) | (simp; omega)
   clear h
   intro w h
   try simp only [N1,N2,N3,N4,N5,N6,N7] at h
   replace h:=P5 h
   replace h:=P1 h
   replace h:=P5 h
   replace h:=P5 h
   replace h:=P5 h
   replace h:=D5 h
   try simp only [N1,N2,N3,N4,N5,N6,N7] at h
   refine zJR h fun w h=>?_
   have e:({ ({ r with state:=.busy }:Loop) with state:=.ready,pending:=none }:Loop) = r:=by
    cases r
    simp only at hr1 hr2
    simp only [hr1,hr2]
   rw [e] at h
   refine ⟨o',?_⟩
   have e2:ss.map x9++[x9 p.1] = (ss++[p.1]).map x9:=by simp
   rw [e2] at h
   exact h
  ·obtain ⟨rfl,o',h⟩:=hv
   refine ⟨true,rfl,?_⟩
   refine zk rfl ?_
   have hcnt2:=zCI (h.pick 4 at4)
   refine ⟨⟨o',_,_,_,?_,h⟩,?_⟩
   ·refine List.Perm.trans ?_ hperm
    rw [hl1]
    simp only [List.map_append,List.map_cons,List.append_assoc]
    refine List.Perm.append_left _ ?_
    show (p.1::(l1.map Prod.fst++l2.map Prod.fst)).Perm _
    exact List.perm_middle.symm
   ·rw [hcnt,hcnt2,hl1]
    simp
theorem zCu {mb:Nat} {m:List (List UInt8×β)} {k:Sl→K} (hm:m.length ≤ 1000000) (h:Holds B (qK x9 cV mb m::Γ) w)
  (hk:∀ s w,Holds B (SlS s (jA (m.map Prod.fst))::qK x9 cV mb m::Γ) w→k s w) :
  zZ.call (some mb) (fun t7=>qL.call t7 k) w:=by
 refine xD _ _ _ ?_
 unfold zZ
 refine vX h ?_
 clear h
 intro m1 w h
 try simp only [yB,Nat.zero_add,Nat.reduceAdd]
 refine zAL _ _ _ ?_
 unfold qL
 refine zBQ hm h fun s ss w hp h=>?_
 have hl:=hp.length_eq
 rw [List.length_map] at hl
 refine zCs (by omega) h fun w h=>?_
 rw [zHk hp] at h
 exact hk _ _ h
end
end
section
open Go Go.Sep
structure qP where
 data:List UInt8
 last:Nat
structure DkA where
 room:Int
 left:Int
 down:Bool
structure zD where
 a:DkA
 files:List (List UInt8×qP)
structure yJ where
 f:qP
 p:Nat
 s:Sl
abbrev fV (x:yJ):Value:=.pointer (some ⟨x.p,0,none⟩)
abbrev fA (f:qP) (s:Sl):Array Value:=#[s.val,.int .i64 (f.last:Int)]
def fB (x:List UInt8×yJ):zC:=stars [blk x.2.p (.cells (fA x.2.f x.2.s) vQ (0,0)),Bytes zV x.2.s x.2.f.data]
abbrev dA (a:DkA) (mb:Nat):Array Value:=#[.int .i64 a.room,.map (some mb),.int .i64 a.left,.bool a.down]
abbrev xw (fs:List (List UInt8×yJ)):List (List UInt8×qP):=fs.map fun p=>(p.1,p.2.f)
def yO (d mb:Nat) (a:DkA) (fs:List (List UInt8×yJ)):zC:=stars [blk d (.cells (dA a mb) xk (0,0)),qK x9 fV mb fs,stars (fs.map fB)]
def zJ (d:Nat) (D:zD):zC:=ex fun mb:Nat=>ex fun fs:List (List UInt8×yJ)=>stars [pur (xw fs = D.files),yO d mb D.a fs]
section
variable {B w:World} {Γ:List zC}
theorem zJ.opens {d:Nat} {D:zD} (h:Holds B (zJ d D::Γ) w):∃ mb fs,xw fs = D.files∧Holds B (yO d mb D.a fs::Γ) w:=by
 obtain ⟨mb,h⟩:=Holds.ex.1 h
 obtain ⟨fs,h⟩:=Holds.ex.1 h
 obtain ⟨hp,h⟩:=Holds.pur.1 (Holds.flat.1 h)
 exact ⟨mb,fs,hp,h⟩
theorem zJ.shuts {d mb:Nat} {D:zD} {a:DkA} {fs:List (List UInt8×yJ)} (ha:a = D.a) (hp:xw fs = D.files) (h:Holds B (yO d mb a fs::Γ) w):Holds B (zJ d D::Γ) w:=by
 subst ha
 exact Holds.ex.2 ⟨mb,Holds.ex.2 ⟨fs,Holds.flat.2 (Holds.pur.2 ⟨hp,h⟩)⟩⟩
theorem yO.opens {d mb:Nat} {a:DkA} {fs:List (List UInt8×yJ)} (h:Holds B (yO d mb a fs::Γ) w):Holds B (blk d (.cells (dA a mb) xk (0,0))::qK x9 fV mb fs::stars (fs.map fB)::Γ) w:=Holds.flat.1 h
theorem yO.shuts {d mb:Nat} {a:DkA} {fs:List (List UInt8×yJ)} (h:Holds B (blk d (.cells (dA a mb) xk (0,0))::qK x9 fV mb fs::stars (fs.map fB)::Γ) w):Holds B (yO d mb a fs::Γ) w:=Holds.flat.2 h
theorem yu {α β:Type} [DecidableEq α] {k:α} {x:β}:∀ {m:List (α×β)},zW k m = some x→∃ l1 l2,m = l1++(k,x)::l2∧(∀ v,yN k v m = l1++(k,v)::l2)∧xU k m = l1++l2∧∀ p ∈ l1,p.1 ≠ k
 | [],h=>by cases h
 | p::m,h=>by
  by_cases hk:k = p.1
  ·simp only [zW,if_pos hk,Option.some.injEq] at h
   subst h
   refine ⟨[],m,by rw [hk]; rfl,fun v=>by simp [yN,hk],by simp [xU,hk],by simp⟩
  ·simp only [zW,if_neg hk] at h
   obtain ⟨l1,l2,h1,h2,h3,h4⟩:=yu h
   refine ⟨p::l1,l2,by rw [h1]; rfl,fun v=>by simp [yN,hk,h2],by simp [xU,hk,h3],fun q hq=>?_⟩
   rcases List.mem_cons.1 hq with rfl | hq
   ·exact fun e=>hk e.symm
   ·exact h4 q hq
theorem zHl {mb:Nat} {fs fs':List (List UInt8×yJ)} (he:fs.map (fun p=>(x9 p.1,fV p.2)) = fs'.map fun p=>(x9 p.1,fV p.2)) (h:Holds B (qK x9 fV mb fs::Γ) w):Holds B (qK x9 fV mb fs'::Γ) w:=by
 obtain ⟨es,c,⟨hr,hst⟩,h⟩:=qK.opens h
 exact qK.shuts ⟨hr.trans he,hst⟩ h
theorem zAN {L M:List zC}:Holds B (stars (L++M)::Γ) w ↔ Holds B (stars L::stars M::Γ) w:=by
 constructor
 ·intro h
  have h1:Holds B ((L++M)++Γ) w:=Holds.flat.1 h
  rw [List.append_assoc] at h1
  have h2:Holds B (M++(L++Γ)) w:=h1.perm (by rw [← List.append_assoc,← List.append_assoc]; exact List.perm_append_comm.append_right Γ)
  have h3:Holds B (stars M::(L++Γ)) w:=Holds.flat.2 h2
  have h4:Holds B (L++(stars M::Γ)) w:=h3.perm List.perm_middle.symm
  exact Holds.flat.2 h4
 ·intro h
  have h1:Holds B (L++(stars M::Γ)) w:=Holds.flat.1 h
  have h2:Holds B (stars M::(L++Γ)) w:=h1.perm List.perm_middle
  have h3:Holds B (M++(L++Γ)) w:=Holds.flat.1 h2
  refine Holds.flat.2 (h3.perm ?_)
  rw [← List.append_assoc]
  exact List.perm_append_comm.append_right Γ
theorem zBn {A:zC} {L:List zC}:Holds B (stars (A::L)::Γ) w ↔ Holds B (A::stars L::Γ) w:=by
 constructor
 ·intro h
  have h1:Holds B (A::(L++Γ)) w:=Holds.flat.1 h
  have h2:Holds B (L++(A::Γ)) w:=h1.perm List.perm_middle.symm
  exact (Holds.flat.2 h2:Holds B (stars L::A::Γ) w).swap
 ·intro h
  have h1:Holds B (L++(A::Γ)) w:=Holds.flat.1 h.swap
  have h2:Holds B (A::(L++Γ)) w:=h1.perm List.perm_middle
  exact Holds.flat.2 h2
theorem jh {l1 l2:List (List UInt8×yJ)} {n:List UInt8} {x:yJ} (h:Holds B (stars ((l1++(n,x)::l2).map fB)::Γ) w) :
  Holds B (blk x.p (.cells (fA x.f x.s) vQ (0,0))::Bytes zV x.s x.f.data::stars (l1.map fB)::stars (l2.map fB)::Γ) w:=by
 rw [List.map_append,List.map_cons] at h
 have h1:=(zAN.1 h).swap
 have h2:Holds B (fB (n,x)::stars (l2.map fB)::stars (l1.map fB)::Γ) w:=zBn.1 h1
 have h3:=Holds.flat.1 h2
 simp only [List.cons_append,List.nil_append] at h3
 have h:=h3
 replace h:=P2 h
 replace h:=P3 h
 replace h:=P3 h
 replace h:=P3 h
 try simp only [N1,N2,N3,N4,N5,N6,N7] at h
 exact h
theorem zFK {l1 l2:List (List UInt8×yJ)} {n:List UInt8} {x:yJ} (h:Holds B (blk x.p (.cells (fA x.f x.s) vQ (0,0))::Bytes zV x.s x.f.data::stars (l1.map fB)::stars (l2.map fB)::Γ) w) :
  Holds B (stars ((l1++(n,x)::l2).map fB)::Γ) w:=by
 replace h:=P2 h
 replace h:=P3 h
 replace h:=P3 h
 replace h:=P3 h
 try simp only [N1,N2,N3,N4,N5,N6,N7] at h
 have h1:Holds B (fB (n,x)::stars (l2.map fB)::stars (l1.map fB)::Γ) w:=Holds.flat.2 h
 have h2:Holds B (stars (fB (n,x)::l2.map fB)::stars (l1.map fB)::Γ) w:=zBn.2 h1
 rw [List.map_append,List.map_cons]
 exact zAN.2 h2.swap
theorem zFL:uP Tryz.prog vJ (.pointer none):=zBL
abbrev zIz (o:Option yJ):Option Addr:=o.map fun x=>⟨x.p,0,none⟩
theorem zHA (o:Option yJ):(o.map fV).getD (.pointer none) = Value.pointer (zIz o):=by cases o <;> rfl
theorem zIV {mb:Nat} {fs:List (List UInt8×yJ)} {n:List UInt8} {k:Option Addr→Bool→K} (i:Nat) (h:Holds B Γ w) (hi:Γ[i]? = some (qK x9 fV mb fs)) (hk:k (zIz (zW n fs)) (zW n fs).isSome w) :
  Rd2 Tryz.prog (Instr.lookup qV (.map (some mb)) (.string (bs n)) true) (fun x y=>.tuple #[Value.pointer x,.bool y]) k w:=by
 obtain ⟨es,c,⟨hr,hst⟩,h⟩:=qK.opens (h.pick i hi)
 have:=zFJ (a:=n) zEq jg zFL h.block hr true
 exact ⟨zIz (zW n fs),_,by rw [zHA] at this; exact this,hk⟩
theorem zLj {mb:Nat} {fs:List (List UInt8×yJ)} {n:List UInt8} {k:Option Addr→K} (i:Nat) (h:Holds B Γ w) (hi:Γ[i]? = some (qK x9 fV mb fs)) (hk:k (zIz (zW n fs)) w) :
  Rd Tryz.prog (Instr.lookup qV (.map (some mb)) (.string (bs n)) false) Value.pointer k w:=by
 obtain ⟨es,c,⟨hr,hst⟩,h⟩:=qK.opens (h.pick i hi)
 have:=zFJ (a:=n) zEq jg zFL h.block hr false
 exact ⟨zIz (zW n fs),by rw [zHA] at this; exact this,hk⟩
theorem zBo {n:List UInt8} {fs:List (List UInt8×yJ)}:zW n (xw fs) = (zW n fs).map yJ.f:=zG4 (fun x:yJ=>x.f) n fs
def chg (a:DkA):DkA×Int:=if a.left = 0 then ({ a with down:=true },3) else if 0 < a.left then ({ a with left:=a.left - 1 },0) else (a,0)
def okA (a:DkA):Prop:=-9223372036854775808 < a.left∧a.left ≤ 9223372036854775807
theorem jB {d mb:Nat} {a:DkA} {fs:List (List UInt8×yJ)} {k:Int→K} (ha:okA a) (h:Holds B (yO d mb a fs::Γ) w) (hk:∀ w,Holds B (yO d mb (chg a).1 fs::Γ) w→k (chg a).2 w):zy.call (some ⟨d,0,none⟩) k w:=by
 replace h:=yO.opens h
 obtain ⟨ha1,ha2⟩:=ha
 unfold chg at hk
 refine zBP _ _ _ ?_
 unfold zy
 refine ug rfl ?_
 try simp only [yB,Nat.zero_add,Nat.reduceAdd]
 refine xI (x:=a.left) h rfl (by first | with_reducible exact M0 | with_reducible exact M1 | with_reducible exact M2 | with_reducible exact M3 | with_reducible exact M4 | with_reducible exact M5 | with_reducible exact M6 | with_reducible exact M7 | with_reducible exact M8 | with_reducible exact M9 | with_reducible exact M10 | with_reducible exact M11 | with_reducible exact M12) ?_ ?_
 ·exact rfl
 refine yc (fun hb=>?_) (fun hb=>?_)
 ·simp only [decide_eq_true_eq] at hb
  rw [if_pos hb] at hk
  first | refine S0 h rfl ?_ rfl ?_ | refine S1 h rfl ?_ rfl ?_ | refine S2 h rfl ?_ rfl ?_ | refine S3 h rfl ?_ rfl ?_ | refine S4 h rfl ?_ rfl ?_ | refine S5 h rfl ?_ rfl ?_ | refine S6 h rfl ?_ rfl ?_ | refine S7 h rfl ?_ rfl ?_ | refine S8 h rfl ?_ rfl ?_
  ·first | exact Nat.lt_of_ble_eq_true rfl | (simp; done) | (simp; omega)
  clear h
  intro w h
  try simp only [N1,N2,N3,N4,N5,N6,N7] at h
  exact hk _ (yO.shuts h)
 simp only [decide_eq_false_iff_not] at hb
 rw [if_neg hb] at hk
 refine xI (x:=a.left) h rfl (by first | with_reducible exact M0 | with_reducible exact M1 | with_reducible exact M2 | with_reducible exact M3 | with_reducible exact M4 | with_reducible exact M5 | with_reducible exact M6 | with_reducible exact M7 | with_reducible exact M8 | with_reducible exact M9 | with_reducible exact M10 | with_reducible exact M11 | with_reducible exact M12) ?_ ?_
 ·exact rfl
 refine yc (fun hb2=>?_) (fun hb2=>?_)
 ·simp only [decide_eq_true_eq] at hb2
  rw [if_pos hb2] at hk
  refine xI (x:=a.left) h rfl (by first | with_reducible exact M0 | with_reducible exact M1 | with_reducible exact M2 | with_reducible exact M3 | with_reducible exact M4 | with_reducible exact M5 | with_reducible exact M6 | with_reducible exact M7 | with_reducible exact M8 | with_reducible exact M9 | with_reducible exact M10 | with_reducible exact M11 | with_reducible exact M12) ?_ ?_
  ·exact rfl
  refine jo (by omega) (by omega) ?_
  first | refine S0 h rfl ?_ rfl ?_ | refine S1 h rfl ?_ rfl ?_ | refine S2 h rfl ?_ rfl ?_ | refine S3 h rfl ?_ rfl ?_ | refine S4 h rfl ?_ rfl ?_ | refine S5 h rfl ?_ rfl ?_ | refine S6 h rfl ?_ rfl ?_ | refine S7 h rfl ?_ rfl ?_ | refine S8 h rfl ?_ rfl ?_
  ·first | exact Nat.lt_of_ble_eq_true rfl | (simp; done) | (simp; omega)
  clear h
  intro w h
  try simp only [N1,N2,N3,N4,N5,N6,N7] at h
  unfold zy.s1
  exact hk _ (yO.shuts h)
 ·simp only [decide_eq_false_iff_not] at hb2
  rw [if_neg hb2] at hk
  unfold zy.s1
  exact hk _ (yO.shuts h)
theorem find_spec {d mb:Nat} {a:DkA} {fs:List (List UInt8×yJ)} {n:List UInt8} {k:Option Addr→Int→K} (h:Holds B (yO d mb a fs::Γ) w)
  (hd:a.down = true→∀ w,Holds B (yO d mb a fs::Γ) w→k none 3 w) (hn:a.down = false→zW n fs = none→∀ w,Holds B (yO d mb a fs::Γ) w→k none 60 w)
  (hs:∀ x,a.down = false→zW n fs = some x→∀ w,Holds B (yO d mb a fs::Γ) w→k (some ⟨x.p,0,none⟩) 0 w):qG.call (some ⟨d,0,none⟩) (bs n) k w:=by
 replace h:=yO.opens h
 refine zCB _ _ _ _ ?_
 unfold qG
 refine ug rfl ?_
 try simp only [yB,Nat.zero_add,Nat.reduceAdd]
 refine xI (x:=(some mb)) h rfl (by first | with_reducible exact M0 | with_reducible exact M1 | with_reducible exact M2 | with_reducible exact M3 | with_reducible exact M4 | with_reducible exact M5 | with_reducible exact M6 | with_reducible exact M7 | with_reducible exact M8 | with_reducible exact M9 | with_reducible exact M10 | with_reducible exact M11 | with_reducible exact M12) ?_ ?_
 ·exact rfl
 refine zIV 1 h at1 ?_
 refine xI (x:=a.down) h rfl (by first | with_reducible exact M0 | with_reducible exact M1 | with_reducible exact M2 | with_reducible exact M3 | with_reducible exact M4 | with_reducible exact M5 | with_reducible exact M6 | with_reducible exact M7 | with_reducible exact M8 | with_reducible exact M9 | with_reducible exact M10 | with_reducible exact M11 | with_reducible exact M12) ?_ ?_
 ·exact rfl
 refine yc (fun hb=>hd hb _ (yO.shuts h)) (fun hb=>?_)
 cases hm:zW n fs with
 | none=>exact qN rfl (hn hb hm _ (yO.shuts h))
 | some x=>exact zk rfl (hs x hb hm _ (yO.shuts h))
def named (n:List UInt8):Bool:=decide (n ≠ []∧n.length ≤ 16)
theorem zEN {n:List UInt8} {k:Bool→K} (h:Holds B Γ w) (hk:k (named n) w):qb.call (bs n) k w:=by
 refine zEl _ _ _ ?_
 unfold qb
 have e1:(bs n).toList = n:=by rw [show bs n = ByteArray.mk n.toArray from rfl,uq]
 have e2:(⟨#[]⟩:ByteArray).toList = []:=uq []
 have e3:((bs n).size:Int) = (n.length:Int):=by simp [bs,ByteArray.size]
 rw [e1,e2,e3]
 by_cases hn:n = []
 ·refine zk (by simp [hn]) ?_
  unfold qb.s1
  have e:named n = false:=by simp [named,hn]
  rw [e] at hk
  exact hk
 ·refine qN (by simp [hn]) ?_
  unfold qb.s1
  have e:named n = decide ((n.length:Int) ≤ 16):=by
   unfold named
   by_cases h16:n.length ≤ 16
   ·rw [decide_eq_true ⟨hn,h16⟩,decide_eq_true (by omega)]
   ·rw [decide_eq_false (fun hx=>h16 hx.2),decide_eq_false (by omega)]
  rw [e] at hk
  exact hk
def zD.new (room:Int):zD:=⟨⟨room,-1,false⟩,[]⟩
theorem zKN {room:Int} {k:Option Addr→Int→K} (h:Holds B Γ w) (hbad:room < 1∨1048576 < room→k none 1 w) (hok:∀ d w,1 ≤ room→room ≤ 1048576→Holds B (zJ d (.new room)::Γ) w→k (some ⟨d,0,none⟩) 0 w):xB.call room k w:=by
 refine zGv _ _ _ ?_
 unfold xB
 have s1:∀ b,(b = true→room < 1∨1048576 < room)→(b = false→1 ≤ room∧room ≤ 1048576)→xB.s1 k room b w:=fun b h1 h2=>by
  unfold xB.s1
  refine yc (fun hb=>hbad (h1 hb)) (fun hb=>?_)
  obtain ⟨h3,h4⟩:=h2 hb
  refine zIL (d:=.string) (E:=vJ) (enc:=x9) (cV:=fV) h fun mb w h=>?_
  refine vX h ?_
  clear h
  intro d w h
  try simp only [yB,Nat.zero_add,Nat.reduceAdd]
  exact hok d _ h3 h4 (zJ.shuts (D:=.new room) (mb:=mb) (fs:=[]) rfl rfl (yO.shuts (by
   have h5:=h.zAD
   replace h:=h5
   replace h:=P2 h
   replace h:=P2 h
   try simp only [N1,N2,N3,N4,N5,N6,N7] at h
   exact h)))
 refine yc (fun hb=>?_) (fun hb=>?_)
 ·simp only [decide_eq_true_eq] at hb
  exact s1 _ (fun _=>.inl hb) (fun h=>by cases h)
 ·simp only [decide_eq_false_iff_not] at hb
  exact s1 _ (fun h=>.inr (by simpa using h)) (fun h=>by simp only [decide_eq_false_iff_not] at h; omega)
end
end
section
open Go Go.Sep
abbrev Files:=List (List UInt8×qP)
def y7:Files→Nat
 | []=>0
 | p::fs=>p.2.data.length + y7 fs
theorem uz (l1 l2:Files):y7 (l1++l2) = y7 l1 + y7 l2:=by
 induction l1 with
 | nil=>simp [y7]
 | cons p l1 ih=>simp only [List.cons_append,y7,ih]; omega
theorem zFM {fs:Files} {p:List UInt8×qP} (h:p ∈ fs):p.2.data.length ≤ y7 fs:=by
 induction fs with
 | nil=>cases h
 | cons q fs ih=>
  rcases List.mem_cons.1 h with rfl | h
  ·simp [y7]
  ·have:=ih h; simp only [y7]; omega
structure OkD (D:zD):Prop where
 room1:1 ≤ D.a.room
 roomN:D.a.room ≤ 1048576
 used:(y7 D.files:Int) ≤ D.a.room
 few:D.files.length ≤ 32
 left:okA D.a
 last:∀ p ∈ D.files,p.2.last ≤ p.2.data.length
 nodup:(D.files.map Prod.fst).Nodup
def zD.read (D:zD) (n:List UInt8):List UInt8×Int:=if D.a.down = true then ([],3) else match zW n D.files with
 | none=>([],60)
 | some f=>(f.data,0)
def zD.sync (D:zD) (n:List UInt8):zD×Int:=if D.a.down = true then (D,3) else match zW n D.files with
 | none=>(D,60)
 | some f=>(⟨(chg D.a).1,if (chg D.a).2 = 0 then yN n ⟨f.data,f.data.length⟩ D.files else D.files⟩,(chg D.a).2)
def zD.remove (D:zD) (n:List UInt8):zD×Int:=if D.a.down = true then (D,3) else match zW n D.files with
 | none=>(D,60)
 | some _=>(⟨(chg D.a).1,if (chg D.a).2 = 0 then xU n D.files else D.files⟩,(chg D.a).2)
def zD.rename (D:zD) (n m:List UInt8):zD×Int:=if D.a.down = true then (D,3) else match zW n D.files with
 | none=>(D,60)
 | some f=>if named m = false then (D,1) else (⟨(chg D.a).1,if (chg D.a).2 = 0 then yN m f (xU n D.files) else D.files⟩,(chg D.a).2)
def zD.cut (D:zD) (n:List UInt8) (c:Int):zD×Int:=if D.a.down = true then (D,3) else match zW n D.files with
 | none=>(D,60)
 | some f=>if c < 0∨(f.data.length:Int) < c then (D,1) else (⟨(chg D.a).1,if (chg D.a).2 = 0 then yN n ⟨f.data.take c.toNat,min f.last c.toNat⟩ D.files else D.files⟩,(chg D.a).2)
def zD.append (D:zD) (n:List UInt8) (x:List UInt8):zD×Int:=if D.a.down = true then (D,3) else if named n = false then (D,1)
 else if (zW n D.files = none∧32 ≤ D.files.length)∨D.a.room - y7 D.files < x.length then (D,2)
 else (⟨(chg D.a).1,yN n ⟨((zW n D.files).getD ⟨[],0⟩).data++x,((zW n D.files).getD ⟨[],0⟩).last⟩ D.files⟩,(chg D.a).2)
theorem zEO (a:DkA):(chg a).1.room = a.room:=by
 unfold chg
 split
 ·rfl
 ·split <;> rfl
theorem zNU {a:DkA} (h:okA a):okA (chg a).1:=by
 obtain ⟨h1,h2⟩:=h
 unfold chg
 split
 ·exact ⟨h1,h2⟩
 ·split
  ·exact ⟨by simp only; omega,by simp only; omega⟩
  ·exact ⟨h1,h2⟩
theorem OkD.chg {D:zD} (h:OkD D):OkD ⟨(chg D.a).1,D.files⟩ :=
 ⟨by rw [zEO]; exact h.room1,by rw [zEO]; exact h.roomN,by rw [zEO]; exact h.used,h.few,zNU h.left,h.last,h.nodup⟩
theorem OkD.set {D:zD} (h:OkD D) {n:List UInt8} {f f':qP} (hm:zW n D.files = some f) (hl:f'.last ≤ f'.data.length) (hu:(y7 D.files:Int) - f.data.length + f'.data.length ≤ D.a.room):OkD ⟨D.a,yN n f' D.files⟩:=by
 obtain ⟨l1,l2,h1,h2,_,h4⟩:=yu hm
 have e:=h2 f'
 have hnd:=h.nodup
 have hfew:=h.few
 have hla:=h.last
 rw [h1] at hu hnd hfew hla
 rw [uz] at hu
 simp only [y7] at hu
 refine ⟨h.room1,h.roomN,?_,?_,h.left,?_,?_⟩
 ·simp only [e,uz,y7]; omega
 ·simp only [e]; simpa using hfew
 ·simp only [e]
  intro p hp
  rcases List.mem_append.1 hp with hp | hp
  ·exact hla p (List.mem_append_left _ hp)
  ·rcases List.mem_cons.1 hp with rfl | hp
   ·exact hl
   ·exact hla p (List.mem_append_right _ (List.mem_cons_of_mem _ hp))
 ·simp only [e]; simpa using hnd
theorem zAB {α β:Type} [DecidableEq α] {k:α} {m:List (α×β)} (h:zW k m = none):∀ p ∈ m,p.1 ≠ k:=by
 rcases zG1 k m with ⟨_,_,_,h4⟩ | ⟨_,_,_,_,_,h1,_⟩
 ·exact h4
 ·rw [h] at h1; cases h1
theorem OkD.push {D:zD} (h:OkD D) {n:List UInt8} {f:qP} (hm:zW n D.files = none) (hf:D.files.length < 32) (hl:f.last ≤ f.data.length) (hu:(y7 D.files:Int) + f.data.length ≤ D.a.room):OkD ⟨D.a,yN n f D.files⟩:=by
 have e:yN n f D.files = D.files++[(n,f)]:=uI hm
 refine ⟨h.room1,h.roomN,?_,?_,h.left,?_,?_⟩
 ·simp only [e,uz,y7]; omega
 ·simp only [e,List.length_append,List.length_singleton]; omega
 ·simp only [e]
  intro p hp
  rcases List.mem_append.1 hp with hp | hp
  ·exact h.last p hp
  ·simp only [List.mem_singleton] at hp; subst hp; exact hl
 ·simp only [e,List.map_append,List.map_cons,List.map_nil]
  rw [List.nodup_append]
  refine ⟨h.nodup,by simp,fun x hx y hy=>?_⟩
  simp only [List.mem_singleton] at hy
  subst hy
  obtain ⟨p,hp,rfl⟩:=List.mem_map.1 hx
  exact zAB hm p hp
theorem OkD.del {D:zD} (h:OkD D) {n:List UInt8} {f:qP} (hm:zW n D.files = some f):OkD ⟨D.a,xU n D.files⟩∧zW n (xU n D.files) = none∧(xU n D.files).length + 1 = D.files.length∧y7 (xU n D.files) + f.data.length = y7 D.files:=by
 obtain ⟨l1,l2,h1,_,h3,h4⟩:=yu hm
 have hnd:=h.nodup
 have hfew:=h.few
 have hla:=h.last
 have hus:=h.used
 rw [h1] at hnd hfew hla hus
 rw [uz] at hus
 simp only [y7] at hus
 have hsub:List.Sublist (l1++l2) (l1++(n,f)::l2):=List.Sublist.append (List.Sublist.refl _) (List.sublist_cons_self _ _)
 refine ⟨⟨h.room1,h.roomN,?_,?_,h.left,?_,?_⟩,?_,?_,?_⟩
 ·simp only [h3,uz]; omega
 ·simp only [h3,List.length_append,List.length_cons] at *; omega
 ·simp only [h3]; exact fun p hp=>hla p (hsub.subset hp)
 ·simp only [h3]; exact hnd.sublist (hsub.map _)
 ·rw [h3]
  cases hx:zW n (l1++l2) with
  | none=>rfl
  | some y=>
   obtain ⟨a1,a2,e1,_⟩:=yu hx
   exfalso
   have hmem:n ∈ (l1++l2).map Prod.fst:=by rw [e1]; simp
   simp only [List.map_append,List.map_cons] at hnd hmem
   rw [List.nodup_append] at hnd
   obtain ⟨g1,g2,g3⟩:=hnd
   rcases List.mem_append.1 hmem with hmem | hmem
   ·exact g3 n hmem n List.mem_cons_self rfl
   ·exact (List.nodup_cons.1 g2).1 hmem
 ·rw [h3,h1]; simp; omega
 ·rw [h3,h1,uz,uz]; simp only [y7]; omega
theorem OkD.put {D:zD} (h:OkD D) {n:List UInt8} {f:qP} (hf:D.files.length < 32) (hl:f.last ≤ f.data.length) (hu:(y7 D.files:Int) + f.data.length ≤ D.a.room):OkD ⟨D.a,yN n f D.files⟩:=by
 cases hm:zW n D.files with
 | none=>exact h.push hm hf hl hu
 | some g=>exact h.set hm hl (by omega)
section
variable {B w:World} {Γ:List zC}
theorem zBp {D:zD} {n:List UInt8} {fs:List (List UInt8×yJ)} {x:yJ} (hp:xw fs = D.files) (hx:zW n fs = some x):zW n D.files = some x.f:=by rw [← hp,zBo,hx]; rfl
theorem zAY {D:zD} {n:List UInt8} {fs:List (List UInt8×yJ)} (hp:xw fs = D.files) (hx:zW n fs = none):zW n D.files = none:=by rw [← hp,zBo,hx]; rfl
theorem jv {D:zD} (h:OkD D) {n:List UInt8} {f:qP} (hm:zW n D.files = some f):f.data.length ≤ 1048576∧f.last ≤ f.data.length:=by
 obtain ⟨l1,l2,h1,_⟩:=yu hm
 have hmem:(n,f) ∈ D.files:=by rw [h1]; simp
 have h2:=zFM hmem
 have h3:=h.used
 have h4:=h.roomN
 exact ⟨by simp only at h2; omega,h.last _ hmem⟩
theorem uD {d mb:Nat} {a:DkA} {l1 l2:List (List UInt8×yJ)} {n:List UInt8} {x:yJ} (h:Holds B (yO d mb a (l1++(n,x)::l2)::Γ) w) :
  Holds B (blk x.p (.cells (fA x.f x.s) vQ (0,0))::Bytes zV x.s x.f.data::blk d (.cells (dA a mb) xk (0,0))::qK x9 fV mb (l1++(n,x)::l2)::stars (l1.map fB)::stars (l2.map fB)::Γ) w:=by
 replace h:=yO.opens h
 replace h:=P1 h
 replace h:=P1 h
 replace h:=P2 h
 try simp only [N1,N2,N3,N4,N5,N6,N7] at h
 replace h:=jh h
 replace h:=P3 h
 replace h:=P3 h
 replace h:=P5 h
 replace h:=P5 h
 replace h:=P5 h
 replace h:=P5 h
 try simp only [N1,N2,N3,N4,N5,N6,N7] at h
 exact h
theorem uK {d mb:Nat} {a:DkA} {l1 l2:List (List UInt8×yJ)} {n:List UInt8} {x:yJ} {f:qP} {s:Sl} (h:Holds B (blk x.p (.cells (fA f s) vQ (0,0))::Bytes zV s f.data::blk d (.cells (dA a mb) xk (0,0))::qK x9 fV mb (l1++(n,x)::l2)::stars (l1.map fB)::stars (l2.map fB)::Γ) w) :
  Holds B (yO d mb a (l1++(n,⟨f,x.p,s⟩)::l2)::Γ) w:=by
 replace h:=P3 h
 replace h:=P3 h
 replace h:=P5 h
 replace h:=P5 h
 replace h:=P5 h
 replace h:=P5 h
 try simp only [N1,N2,N3,N4,N5,N6,N7] at h
 have h1:=zFK (n:=n) (x:=⟨f,x.p,s⟩) h
 clear h
 have h:=h1
 clear h1
 replace h:=P1 h
 replace h:=P2 h
 try simp only [N1,N2,N3,N4,N5,N6,N7] at h
 have h2:=zHl (fs':=l1++(n,⟨f,x.p,s⟩)::l2) (by simp) h
 exact yO.shuts h2.swap
theorem zFN {d:Nat} {D:zD} {n:List UInt8} {k:Sl→Int→K} (hD:OkD D) (h:Holds B (zJ d D::Γ) w) (hk:∀ s w,Holds B (Bytes zV s (D.read n).1::zJ d D::Γ) w→k s (D.read n).2 w):xC.call (some ⟨d,0,none⟩) (bs n) k w:=by
 obtain ⟨mb,fs,hp,h⟩:=zJ.opens h
 refine zB9 _ _ _ _ ?_
 unfold xC
 unfold zD.read at hk
 refine find_spec h (fun hd w h=>?_) (fun hd hx w h=>?_) (fun x hd hx w h=>?_)
 ·rw [if_pos hd] at hk
  refine qN rfl ?_
  exact hk _ _ ((zJ.shuts rfl hp h).zAJ _ _)
 ·rw [if_neg (by rw [hd]; simp),zAY hp hx] at hk
  refine qN rfl ?_
  exact hk _ _ ((zJ.shuts rfl hp h).zAJ _ _)
 ·have hm:=zBp hp hx
  rw [if_neg (by rw [hd]; simp),hm] at hk
  refine zk rfl ?_
  obtain ⟨l1,l2,e1,_⟩:=yu hx
  rw [e1] at h hp
  replace h:=uD h
  refine ug rfl ?_
  refine xI (x:=x.s) h rfl (by first | with_reducible exact M0 | with_reducible exact M1 | with_reducible exact M2 | with_reducible exact M3 | with_reducible exact M4 | with_reducible exact M5 | with_reducible exact M6 | with_reducible exact M7 | with_reducible exact M8 | with_reducible exact M9 | with_reducible exact M10 | with_reducible exact M11 | with_reducible exact M12) ?_ ?_
  ·exact rfl
  refine qR h (fun w h=>Bytes.rd h (List.mem_cons_of_mem _ List.mem_cons_self)) (by have:=(jv hD hm).1; omega) fun s w h _=>?_
  replace h:=P6 h
  replace h:=P6 h
  replace h:=P6 h
  replace h:=P6 h
  replace h:=P6 h
  replace h:=P6 h
  try simp only [N1,N2,N3,N4,N5,N6,N7] at h
  exact hk s _ (zJ.shuts rfl hp (uK h)).swap
theorem zI0 {d mb:Nat} {a:DkA} {l1 l2:List (List UInt8×yJ)} (h:Holds B (stars (l1.map fB)::stars (l2.map fB)::blk d (.cells (dA a mb) xk (0,0))::qK x9 fV mb (l1++l2)::Γ) w):Holds B (yO d mb a (l1++l2)::Γ) w:=by
 have h2:=zAN.2 h
 rw [← List.map_append] at h2
 replace h:=h2
 replace h:=P2 h
 replace h:=P2 h
 try simp only [N1,N2,N3,N4,N5,N6,N7] at h
 exact yO.shuts h
theorem zCv {l1 l2:List (List UInt8×yJ)} {n:List UInt8} {x:yJ} {D:zD} (hp:xw (l1++(n,x)::l2) = D.files) (hx:zW n (l1++(n,x)::l2) = some x) (hms:∀ v,yN n v (l1++(n,x)::l2) = l1++(n,v)::l2) (f:qP) (p:Nat) (s:Sl):xw (l1++(n,⟨f,p,s⟩)::l2) = yN n f D.files:=by
 rw [← hp,← hms]
 exact (zA1 (fun x:yJ=>x.f) n (⟨f,p,s⟩:yJ) _).symm
theorem zFO {d:Nat} {D:zD} {n:List UInt8} {k:Int→K} (hD:OkD D) (h:Holds B (zJ d D::Γ) w) (hk:∀ w,OkD (D.sync n).1→Holds B (zJ d (D.sync n).1::Γ) w→k (D.sync n).2 w):zo.call (some ⟨d,0,none⟩) (bs n) k w:=by
 obtain ⟨mb,fs,hp,h⟩:=zJ.opens h
 refine zCA _ _ _ _ ?_
 unfold zo
 unfold zD.sync at hk
 refine find_spec h (fun hd w h=>?_) (fun hd hx w h=>?_) (fun x hd hx w h=>?_)
 ·rw [if_pos hd] at hk
  refine zk rfl ?_
  unfold zo.s1 zo.s2
  exact zk rfl (hk _ hD (zJ.shuts rfl hp h))
 ·rw [if_neg (by rw [hd]; simp),zAY hp hx] at hk
  refine zk rfl ?_
  unfold zo.s1 zo.s2
  exact zk rfl (hk _ hD (zJ.shuts rfl hp h))
 ·have hm:=zBp hp hx
  rw [if_neg (by rw [hd]; simp),hm] at hk
  simp only at hk
  refine qN rfl ?_
  refine jB hD.left h fun w h=>?_
  unfold zo.s1 zo.s2
  refine yc (fun hb=>?_) (fun hb=>?_)
  ·simp only [decide_eq_true_eq] at hb
   rw [if_pos hb] at hk
   obtain ⟨l1,l2,e1,hms,_⟩:=yu hx
   rw [e1] at h hp hx hms
   replace h:=uD h
   refine ug rfl ?_
   refine xI (x:=x.s) h rfl (by first | with_reducible exact M0 | with_reducible exact M1 | with_reducible exact M2 | with_reducible exact M3 | with_reducible exact M4 | with_reducible exact M5 | with_reducible exact M6 | with_reducible exact M7 | with_reducible exact M8 | with_reducible exact M9 | with_reducible exact M10 | with_reducible exact M11 | with_reducible exact M12) ?_ ?_
   ·exact rfl
   have hsn:=Bytes.len h.tail
   try simp only [yB,Nat.zero_add,Nat.reduceAdd]
   first | refine S0 h rfl ?_ rfl ?_ | refine S1 h rfl ?_ rfl ?_ | refine S2 h rfl ?_ rfl ?_ | refine S3 h rfl ?_ rfl ?_ | refine S4 h rfl ?_ rfl ?_ | refine S5 h rfl ?_ rfl ?_ | refine S6 h rfl ?_ rfl ?_ | refine S7 h rfl ?_ rfl ?_ | refine S8 h rfl ?_ rfl ?_
   ·first | exact Nat.lt_of_ble_eq_true rfl | (simp; done) | (simp; omega)
   clear h
   intro w h
   try simp only [N1,N2,N3,N4,N5,N6,N7] at h
   rw [← hsn] at h
   have hdl:=jv hD hm
   refine hk _ ((hD.set (f':=⟨x.f.data,x.f.data.length⟩) hm (Nat.le_refl _) (by have:=hD.used; simp only; omega)).chg) (zJ.shuts rfl ?_ (uK (f:=⟨x.f.data,x.f.data.length⟩) h))
   exact zCv hp hx hms _ _ _
  ·simp only [decide_eq_false_iff_not] at hb
   rw [if_neg hb] at hk
   exact hk _ hD.chg (zJ.shuts rfl hp h)
theorem zDJ {d:Nat} {D:zD} {n:List UInt8} {k:Int→K} (hD:OkD D) (h:Holds B (zJ d D::Γ) w) (hk:∀ w,OkD (D.remove n).1→Holds B (zJ d (D.remove n).1::Γ) w→k (D.remove n).2 w):za.call (some ⟨d,0,none⟩) (bs n) k w:=by
 obtain ⟨mb,fs,hp,h⟩:=zJ.opens h
 refine zBM _ _ _ _ ?_
 unfold za
 unfold zD.remove at hk
 refine find_spec h (fun hd w h=>?_) (fun hd hx w h=>?_) (fun x hd hx w h=>?_)
 ·rw [if_pos hd] at hk
  refine zk rfl ?_
  unfold za.s1 za.s2
  exact zk rfl (hk _ hD (zJ.shuts rfl hp h))
 ·rw [if_neg (by rw [hd]; simp),zAY hp hx] at hk
  refine zk rfl ?_
  unfold za.s1 za.s2
  exact zk rfl (hk _ hD (zJ.shuts rfl hp h))
 ·have hm:=zBp hp hx
  rw [if_neg (by rw [hd]; simp),hm] at hk
  simp only at hk
  refine qN rfl ?_
  refine jB hD.left h fun w h=>?_
  unfold za.s1 za.s2
  refine yc (fun hb=>?_) (fun hb=>?_)
  ·simp only [decide_eq_true_eq] at hb
   rw [if_pos hb] at hk
   obtain ⟨l1,l2,e1,hms,hmd,_⟩:=yu hx
   replace h:=yO.opens h
   refine ug rfl ?_
   try simp only [yB,Nat.zero_add,Nat.reduceAdd]
   refine xI (x:=(some mb)) h rfl (by first | with_reducible exact M0 | with_reducible exact M1 | with_reducible exact M2 | with_reducible exact M3 | with_reducible exact M4 | with_reducible exact M5 | with_reducible exact M6 | with_reducible exact M7 | with_reducible exact M8 | with_reducible exact M9 | with_reducible exact M10 | with_reducible exact M11 | with_reducible exact M12) ?_ ?_
   ·exact rfl
   replace h:=P2 h
   replace h:=P1 h
   replace h:=P2 h
   try simp only [N1,N2,N3,N4,N5,N6,N7] at h
   refine zFD (enc:=x9) (cV:=fV) (a:=n) zEq jg h fun w h=>?_
   rw [e1] at h hp hx hms hmd
   rw [hmd] at h
   replace h:=P1 h
   replace h:=P2 h
   try simp only [N1,N2,N3,N4,N5,N6,N7] at h
   replace h:=jh h
   replace h:=(h.del 0 at0).del 0 at0
   try simp only [N1,N2,N3,N4,N5,N6,N7] at h
   refine hk _ (hD.del hm).1.chg (zJ.shuts (mb:=mb) (fs:=l1++l2) rfl ?_ (zI0 h))
   show xw (l1++l2) = xU n D.files
   rw [← hp,← hmd]
   exact (zEI (fun x:yJ=>x.f) n _).symm
  ·simp only [decide_eq_false_iff_not] at hb
   rw [if_neg hb] at hk
   exact hk _ hD.chg (zJ.shuts rfl hp h)
end
end
section
open Go Go.Sep
section
variable {B w:World} {Γ:List zC}
theorem zCw {fs:List (List UInt8×yJ)} {n:List UInt8} {x:yJ} (h:Holds B (blk x.p (.cells (fA x.f x.s) vQ (0,0))::Bytes zV x.s x.f.data::stars (fs.map fB)::Γ) w) :
  Holds B (stars ((yN n x fs).map fB)::Γ) w:=by
 cases hm:zW n fs with
 | none=>
  rw [uI hm]
  replace h:=P1 h
  replace h:=P1 h
  replace h:=P2 h
  try simp only [N1,N2,N3,N4,N5,N6,N7] at h
  have h1:Holds B (stars (fs.map fB)::stars [fB (n,x)]::Γ) w:=by
   refine Holds.swap (zBn.2 ?_)
   have h2:Holds B (fB (n,x)::stars (fs.map fB)::Γ) w:=Holds.flat.2 (by
    replace h:=P2 h
    replace h:=P2 h
    try simp only [N1,N2,N3,N4,N5,N6,N7] at h
    exact h)
   have h3:=h2.zAD
   exact h3.swap
  rw [List.map_append,List.map_cons,List.map_nil]
  exact zAN.2 h1
 | some y=>
  obtain ⟨l1,l2,e1,h2,_⟩:=yu hm
  rw [h2]
  rw [e1] at h
  replace h:=P1 h
  replace h:=P1 h
  replace h:=P2 h
  try simp only [N1,N2,N3,N4,N5,N6,N7] at h
  replace h:=jh h
  replace h:=(h.del 0 at0).del 0 at0
  try simp only [N1,N2,N3,N4,N5,N6,N7] at h
  replace h:=P1 h
  replace h:=P1 h
  replace h:=P3 h
  replace h:=P3 h
  try simp only [N1,N2,N3,N4,N5,N6,N7] at h
  exact zFK h
theorem zHm {A A':zC} {l1 l2:List (List UInt8×yJ)} (h:Holds B (A::A'::stars (l1.map fB)::stars (l2.map fB)::Γ) w):Holds B (A::A'::stars ((l1++l2).map fB)::Γ) w:=by
 replace h:=P1 h
 replace h:=P1 h
 replace h:=P3 h
 replace h:=P3 h
 try simp only [N1,N2,N3,N4,N5,N6,N7] at h
 have h2:=zAN.2 h
 rw [← List.map_append] at h2
 replace h:=h2
 replace h:=P2 h
 replace h:=P2 h
 try simp only [N1,N2,N3,N4,N5,N6,N7] at h
 exact h
theorem zKO {d:Nat} {D:zD} {n:List UInt8} {c:Int} {k:Int→K} (hD:OkD D) (h:Holds B (zJ d D::Γ) w) (hk:∀ w,OkD (D.cut n c).1→Holds B (zJ d (D.cut n c).1::Γ) w→k (D.cut n c).2 w):zK.call (some ⟨d,0,none⟩) (bs n) c k w:=by
 obtain ⟨mb,fs,hp,h⟩:=zJ.opens h
 refine zCj _ _ _ _ _ ?_
 unfold zK
 unfold zD.cut at hk
 refine find_spec h (fun hd w h=>?_) (fun hd hx w h=>?_) (fun x hd hx w h=>?_)
 ·rw [if_pos hd] at hk
  refine zk rfl ?_
  unfold zK.s4 zK.s1 zK.s2 zK.s3
  exact zk rfl (zk rfl (zk rfl (hk _ hD (zJ.shuts rfl hp h))))
 ·rw [if_neg (by rw [hd]; simp),zAY hp hx] at hk
  refine zk rfl ?_
  unfold zK.s4 zK.s1 zK.s2 zK.s3
  exact zk rfl (zk rfl (zk rfl (hk _ hD (zJ.shuts rfl hp h))))
 ·have hm:=zBp hp hx
  rw [if_neg (by rw [hd]; simp),hm] at hk
  simp only at hk
  obtain ⟨l1,l2,e1,hms,hmd,_⟩:=yu hx
  rw [e1] at h hp hx hms
  have hdl:=jv hD hm
  refine qN rfl ?_
  have bad:(c < 0∨(x.f.data.length:Int) < c)→∀ w,Holds B (yO d mb D.a (l1++(n,x)::l2)::Γ) w→∀ p,zK.s4 k (some ⟨d,0,none⟩) c p 0 true w:=fun hc w h p=>by
   rw [if_pos hc] at hk
   unfold zK.s4 zK.s1 zK.s2 zK.s3
   exact qN rfl (zk rfl (zk rfl (hk _ hD (zJ.shuts rfl hp h))))
  refine yc (fun hb=>?_) (fun hb=>?_)
  ·simp only [decide_eq_true_eq] at hb
   exact bad (.inl hb) _ h _
  simp only [decide_eq_false_iff_not] at hb
  replace h:=uD h
  have hsn:=Bytes.len h.tail
  refine ug rfl ?_
  refine xI (x:=x.s) h rfl (by first | with_reducible exact M0 | with_reducible exact M1 | with_reducible exact M2 | with_reducible exact M3 | with_reducible exact M4 | with_reducible exact M5 | with_reducible exact M6 | with_reducible exact M7 | with_reducible exact M8 | with_reducible exact M9 | with_reducible exact M10 | with_reducible exact M11 | with_reducible exact M12) ?_ ?_
  ·exact rfl
  by_cases hc2:(x.f.data.length:Int) < c
  ·rw [decide_eq_true (by omega)]
   exact bad (.inr hc2) _ (uK h) _
  rw [decide_eq_false (by omega)]
  rw [if_neg (by omega)] at hk
  obtain ⟨c',hc'⟩:=Int.eq_ofNat_of_zero_le (show 0 ≤ c by omega)
  subst hc'
  simp only [Int.toNat_natCast] at hk
  unfold zK.s4 zK.s1
  refine zk rfl (qN rfl ?_)
  refine jB hD.left (uK h) fun w h=>?_
  unfold zK.s2 zK.s3
  refine yc (fun hb2=>?_) (fun hb2=>?_)
  ·simp only [decide_eq_true_eq] at hb2
   rw [if_pos hb2] at hk
   replace h:=uD h
   simp only at h
   have hsc:=h.tail.jd
   refine zBe h ?_
   clear h
   intro w h
   refine ug rfl ?_
   try simp only [yB,Nat.zero_add,Nat.reduceAdd]
   refine xI (x:=x.s) h rfl (by first | with_reducible exact M0 | with_reducible exact M1 | with_reducible exact M2 | with_reducible exact M3 | with_reducible exact M4 | with_reducible exact M5 | with_reducible exact M6 | with_reducible exact M7 | with_reducible exact M8 | with_reducible exact M9 | with_reducible exact M10 | with_reducible exact M11 | with_reducible exact M12) ?_ ?_
   ·exact rfl
   refine ⟨_,by omega,by omega,by omega,by omega,rfl,?_⟩
   simp only [Int.toNat_natCast,show (0:Int).toNat = 0 from rfl,zNG hsc.2.2.1,Nat.sub_zero]
   refine xI (x:=(x.f.last:Int)) h rfl (by first | with_reducible exact M0 | with_reducible exact M1 | with_reducible exact M2 | with_reducible exact M3 | with_reducible exact M4 | with_reducible exact M5 | with_reducible exact M6 | with_reducible exact M7 | with_reducible exact M8 | with_reducible exact M9 | with_reducible exact M10 | with_reducible exact M11 | with_reducible exact M12) ?_ ?_
   ·exact rfl
   refine qY (e':=((min x.f.last c':Nat):Int)) (by split <;> omega) ?_
   first | refine S0 h rfl ?_ rfl ?_ | refine S1 h rfl ?_ rfl ?_ | refine S2 h rfl ?_ rfl ?_ | refine S3 h rfl ?_ rfl ?_ | refine S4 h rfl ?_ rfl ?_ | refine S5 h rfl ?_ rfl ?_ | refine S6 h rfl ?_ rfl ?_ | refine S7 h rfl ?_ rfl ?_ | refine S8 h rfl ?_ rfl ?_
   ·first | exact Nat.lt_of_ble_eq_true rfl | (simp; done) | (simp; omega)
   clear h
   intro w h
   try simp only [N1,N2,N3,N4,N5,N6,N7] at h
   first | refine S0 h rfl ?_ rfl ?_ | refine S1 h rfl ?_ rfl ?_ | refine S2 h rfl ?_ rfl ?_ | refine S3 h rfl ?_ rfl ?_ | refine S4 h rfl ?_ rfl ?_ | refine S5 h rfl ?_ rfl ?_ | refine S6 h rfl ?_ rfl ?_ | refine S7 h rfl ?_ rfl ?_ | refine S8 h rfl ?_ rfl ?_
   ·first | exact Nat.lt_of_ble_eq_true rfl | (simp; done) | (simp; omega)
   clear h
   intro w h
   try simp only [N1,N2,N3,N4,N5,N6,N7] at h
   replace h:=P5 h
   replace h:=P5 h
   replace h:=P5 h
   replace h:=P5 h
   replace h:=P4 h
   replace h:=P5 h
   try simp only [N1,N2,N3,N4,N5,N6,N7] at h
   replace h:=(h.imp (SlC.cut (m:=c') (by omega))).swap
   rw [Nat.mul_one,← List.map_take] at h
   have hu:=hD.used
   refine hk _ ((hD.set (f':=⟨x.f.data.take c',min x.f.last c'⟩) hm (by simp; omega) (by simp; omega)).chg) (zJ.shuts rfl ?_ (uK (f:=⟨x.f.data.take c',min x.f.last c'⟩) (s:=⟨x.s.a,c',c'⟩) (x:=⟨x.f,x.p,x.s⟩) h))
   exact zCv hp hx hms _ _ _
  ·simp only [decide_eq_false_iff_not] at hb2
   rw [if_neg hb2] at hk
   exact hk _ hD.chg (zJ.shuts rfl hp h)
end
end
section
open Go Go.Sep
def ji:List (List UInt8×yJ)→Nat
 | []=>0
 | p::fs=>p.2.f.data.length + ji fs
theorem zFP (l1 l2:List (List UInt8×yJ)):ji (l1++l2) = ji l1 + ji l2:=by
 induction l1 with
 | nil=>simp [ji]
 | cons p l1 ih=>simp only [List.cons_append,ji,ih]; omega
theorem zHB (fs:List (List UInt8×yJ)):ji fs = y7 (xw fs):=by
 induction fs with
 | nil=>rfl
 | cons p fs ih=>simp only [ji,xw,List.map_cons,y7,ih]
section
variable {B w:World} {Γ:List zC}
theorem zLk {fs:List (List UInt8×yJ)} {p:List UInt8×yJ} (i:Nat) (h:Holds B Γ w) (hi:Γ[i]? = some (stars (fs.map fB))) (hp:p ∈ fs) :
  w.cell? ⟨p.2.p,0,none⟩ = some p.2.s.val∧w.cell? ⟨p.2.p,1,none⟩ = some (.int .i64 (p.2.f.last:Int))∧p.2.f.data.length = p.2.s.n∧RdB w p.2.s p.2.f.data∧p.2.s.n ≤ p.2.s.c∧(∀ a,p.2.s.a = some a→a.spot = none):=by
 obtain ⟨l1,l2,rfl⟩:=List.append_of_mem hp
 have h1:=jh (n:=p.1) (x:=p.2) (h.pick i hi)
 have hb:=h1.block
 have hl:=Bytes.len h1.tail
 have hsc:=h1.tail.jd
 exact ⟨qX hb rfl,qX hb rfl,hl,Bytes.rd h1 (List.mem_cons_of_mem _ List.mem_cons_self),hsc.2.1,hsc.2.2.1⟩
theorem zI1 {d mb:Nat} {a:DkA} {fs:List (List UInt8×yJ)} {k:Int→K} (hu:ji fs ≤ 100000000) (h:Holds B (yO d mb a fs::Γ) w) (hk:∀ w,Holds B (yO d mb a fs::Γ) w→k (ji fs:Int) w):qH.call (some ⟨d,0,none⟩) k w:=by
 replace h:=yO.opens h
 refine zCC _ _ _ ?_
 unfold qH
 refine ug rfl ?_
 try simp only [yB,Nat.zero_add,Nat.reduceAdd]
 refine xI (x:=(some mb)) h rfl (by first | with_reducible exact M0 | with_reducible exact M1 | with_reducible exact M2 | with_reducible exact M3 | with_reducible exact M4 | with_reducible exact M5 | with_reducible exact M6 | with_reducible exact M7 | with_reducible exact M8 | with_reducible exact M9 | with_reducible exact M10 | with_reducible exact M11 | with_reducible exact M12) ?_ ?_
 ·exact rfl
 replace h:=P2 h
 replace h:=P1 h
 replace h:=P2 h
 try simp only [N1,N2,N3,N4,N5,N6,N7] at h
 refine zIT zEq h fun r w h=>?_
 refine yY.of (fun t w=>∃ (n:Nat) (left:List (List UInt8×yJ)) (cur:Option (List UInt8×yJ)),t = (n:Int)∧n + ji left = ji fs∧Holds B (vN x9 fV mb r fs left cur::blk d (.cells (dA a mb) xk (0,0))::stars (fs.map fB)::Γ) w) (fun _ w=>zDr r fs.length w) ⟨0,fs,none,rfl,by omega,h⟩ ?_
 clear h
 rintro t w ⟨n,left,cur,rfl,hn,h⟩
 have hcnt:=zCI h
 unfold qH.b1
 refine zKM h (fun hl0 w h=>?_) (fun l1 p l2 w hl1 hpm h=>?_)
 ·refine ⟨_,false,rfl,rfl,?_⟩
  refine zk rfl ?_
  rw [hl0] at hn
  simp only [ji,Nat.add_zero] at hn
  rw [hn]
  replace h:=P2 h
  replace h:=P1 h
  replace h:=P2 h
  try simp only [N1,N2,N3,N4,N5,N6,N7] at h
  exact hk _ (yO.shuts h)
 ·refine ⟨_,true,rfl,rfl,?_⟩
  refine qN rfl ?_
  refine zIU h ?_
  refine ⟨_,some ⟨p.2.p,0,none⟩,rfl,rfl,?_⟩
  refine ug rfl ?_
  obtain ⟨g1,_,g3,_⟩:=zLk 2 h at2 hpm
  refine zK2 (x:=p.2.s) g1 ?_
  rw [hl1,zFP] at hn
  simp only [ji] at hn
  refine qY (e':=((n + p.2.f.data.length:Nat):Int)) (by rw [wrap64 (by omega) (by omega)]; omega) ?_
  refine ⟨⟨n + p.2.f.data.length,l1++l2,some p,rfl,by rw [zFP]; omega,h⟩,?_⟩
  rw [hcnt,zCI h,hl1]
  simp
theorem zNV {α β:Type} [DecidableEq α] {enc:α→Value} {cV:β→Value} {T E t mb:Nat} {d:TypeDesc} {m:List (α×β)} {k:Int→K} (i:Nat) (hT:zAf Tryz.prog T d E) (h:Holds B Γ w) (hi:Γ[i]? = some (qK enc cV mb m)) (hk:k (m.length:Int) w):Rd Tryz.prog (Builtin.len_ #[T] t #[.map (some mb)]) (Value.int .i64) k w:=by
 obtain ⟨kt,hT,hd⟩:=hT
 obtain ⟨es,c,⟨hr,hst⟩,h⟩:=qK.opens (h.pick i hi)
 have hlen:es.size = m.length:=by have:=congrArg List.length hr; simpa using this
 refine ⟨(m.length:Int),?_,hk⟩
 have e0:#[T][0]? = some T:=rfl
 have e1:#[Value.map (some mb)][0]? = some (.map (some mb)):=rfl
 unfold Builtin.len_
 simp only [e0,e1,Sem.run_bind,run_underlying hT,Result.andThen,MapKept.run_getObj_map h.block,Sem.run_pure,hlen,goInt]
theorem zFQ {d mb:Nat} {D:zD} {n x:List UInt8} {data:Sl} {fs:List (List UInt8×yJ)} {y:yJ} {k:Int→K} (hD:OkD D) (ha:okA D.a)
  (hy:zW n fs = some y) (hp:xw fs = yN n y.f D.files) (hsm:y.f.data.length + x.length ≤ 1048576) (hr:∀ w,Holds B Γ w→RdB w data x)
  (h:Holds B (yO d mb D.a fs::Γ) w) (hk:∀ w,Holds B (zJ d ⟨(chg D.a).1,yN n ⟨y.f.data++x,y.f.last⟩ D.files⟩::Γ) w→k (chg D.a).2 w):zS.s1 k ⟨d,0,none⟩ data (some ⟨y.p,0,none⟩) w:=by
 obtain ⟨l1,l2,e1,hms,_⟩:=yu hy
 rw [e1] at h hy hms
 unfold zS.s1
 replace h:=uD h
 refine ug rfl ?_
 refine xI (x:=y.s) h rfl (by first | with_reducible exact M0 | with_reducible exact M1 | with_reducible exact M2 | with_reducible exact M3 | with_reducible exact M4 | with_reducible exact M5 | with_reducible exact M6 | with_reducible exact M7 | with_reducible exact M8 | with_reducible exact M9 | with_reducible exact M10 | with_reducible exact M11 | with_reducible exact M12) ?_ ?_
 ·exact rfl
 replace h:=P5 h
 replace h:=P5 h
 replace h:=P5 h
 replace h:=P5 h
 replace h:=P4 h
 replace h:=P5 h
 try simp only [N1,N2,N3,N4,N5,N6,N7] at h
 refine zAx h (hr _ h.tail.tail.tail.tail.tail.tail) (by omega) fun s' w h _ _=>?_
 replace h:=P5 h
 replace h:=P5 h
 replace h:=P5 h
 replace h:=P5 h
 replace h:=P4 h
 replace h:=P5 h
 try simp only [N1,N2,N3,N4,N5,N6,N7] at h
 first | refine S0 h rfl ?_ rfl ?_ | refine S1 h rfl ?_ rfl ?_ | refine S2 h rfl ?_ rfl ?_ | refine S3 h rfl ?_ rfl ?_ | refine S4 h rfl ?_ rfl ?_ | refine S5 h rfl ?_ rfl ?_ | refine S6 h rfl ?_ rfl ?_ | refine S7 h rfl ?_ rfl ?_ | refine S8 h rfl ?_ rfl ?_
 ·first | exact Nat.lt_of_ble_eq_true rfl | (simp; done) | (simp; omega)
 clear h
 intro w h
 try simp only [N1,N2,N3,N4,N5,N6,N7] at h
 have h2:=uK (f:=⟨y.f.data++x,y.f.last⟩) (s:=s') h
 refine jB ha h2 fun w h=>?_
 refine hk _ (zJ.shuts rfl ?_ h)
 have e2:∀ v,yN n v (yN n y.f D.files) = yN n v D.files:=fun v=>by
  cases hm:zW n D.files with
  | none=>
   have:=uI (v:=y.f) hm
   rw [this,uI (v:=v) hm]
   have key:∀ (m:List (List UInt8×qP)),zW n m = none→yN n v (m++[(n,y.f)]) = m++[(n,v)]:=by
    intro m
    induction m with
    | nil=>intro _; simp [yN]
    | cons p m ih=>
     intro hm
     simp only [zW] at hm
     split at hm
     ·cases hm
     ·rename_i hne
      simp only [List.cons_append,yN,if_neg hne,ih hm]
   exact key _ hm
  | some g=>
   obtain ⟨a1,a2,g1,g2,_,g4⟩:=yu hm
   rw [g2,g2]
   have key:∀ (a1:List (List UInt8×qP)),(∀ p ∈ a1,p.1 ≠ n)→yN n v (a1++(n,y.f)::a2) = a1++(n,v)::a2:=by
    intro a1
    induction a1 with
    | nil=>intro _; simp [yN]
    | cons p a1 ih=>
     intro hne
     have:n ≠ p.1:=fun e=>hne p List.mem_cons_self e.symm
     simp only [List.cons_append,yN,if_neg this,ih (fun q hq=>hne q (List.mem_cons_of_mem _ hq))]
   exact key a1 g4
 show xw (l1++(n,(⟨⟨y.f.data++x,y.f.last⟩,y.p,s'⟩:yJ))::l2) = yN n ⟨y.f.data++x,y.f.last⟩ D.files
 have e3:=zCv (D:=⟨D.a,yN n y.f D.files⟩) (by rw [← e1]; exact hp) hy hms ⟨y.f.data++x,y.f.last⟩ y.p s'
 rw [e3]
 exact e2 _
theorem zDK {d:Nat} {D:zD} {n x:List UInt8} {data:Sl} {k:Int→K} (hD:OkD D) (hxl:x.length ≤ 100000000) (h:Holds B (zJ d D::Γ) w) (hr:∀ w,Holds B Γ w→RdB w data x)
  (hk:∀ w,OkD (D.append n x).1→Holds B (zJ d (D.append n x).1::Γ) w→k (D.append n x).2 w):zS.call (some ⟨d,0,none⟩) (bs n) data k w:=by
 have hdn:x.length = data.n:=by have:=(hr w h.tail).len; simpa using this
 obtain ⟨mb,fs,hp,h⟩:=zJ.opens h
 have hus:=hD.used
 have hro:=hD.roomN
 have hux:ji fs = y7 D.files:=by rw [zHB,hp]
 have hfl:fs.length = D.files.length:=by rw [← hp]; simp
 refine zBN _ _ _ _ _ ?_
 unfold zS
 unfold zD.append at hk
 replace h:=yO.opens h
 refine ug rfl ?_
 try simp only [yB,Nat.zero_add,Nat.reduceAdd]
 refine xI (x:=(some mb)) h rfl (by first | with_reducible exact M0 | with_reducible exact M1 | with_reducible exact M2 | with_reducible exact M3 | with_reducible exact M4 | with_reducible exact M5 | with_reducible exact M6 | with_reducible exact M7 | with_reducible exact M8 | with_reducible exact M9 | with_reducible exact M10 | with_reducible exact M11 | with_reducible exact M12) ?_ ?_
 ·exact rfl
 refine zIV 1 h at1 ?_
 refine xI (x:=D.a.down) h rfl (by first | with_reducible exact M0 | with_reducible exact M1 | with_reducible exact M2 | with_reducible exact M3 | with_reducible exact M4 | with_reducible exact M5 | with_reducible exact M6 | with_reducible exact M7 | with_reducible exact M8 | with_reducible exact M9 | with_reducible exact M10 | with_reducible exact M11 | with_reducible exact M12) ?_ ?_
 ·exact rfl
 refine yc (fun hb=>?_) (fun hb=>?_)
 ·rw [if_pos hb] at hk
  exact hk _ hD (zJ.shuts rfl hp (yO.shuts h))
 rw [if_neg (by rw [hb]; simp)] at hk
 refine zEN h ?_
 cases hnm:named n with
 | false=>
  rw [if_pos hnm] at hk
  exact qN rfl (hk _ hD (zJ.shuts rfl hp (yO.shuts h)))
 | true=>
  rw [if_neg (by rw [hnm]; simp)] at hk
  refine zk rfl ?_
  have main:∀ (t:Bool) w,(t = true→zW n D.files = none∧32 ≤ D.files.length)→(t = false→¬ (zW n D.files = none∧32 ≤ D.files.length))→Holds B (yO d mb D.a fs::Γ) w→zS.s3 k ⟨d,0,none⟩ (bs n) data (zIz (zW n fs)) (zW n fs).isSome t w:=by
   intro t w ht1 ht2 h
   unfold zS.s3
   have full:((zW n D.files = none∧32 ≤ D.files.length)∨D.a.room - y7 D.files < x.length)→∀ w,Holds B (yO d mb D.a fs::Γ) w→k 2 w:=fun hc w h=>by
    rw [if_pos hc] at hk
    exact hk _ hD (zJ.shuts rfl hp h)
   refine yc (fun hb2=>?_) (fun hb2=>?_)
   ·unfold zS.s2
    rw [hb2]
    exact qN rfl (full (.inl (ht1 hb2)) _ h)
   replace h:=yO.opens h
   refine zBe h ?_
   clear h
   intro w h
   refine jm h ?_
   refine zBT (x:=D.a.room) rfl (by first | with_reducible exact M0 | with_reducible exact M1 | with_reducible exact M2 | with_reducible exact M3 | with_reducible exact M4 | with_reducible exact M5 | with_reducible exact M6 | with_reducible exact M7 | with_reducible exact M8 | with_reducible exact M9 | with_reducible exact M10 | with_reducible exact M11 | with_reducible exact M12) ?_ ?_
   ·exact rfl
   refine zI1 (by omega) (yO.shuts h) fun w h=>?_
   refine zEf (yO.opens h) ?_
   rw [hux]
   refine qY (e':=D.a.room - y7 D.files) (wrap64 (by have:=hD.room1; omega) (by omega)) ?_
   unfold zS.s2
   refine yc (fun hb3=>?_) (fun hb3=>?_)
   ·simp only [decide_eq_true_eq] at hb3
    exact full (.inr (by omega)) _ h
   simp only [decide_eq_false_iff_not] at hb3
   have hnf:¬ ((zW n D.files = none∧32 ≤ D.files.length)∨D.a.room - y7 D.files < x.length):=by
    rintro (hc | hc)
    ·exact ht2 hb2 hc
    ·omega
   rw [if_neg hnf] at hk
   simp only at hk
   cases hm:zW n fs with
   | some y=>
    have hmD:=zBp hp hm
    have hdl:=jv hD hmD
    rw [hmD] at hk
    simp only [Option.getD_some] at hk
    have hul:y.f.data.length ≤ y7 D.files:=by
     obtain ⟨l1,l2,h1,_⟩:=yu hmD
     have:=zFM (show (n,y.f) ∈ D.files by rw [h1]; simp)
     exact this
    have hsame:yN n y.f D.files = D.files:=by
     obtain ⟨l1,l2,h1,h2,_⟩:=yu hmD
     rw [h2]; exact h1.symm
    refine zk rfl ?_
    refine zFQ hD hD.left hm (by rw [hsame]; exact hp) (by omega) hr h fun w h=>hk _ ?_ h
    exact (hD.set (f':=⟨y.f.data++x,y.f.last⟩) hmD (by simp; omega) (by simp; omega)).chg
   | none=>
    have hmD:=zAY hp hm
    rw [hmD] at hk
    simp only [Option.getD_none,List.nil_append] at hk
    refine qN rfl ?_
    refine vX h ?_
    clear h
    intro t52 w h
    try simp only [yB,Nat.zero_add,Nat.reduceAdd]
    have h1:=(h.zAJ zV 1)
    replace h:=h1
    replace h:=P1 h
    replace h:=P2 h
    try simp only [N1,N2,N3,N4,N5,N6,N7] at h
    replace h:=yO.opens h
    try simp only [yB,Nat.zero_add,Nat.reduceAdd]
    refine xI (x:=(some mb)) h rfl (by first | with_reducible exact M0 | with_reducible exact M1 | with_reducible exact M2 | with_reducible exact M3 | with_reducible exact M4 | with_reducible exact M5 | with_reducible exact M6 | with_reducible exact M7 | with_reducible exact M8 | with_reducible exact M9 | with_reducible exact M10 | with_reducible exact M11 | with_reducible exact M12) ?_ ?_
    ·exact rfl
    replace h:=P4 h
    replace h:=P4 h
    replace h:=P4 h
    replace h:=P3 h
    replace h:=P4 h
    try simp only [N1,N2,N3,N4,N5,N6,N7] at h
    refine zIM (enc:=x9) (cV:=fV) (a:=n) (v:=(⟨⟨[],0⟩,t52,⟨none,0,0⟩⟩:yJ)) zEq jg h fun w h=>?_
    replace h:=P1 h
    replace h:=P2 h
    replace h:=P4 h
    replace h:=P4 h
    try simp only [N1,N2,N3,N4,N5,N6,N7] at h
    replace h:=zCw (n:=n) (x:=(⟨⟨[],0⟩,t52,⟨none,0,0⟩⟩:yJ)) h
    replace h:=P2 h
    replace h:=P2 h
    try simp only [N1,N2,N3,N4,N5,N6,N7] at h
    have hpl:xw (yN n (⟨⟨[],0⟩,t52,⟨none,0,0⟩⟩:yJ) fs) = yN n ⟨[],0⟩ D.files:=by
     rw [← hp]
     exact (zA1 (fun x:yJ=>x.f) n (⟨⟨[],0⟩,t52,⟨none,0,0⟩⟩:yJ) fs).symm
    have hgm:zW n (yN n (⟨⟨[],0⟩,t52,⟨none,0,0⟩⟩:yJ) fs) = some ⟨⟨[],0⟩,t52,⟨none,0,0⟩⟩:=by
     rw [uI hm]
     have key:∀ (m:List (List UInt8×yJ)),zW n m = none→∀ v,zW n (m++[(n,v)]) = some v:=by
      intro m
      induction m with
      | nil=>intro _ v; simp [zW]
      | cons p m ih=>
       intro hm v
       simp only [zW] at hm
       split at hm
       ·cases hm
       ·rename_i hne
        simp only [List.cons_append,zW,if_neg hne,ih hm]
     exact key _ hm _
    refine zFQ (y:=(⟨⟨[],0⟩,t52,⟨none,0,0⟩⟩:yJ)) hD hD.left hgm hpl (by simp; omega) hr (yO.shuts h) fun w h=>hk _ ?_ (by simpa using h)
    have hfew:D.files.length < 32:=by
     have:=ht2 hb2
     by_cases h32:32 ≤ D.files.length
     ·exact absurd ⟨hmD,h32⟩ this
     ·omega
    exact (hD.push (f:=⟨x,0⟩) hmD hfew (Nat.zero_le _) (by simp only; omega)).chg
  cases hm:zW n fs with
  | none=>
   refine qN rfl ?_
   refine xI (x:=(some mb)) h rfl (by first | with_reducible exact M0 | with_reducible exact M1 | with_reducible exact M2 | with_reducible exact M3 | with_reducible exact M4 | with_reducible exact M5 | with_reducible exact M6 | with_reducible exact M7 | with_reducible exact M8 | with_reducible exact M9 | with_reducible exact M10 | with_reducible exact M11 | with_reducible exact M12) ?_ ?_
   ·exact rfl
   refine zNV 1 zEq h at1 ?_
   have:=main (decide ((32:Int) ≤ (fs.length:Int))) w (fun ht=>⟨zAY hp hm,by simp only [decide_eq_true_eq] at ht; omega⟩) (fun ht=>by simp only [decide_eq_false_iff_not] at ht; omega) (yO.shuts h)
   rw [hm] at this
   exact this
  | some y=>
   refine zk rfl ?_
   have:=main false w (fun ht=>by cases ht) (fun _ hc=>by rw [zBp hp hm] at hc; cases hc.1) (yO.shuts h)
   rw [hm] at this
   exact this
end
end
section
open Go Go.Sep
def zD.names (D:zD):List (List UInt8):=jA (D.files.map Prod.fst)
def zD.file (D:zD) (n:List UInt8):qP:=(zW n D.files).getD ⟨[],0⟩
def kinds (f:qP):Nat:=f.data.length - f.last + 1
def uV (keeps:List Int) (i:Nat) (f:qP):Nat:=match keeps[i]? with
 | none=>0
 | some k=>((k.tmod (kinds f) + kinds f).tmod (kinds f)).toNat
theorem zCx (keeps:List Int) (i:Nat) (f:qP):uV keeps i f ≤ f.data.length - f.last:=by
 unfold uV
 split
 ·exact Nat.zero_le _
 ·rename_i k _
  have hk:(0:Int) < kinds f:=by unfold kinds; omega
  have:=Int.tmod_lt_of_pos (k.tmod (kinds f) + kinds f) hk
  unfold kinds at *
  omega
def xX (keeps:List Int) (i:Nat) (f:qP):qP:=⟨f.data.take (f.last + uV keeps i f),f.last + uV keeps i f⟩
def xE (keeps:List Int) (g:List UInt8→qP) (ns:List (List UInt8)):Files:=ns.zipIdx.map fun p=>(p.1,xX keeps p.2 (g p.1))
def zD.crash (D:zD) (keeps:List Int):zD:=⟨⟨D.a.room,-1,false⟩,xE keeps D.file D.names⟩
theorem zAZ (keeps:List Int) (g:List UInt8→qP) (ns:List (List UInt8)):(xE keeps g ns).map Prod.fst = ns:=by
 unfold xE
 rw [List.map_map]
 have:(Prod.fst ∘ fun p:List UInt8×Nat=>(p.1,xX keeps p.2 (g p.1))) = Prod.fst:=rfl
 rw [this,List.zipIdx_map_fst]
theorem zHn (keeps:List Int) (g:List UInt8→qP) (ns:List (List UInt8)):(xE keeps g ns).length = ns.length:=by simp [xE]
theorem zHC (keeps:List Int) (g:List UInt8→qP) (ns:List (List UInt8)) (n:List UInt8):xE keeps g (ns++[n]) = xE keeps g ns++[(n,xX keeps ns.length (g n))]:=by
 unfold xE
 rw [List.zipIdx_append,List.map_append]
 simp
theorem zCJ {α β:Type} [DecidableEq α] {k:α} {x:β} {m:List (α×β)} (h:zW k m = some x):(k,x) ∈ m:=by
 obtain ⟨l1,l2,h1,_⟩:=yu h
 rw [h1]; simp
theorem jC {α β:Type} [DecidableEq α] {p:α×β}:∀ {m:List (α×β)},(m.map Prod.fst).Nodup→p ∈ m→zW p.1 m = some p.2
 | [],_,h=>by cases h
 | q::m,hn,h=>by
  simp only [List.map_cons,List.nodup_cons] at hn
  rcases List.mem_cons.1 h with rfl | h
  ·simp [zW]
  ·have:p.1 ≠ q.1:=fun e=>hn.1 (by rw [← e]; exact List.mem_map_of_mem h)
   simp only [zW,if_neg this]
   exact jC hn.2 h
theorem zAO {α β:Type} [DecidableEq α] {k:α} {m:List (α×β)} (h:k ∈ m.map Prod.fst):∃ x,zW k m = some x:=by
 cases hm:zW k m with
 | some x=>exact ⟨x,rfl⟩
 | none=>
  obtain ⟨p,hp,rfl⟩:=List.mem_map.1 h
  exact absurd rfl (zAB hm p hp)
theorem zBF {D:zD} {n:List UInt8}:n ∈ D.names ↔ n ∈ D.files.map Prod.fst:=zIy
theorem zFR (D:zD):D.names.length = D.files.length:=by unfold zD.names; rw [zIx]; simp
theorem zA5 {D:zD} (h:OkD D):D.names.Nodup:=(List.mergeSort_perm _ _).nodup_iff.2 h.nodup
def zEP (g:List UInt8→qP):List (List UInt8)→Nat
 | []=>0
 | n::ns=>(g n).data.length + zEP g ns
theorem zI2 {g:List UInt8→qP} {a b:List (List UInt8)} (h:a.Perm b):zEP g a = zEP g b:=by
 induction h with
 | nil=>rfl
 | cons x _ ih=>simp only [zEP,ih]
 | swap x y l=>simp only [zEP]; omega
 | trans _ _ ih1 ih2=>rw [ih1,ih2]
theorem zHo {D:zD} (h:OkD D):zEP D.file (D.files.map Prod.fst) = y7 D.files:=by
 have key:∀ fs:Files,(∀ p ∈ fs,D.file p.1 = p.2)→zEP D.file (fs.map Prod.fst) = y7 fs:=by
  intro fs
  induction fs with
  | nil=>intro _; rfl
  | cons p fs ih=>
   intro hp
   simp only [List.map_cons,zEP,y7,hp p List.mem_cons_self,ih (fun q hq=>hp q (List.mem_cons_of_mem _ hq))]
 refine key _ fun p hp=>?_
 unfold zD.file
 rw [jC h.nodup hp]; rfl
theorem zDL (keeps:List Int) (g:List UInt8→qP):∀ (ns:List (List UInt8)) (i:Nat),y7 ((ns.zipIdx i).map fun p=>(p.1,xX keeps p.2 (g p.1))) ≤ zEP g ns
 | [],_=>Nat.le_refl _
 | n::ns,i=>by
  have:=zDL keeps g ns (i + 1)
  simp only [List.zipIdx_cons,List.map_cons,y7,zEP,xX,List.length_take] at this ⊢
  omega
theorem zI3 {D:zD} (h:OkD D) (n:List UInt8):(D.file n).last ≤ (D.file n).data.length:=by
 unfold zD.file
 cases hm:zW n D.files with
 | none=>simp
 | some f=>exact (jv h hm).2
theorem OkD.crash {D:zD} (h:OkD D) (keeps:List Int):OkD (D.crash keeps):=by
 have hnd:=zA5 h
 refine ⟨h.room1,h.roomN,?_,?_,⟨show (-9223372036854775808:Int) < -1 by decide,show (-1:Int) ≤ 9223372036854775807 by decide⟩,?_,?_⟩
 ·have h1:=zDL keeps D.file D.names 0
  have h2:zEP D.file D.names = y7 D.files:=(zI2 (List.mergeSort_perm _ _)).trans (zHo h)
  have h3:=h.used
  simp only [zD.crash,xE]
  omega
 ·simp only [zD.crash,zHn,zFR]; exact h.few
 ·intro p hp
  simp only [zD.crash,xE] at hp
  obtain ⟨q,_,rfl⟩:=List.mem_map.1 hp
  have h1:=zCx keeps q.2 (D.file q.1)
  have h2:=zI3 h q.1
  simp only [xX,List.length_take]
  omega
 ·simp only [zD.crash,zAZ]; exact hnd
section
variable {B w:World} {Γ:List zC}
theorem zHp {d:Nat} {D:zD} {k:Sl→K} (hD:OkD D) (h:Holds B (zJ d D::Γ) w) (hk:∀ s w,Holds B (SlS s D.names::zJ d D::Γ) w→k s w):xK.call (some ⟨d,0,none⟩) k w:=by
 obtain ⟨mb,fs,hp,h⟩:=zJ.opens h
 have hfl:fs.length = D.files.length:=by rw [← hp]; simp
 have hfew:=hD.few
 refine zBi _ _ _ ?_
 unfold xK
 replace h:=yO.opens h
 refine ug rfl ?_
 try simp only [yB,Nat.zero_add,Nat.reduceAdd]
 refine xI (x:=(some mb)) h rfl (by first | with_reducible exact M0 | with_reducible exact M1 | with_reducible exact M2 | with_reducible exact M3 | with_reducible exact M4 | with_reducible exact M5 | with_reducible exact M6 | with_reducible exact M7 | with_reducible exact M8 | with_reducible exact M9 | with_reducible exact M10 | with_reducible exact M11 | with_reducible exact M12) ?_ ?_
 ·exact rfl
 replace h:=P2 h
 replace h:=P1 h
 replace h:=P2 h
 try simp only [N1,N2,N3,N4,N5,N6,N7] at h
 refine zCu (by omega) h fun s w h=>?_
 have e:fs.map Prod.fst = D.files.map Prod.fst:=by rw [← hp]; simp [xw]
 rw [e] at h
 replace h:=P3 h
 replace h:=P2 h
 replace h:=P3 h
 try simp only [N1,N2,N3,N4,N5,N6,N7] at h
 exact hk s _ (zJ.shuts rfl hp (yO.shuts h)).swap
theorem zHq {d:Nat} {D:zD} {keeps:Sl} {ks:List Int} {k:Option Addr→K} (hD:OkD D) (h:Holds B (zJ d D::Γ) w) (hr:∀ w,Holds B Γ w→RdC w keeps 1 (ks.map (Value.int .i64)))
  (hk:∀ o w,Holds B (zJ o (D.crash ks)::zJ d D::Γ) w→k (some ⟨o,0,none⟩) w):z8.call (some ⟨d,0,none⟩) keeps k w:=by
 have hkn:ks.length = keeps.n:=by have:=(hr w h.tail).len; simpa using this
 obtain ⟨mb,fs,hp,h⟩:=zJ.opens h
 refine zBh _ _ _ _ ?_
 unfold z8
 replace h:=yO.opens h
 refine ug rfl ?_
 refine xI (x:=D.a.room) h rfl (by first | with_reducible exact M0 | with_reducible exact M1 | with_reducible exact M2 | with_reducible exact M3 | with_reducible exact M4 | with_reducible exact M5 | with_reducible exact M6 | with_reducible exact M7 | with_reducible exact M8 | with_reducible exact M9 | with_reducible exact M10 | with_reducible exact M11 | with_reducible exact M12) ?_ ?_
 ·exact rfl
 refine zIL (d:=.string) (E:=vJ) (enc:=x9) (cV:=fV) h fun mo w h=>?_
 refine vX h ?_
 clear h
 intro out w h
 try simp only [yB,Nat.zero_add,Nat.reduceAdd]
 replace h:=P1 h
 replace h:=P1 h
 replace h:=P4 h
 replace h:=P4 h
 replace h:=P4 h
 try simp only [N1,N2,N3,N4,N5,N6,N7] at h
 have h1:=zJ.shuts (D:=D) rfl hp (yO.shuts h)
 refine zHp hD h1 fun t20 w h=>?_
 clear h1
 have hnl:=zFR D
 have hfew:=hD.few
 have hnd:=zA5 hD
 have hO:Holds B (zJ out ⟨⟨D.a.room,-1,false⟩,xE ks D.file (D.names.take 0)⟩::SlS t20 D.names::zJ d D::Γ) w:=by
  have h5:=h.zAD
  replace h:=h5
  replace h:=P2 h
  replace h:=P2 h
  replace h:=P2 h
  replace h:=P4 h
  replace h:=P4 h
  try simp only [N1,N2,N3,N4,N5,N6,N7] at h
  exact zJ.shuts (D:=⟨⟨D.a.room,-1,false⟩,_⟩) (mb:=mo) (fs:=[]) rfl rfl (yO.shuts h)
 clear h
 have hsn:D.names.length = t20.n:=by have:=(hO.pick 1 at1).jd.1; simpa using this
 refine yY.of (fun t w=>∃ i:Nat,t = (i:Int)∧i ≤ D.names.length∧Holds B (zJ out ⟨⟨D.a.room,-1,false⟩,xE ks D.file (D.names.take i)⟩::SlS t20 D.names::zJ d D::Γ) w) (fun t _=>((t20.n:Int) - t).toNat) ⟨0,rfl,by omega,hO⟩ ?_
 clear hO hp
 rintro t w ⟨i,rfl,hi,h⟩
 unfold z8.b1
 refine yc (fun hb=>?_) (fun hb=>?_)
 ·simp only [decide_eq_true_eq] at hb
  have hx:D.names[i]? = some D.names[i]:=List.getElem?_eq_getElem (by omega)
  generalize hN:D.names[i] = n at hx
  have hnm:n ∈ D.files.map Prod.fst:=zBF.1 (List.mem_of_getElem? hx)
  have hrd:RdC w t20 1 ((D.names.map bs).map Value.string):=by
   have:=h.rdC (E:=q9) (esz:=1) (s:=t20) (vs:=D.names.map x9) (List.mem_cons_of_mem _ List.mem_cons_self)
   rw [List.map_map]
   exact this
  refine zEB hrd (x:=bs n) (by rw [List.getElem?_map,hx]; rfl) ?_
  replace h:=P1 h
  replace h:=P1 h
  replace h:=P2 h
  try simp only [N1,N2,N3,N4,N5,N6,N7] at h
  obtain ⟨mb,fs,hp,h⟩:=zJ.opens h
  replace h:=yO.opens h
  try simp only [yB,Nat.zero_add,Nat.reduceAdd]
  refine xI (x:=(some mb)) h rfl (by first | with_reducible exact M0 | with_reducible exact M1 | with_reducible exact M2 | with_reducible exact M3 | with_reducible exact M4 | with_reducible exact M5 | with_reducible exact M6 | with_reducible exact M7 | with_reducible exact M8 | with_reducible exact M9 | with_reducible exact M10 | with_reducible exact M11 | with_reducible exact M12) ?_ ?_
  ·exact rfl
  refine zLj 1 h at1 ?_
  obtain ⟨f,hf⟩:=zAO hnm
  have hfx:∃ x,zW n fs = some x∧x.f = f:=by
   rw [← hp,zBo] at hf
   cases hm:zW n fs with
   | none=>rw [hm] at hf; cases hf
   | some x=>rw [hm] at hf; simp only [Option.map_some,Option.some.injEq] at hf; exact ⟨x,rfl,hf⟩
  obtain ⟨x,hx2,rfl⟩:=hfx
  have hDf:D.file n = x.f:=by unfold zD.file; rw [hf]; rfl
  have hdl:=jv hD hf
  rw [hx2]
  have hkl:=zCx ks i x.f
  have main:∀ w,Holds B (yO d mb D.a fs::zJ out ⟨⟨D.a.room,-1,false⟩,xE ks D.file (D.names.take i)⟩::SlS t20 D.names::Γ) w →
    z8.s2 k (fun t w'=>(∃ i:Nat,t = (i:Int)∧i ≤ D.names.length∧Holds B (zJ out ⟨⟨D.a.room,-1,false⟩,xE ks D.file (D.names.take i)⟩::SlS t20 D.names::zJ d D::Γ) w')∧((t20.n:Int) - t).toNat < ((t20.n:Int) - (i:Int)).toNat) ⟨d,0,none⟩ keeps ⟨out,0,none⟩ (bs n) (some ⟨x.p,0,none⟩) (uV ks i x.f:Int) t20 (t20.n:Int) (i:Int) w:=by
   intro w h
   unfold z8.s2
   refine ug rfl ?_
   obtain ⟨l1,l2,e1,hms,_⟩:=yu hx2
   rw [e1] at h hp
   replace h:=uD h
   try simp only [yB,Nat.zero_add,Nat.reduceAdd]
   refine xI (x:=(x.f.last:Int)) h rfl (by first | with_reducible exact M0 | with_reducible exact M1 | with_reducible exact M2 | with_reducible exact M3 | with_reducible exact M4 | with_reducible exact M5 | with_reducible exact M6 | with_reducible exact M7 | with_reducible exact M8 | with_reducible exact M9 | with_reducible exact M10 | with_reducible exact M11 | with_reducible exact M12) ?_ ?_
   ·exact rfl
   refine qY (e':=((x.f.last + uV ks i x.f:Nat):Int)) (by rw [wrap64 (by omega) (by omega)]; omega) ?_
   replace h:=P7 h
   replace h:=P6 h
   replace h:=P6 h
   replace h:=P6 h
   replace h:=P6 h
   replace h:=P6 h
   replace h:=P6 h
   replace h:=P7 h
   try simp only [N1,N2,N3,N4,N5,N6,N7] at h
   obtain ⟨mo,fo,hpo,h⟩:=zJ.opens h
   replace h:=yO.opens h
   have hxs:=Bytes.len (h.pick 4 at4)
   have hsc:=(h.pick 4 at4).jd
   refine zBe h ?_
   clear h
   intro w h
   refine jm h ?_
   try simp only [yB,Nat.zero_add,Nat.reduceAdd]
   refine zBT (x:=(some mo)) rfl (by first | with_reducible exact M0 | with_reducible exact M1 | with_reducible exact M2 | with_reducible exact M3 | with_reducible exact M4 | with_reducible exact M5 | with_reducible exact M6 | with_reducible exact M7 | with_reducible exact M8 | with_reducible exact M9 | with_reducible exact M10 | with_reducible exact M11 | with_reducible exact M12) ?_ ?_
   ·exact rfl
   refine zBT (x:=x.s) rfl (by first | with_reducible exact M0 | with_reducible exact M1 | with_reducible exact M2 | with_reducible exact M3 | with_reducible exact M4 | with_reducible exact M5 | with_reducible exact M6 | with_reducible exact M7 | with_reducible exact M8 | with_reducible exact M9 | with_reducible exact M10 | with_reducible exact M11 | with_reducible exact M12) ?_ ?_
   ·exact rfl
   refine ⟨_,by omega,by omega,by omega,by omega,rfl,?_⟩
   simp only [Int.toNat_natCast,show (0:Int).toNat = 0 from rfl,zNG hsc.2.2.1,Nat.sub_zero]
   have htl:(x.f.data.take (x.f.last + uV ks i x.f)).length ≤ 1000000000:=by simp; omega
   refine qR (xs:=x.f.data.take (x.f.last + uV ks i x.f)) h (fun w h=>zKC (Bytes.rd (s:=x.s) (xs:=x.f.data) h (by first | with_reducible exact M0 | with_reducible exact M1 | with_reducible exact M2 | with_reducible exact M3 | with_reducible exact M4 | with_reducible exact M5 | with_reducible exact M6 | with_reducible exact M7 | with_reducible exact M8 | with_reducible exact M9 | with_reducible exact M10 | with_reducible exact M11 | with_reducible exact M12)) (by omega)) htl fun t75 w h _=>?_
   refine zEf h.tail ?_
   refine vX h ?_
   clear h
   intro t78 w h
   try simp only [yB,Nat.zero_add,Nat.reduceAdd]
   refine zEf h.tail.tail ?_
   replace h:=P10 h
   replace h:=P10 h
   replace h:=P10 h
   replace h:=P10 h
   replace h:=P10 h
   replace h:=P10 h
   replace h:=P10 h
   replace h:=P9 h
   replace h:=P9 h
   replace h:=P9 h
   replace h:=P10 h
   try simp only [N1,N2,N3,N4,N5,N6,N7] at h
   refine zIM (enc:=x9) (cV:=fV) (a:=n) (v:=(⟨xX ks i x.f,t78,t75⟩:yJ)) zEq jg h fun w h=>?_
   replace h:=P10 h
   replace h:=P10 h
   replace h:=P10 h
   replace h:=P10 h
   replace h:=P10 h
   replace h:=P10 h
   replace h:=P6 h
   replace h:=P9 h
   replace h:=P10 h
   replace h:=P10 h
   replace h:=P10 h
   try simp only [N1,N2,N3,N4,N5,N6,N7] at h
   replace h:=zCw (n:=n) (x:=(⟨xX ks i x.f,t78,t75⟩:yJ)) h
   replace h:=P8 h
   replace h:=P8 h
   replace h:=P8 h
   replace h:=P8 h
   replace h:=P8 h
   replace h:=P8 h
   replace h:=P6 h
   replace h:=P8 h
   replace h:=P8 h
   try simp only [N1,N2,N3,N4,N5,N6,N7] at h
   have hout:=zJ.shuts (D:=⟨⟨D.a.room,-1,false⟩,xE ks D.file (D.names.take (i + 1))⟩) (a:=⟨D.a.room,-1,false⟩) (mb:=mo) (fs:=yN n (⟨xX ks i x.f,t78,t75⟩:yJ) fo) rfl (by
    show xw (yN n (⟨xX ks i x.f,t78,t75⟩:yJ) fo) = xE ks D.file (D.names.take (i + 1))
    have e2:=(zA1 (fun x:yJ=>x.f) n (⟨xX ks i x.f,t78,t75⟩:yJ) fo).symm
    have e3:xw (yN n (⟨xX ks i x.f,t78,t75⟩:yJ) fo) = yN n (xX ks i x.f) (xw fo):=e2
    rw [e3,hpo]
    have hlt:i < D.names.length:=by omega
    have e4:D.names.take (i + 1) = D.names.take i++[n]:=by rw [List.take_succ_eq_append_getElem hlt,hN]
    rw [e4,zHC,List.length_take,Nat.min_eq_left (by omega),hDf]
    refine uI ?_
    cases hm:zW n (xE ks D.file (D.names.take i)) with
    | none=>rfl
    | some y=>
     exfalso
     have h1:=List.mem_map_of_mem (f:=Prod.fst) (zCJ hm)
     rw [zAZ] at h1
     rw [← List.take_append_drop i D.names,List.nodup_append] at hnd
     have h2:n ∈ D.names.drop i:=by
      rw [← hN]
      exact List.mem_of_getElem? (i:=0) (by rw [List.getElem?_drop]; simp [List.getElem?_eq_getElem hlt])
     exact hnd.2.2 n h1 n h2 rfl) (yO.shuts h)
   refine jo (by omega) (by omega) ?_
   refine ⟨⟨i + 1,by omega,by omega,?_⟩,by omega⟩
   replace h:=hout
   replace h:=P7 h
   replace h:=P1 h
   replace h:=P7 h
   replace h:=P7 h
   replace h:=P7 h
   replace h:=P7 h
   replace h:=P7 h
   replace h:=P7 h
   try simp only [N1,N2,N3,N4,N5,N6,N7] at h
   have h6:=zJ.shuts (D:=D) rfl hp (uK h)
   replace h:=h6
   replace h:=P2 h
   replace h:=P2 h
   try simp only [N1,N2,N3,N4,N5,N6,N7] at h
   exact h
  refine yc (fun hb2=>?_) (fun hb2=>?_)
  ·simp only [decide_eq_true_eq] at hb2
   have hkx:ks[i]? = some ks[i]:=List.getElem?_eq_getElem (by omega)
   generalize ks[i] = kv at hkx
   refine zBe h ?_
   clear h
   intro w h
   refine ug rfl ?_
   obtain ⟨l1,l2,e1,hms,_⟩:=yu hx2
   rw [e1] at h hp
   replace h:=uD (yO.shuts h)
   have hxs:=Bytes.len h.tail
   try simp only [yB,Nat.zero_add,Nat.reduceAdd]
   refine xI (x:=x.s) h rfl (by first | with_reducible exact M0 | with_reducible exact M1 | with_reducible exact M2 | with_reducible exact M3 | with_reducible exact M4 | with_reducible exact M5 | with_reducible exact M6 | with_reducible exact M7 | with_reducible exact M8 | with_reducible exact M9 | with_reducible exact M10 | with_reducible exact M11 | with_reducible exact M12) ?_ ?_
   ·exact rfl
   refine xI (x:=(x.f.last:Int)) h rfl (by first | with_reducible exact M0 | with_reducible exact M1 | with_reducible exact M2 | with_reducible exact M3 | with_reducible exact M4 | with_reducible exact M5 | with_reducible exact M6 | with_reducible exact M7 | with_reducible exact M8 | with_reducible exact M9 | with_reducible exact M10 | with_reducible exact M11 | with_reducible exact M12) ?_ ?_
   ·exact rfl
   have hki:(kinds x.f:Int) = x.f.data.length - x.f.last + 1:=by unfold kinds; omega
   refine qY (e':=(x.f.data.length:Int) - x.f.last) (by rw [wrap64 (by omega) (by omega)]; omega) ?_
   refine qY (e':=(kinds x.f:Int)) (by rw [wrap64 (by omega) (by omega)]; omega) ?_
   have hrk:=hr _ h.tail.tail.tail.tail.tail.tail.tail.tail
   refine zEB hrk hkx ?_
   have hkp:(0:Int) < kinds x.f:=by omega
   have hb1:=Int.tmod_lt_of_pos kv hkp
   have hb2:-(kinds x.f:Int) < kv.tmod (kinds x.f):=by
    have:=Int.tmod_lt_of_pos (-kv) hkp
    rw [Int.neg_tmod] at this
    omega
   refine zEg (by omega) ?_
   refine qY rfl ?_
   refine qY (e':=kv.tmod (kinds x.f) + kinds x.f) (wrap64 (by omega) (by omega)) ?_
   refine zEg (by omega) ?_
   have hnn:=Int.tmod_nonneg (kinds x.f:Int) (show 0 ≤ kv.tmod (kinds x.f) + kinds x.f by omega)
   refine qY (e':=(uV ks i x.f:Int)) (by unfold uV; rw [hkx]; simp only; omega) ?_
   have h7:=uK h
   rw [← e1] at h7
   exact main _ h7
  ·simp only [decide_eq_false_iff_not] at hb2
   have hk0:uV ks i x.f = 0:=by unfold uV; rw [List.getElem?_eq_none (by omega)]
   rw [hk0] at main
   exact main _ (yO.shuts h)
 ·simp only [decide_eq_false_iff_not] at hb
  have hti:D.names.take i = D.names:=List.take_of_length_le (by omega)
  rw [hti] at h
  exact hk out _ (h.del 1 at1)
end
end
section
open Go Go.Sep
section
variable {B w:World} {Γ:List zC}
theorem zHr {d:Nat} {D:zD} {c:Int} {k:K} (h:Holds B (zJ d D::Γ) w) (hk:∀ w,Holds B (zJ d { D with a:={ D.a with left:=if -1 > c then -1 else c } }::Γ) w→k w):xJ.call (some ⟨d,0,none⟩) c k w:=by
 obtain ⟨mb,fs,hp,h⟩:=zJ.opens h
 replace h:=yO.opens h
 refine zBg _ _ _ _ ?_
 unfold xJ
 refine qY rfl ?_
 refine ug rfl ?_
 try simp only [yB,Nat.zero_add,Nat.reduceAdd]
 first | refine S0 h rfl ?_ rfl ?_ | refine S1 h rfl ?_ rfl ?_ | refine S2 h rfl ?_ rfl ?_ | refine S3 h rfl ?_ rfl ?_ | refine S4 h rfl ?_ rfl ?_ | refine S5 h rfl ?_ rfl ?_ | refine S6 h rfl ?_ rfl ?_ | refine S7 h rfl ?_ rfl ?_ | refine S8 h rfl ?_ rfl ?_
 ·first | exact Nat.lt_of_ble_eq_true rfl | (simp; done) | (simp; omega)
 clear h
 intro w h
 try simp only [N1,N2,N3,N4,N5,N6,N7] at h
 refine hk _ (zJ.shuts (a:={ D.a with left:=if -1 > c then -1 else c }) (mb:=mb) (fs:=fs) rfl hp (yO.shuts h))
theorem zHD {d:Nat} {D:zD} {n m:List UInt8} {k:Int→K} (hD:OkD D) (h:Holds B (zJ d D::Γ) w) (hk:∀ w,OkD (D.rename n m).1→Holds B (zJ d (D.rename n m).1::Γ) w→k (D.rename n m).2 w):zH.call (some ⟨d,0,none⟩) (bs n) (bs m) k w:=by
 obtain ⟨mb,fs,hp,h⟩:=zJ.opens h
 refine zBO _ _ _ _ _ ?_
 unfold zH
 unfold zD.rename at hk
 refine find_spec h (fun hd w h=>?_) (fun hd hx w h=>?_) (fun x hd hx w h=>?_)
 ·rw [if_pos hd] at hk
  refine zk rfl ?_
  unfold zH.s4 zH.s1 zH.s2 zH.s3
  exact zk rfl (zk rfl (zk rfl (hk _ hD (zJ.shuts rfl hp h))))
 ·rw [if_neg (by rw [hd]; simp),zAY hp hx] at hk
  refine zk rfl ?_
  unfold zH.s4 zH.s1 zH.s2 zH.s3
  exact zk rfl (zk rfl (zk rfl (hk _ hD (zJ.shuts rfl hp h))))
 ·have hm:=zBp hp hx
  rw [if_neg (by rw [hd]; simp),hm] at hk
  simp only at hk
  refine qN rfl ?_
  refine zEN h ?_
  unfold zH.s4 zH.s1
  cases hnm:named m with
  | false=>
   rw [if_pos hnm] at hk
   refine qN rfl (zk rfl ?_)
   unfold zH.s2 zH.s3
   exact zk rfl (hk _ hD (zJ.shuts rfl hp h))
  | true=>
   rw [if_neg (by rw [hnm]; simp)] at hk
   refine zk rfl (qN rfl ?_)
   refine jB hD.left h fun w h=>?_
   unfold zH.s2 zH.s3
   refine yc (fun hb=>?_) (fun hb=>?_)
   ·simp only [decide_eq_true_eq] at hb
    rw [if_pos hb] at hk
    obtain ⟨l1,l2,e1,hms,hmd,_⟩:=yu hx
    replace h:=yO.opens h
    refine ug rfl ?_
    try simp only [yB,Nat.zero_add,Nat.reduceAdd]
    refine xI (x:=(some mb)) h rfl (by first | with_reducible exact M0 | with_reducible exact M1 | with_reducible exact M2 | with_reducible exact M3 | with_reducible exact M4 | with_reducible exact M5 | with_reducible exact M6 | with_reducible exact M7 | with_reducible exact M8 | with_reducible exact M9 | with_reducible exact M10 | with_reducible exact M11 | with_reducible exact M12) ?_ ?_
    ·exact rfl
    replace h:=P2 h
    replace h:=P1 h
    replace h:=P2 h
    try simp only [N1,N2,N3,N4,N5,N6,N7] at h
    refine zFD (enc:=x9) (cV:=fV) (a:=n) zEq jg h fun w h=>?_
    rw [e1] at h hp hx hms hmd
    rw [hmd] at h
    try simp only [yB,Nat.zero_add,Nat.reduceAdd]
    refine xI (x:=(some mb)) h rfl (by first | with_reducible exact M0 | with_reducible exact M1 | with_reducible exact M2 | with_reducible exact M3 | with_reducible exact M4 | with_reducible exact M5 | with_reducible exact M6 | with_reducible exact M7 | with_reducible exact M8 | with_reducible exact M9 | with_reducible exact M10 | with_reducible exact M11 | with_reducible exact M12) ?_ ?_
    ·exact rfl
    refine zIM (enc:=x9) (cV:=fV) (a:=m) (v:=x) zEq jg h fun w h=>?_
    replace h:=P1 h
    replace h:=P2 h
    try simp only [N1,N2,N3,N4,N5,N6,N7] at h
    replace h:=jh h
    replace h:=zCw (n:=m) (zHm h)
    replace h:=P2 h
    replace h:=P2 h
    try simp only [N1,N2,N3,N4,N5,N6,N7] at h
    obtain ⟨g1,g2,g3,g4⟩:=hD.del hm
    have hfew:=hD.few
    have hus:=hD.used
    refine hk _ (g1.put (n:=m) (f:=x.f) (by simp only; omega) (jv hD hm).2 (by simp only; omega)).chg (zJ.shuts (mb:=mb) (fs:=yN m x (l1++l2)) rfl ?_ (yO.shuts h))
    show xw (yN m x (l1++l2)) = yN m x.f (xU n D.files)
    rw [← hp,← hmd]
    have e2:=zEI (fun x:yJ=>x.f) n (l1++(n,x)::l2)
    have e3:=zA1 (fun x:yJ=>x.f) m x (xU n (l1++(n,x)::l2))
    exact e3.symm.trans (by rw [← e2])
   ·simp only [decide_eq_false_iff_not] at hb
    rw [if_neg hb] at hk
    exact hk _ hD.chg (zJ.shuts rfl hp h)
end
end
section
open Go Go.Sep
def zm (n:List UInt8):List UInt8:=n++[126]
def zKP (D:zD) (n:List UInt8):zD×Int:=D.rename (zm n) n
def zIW (D:zD) (n:List UInt8):zD×Int:=if (D.sync (zm n)).2 ≠ 0 then D.sync (zm n) else zKP (D.sync (zm n)).1 n
def zHE (D:zD) (n x:List UInt8):zD×Int:=if (D.append (zm n) (yU x)).2 ≠ 0 then D.append (zm n) (yU x) else zIW (D.append (zm n) (yU x)).1 n
def zD.save (D:zD) (n x:List UInt8):zD×Int:=if n = []∨15 < n.length then (D,1) else
 if (D.remove (zm n)).2 ≠ 0∧(D.remove (zm n)).2 ≠ 60 then D.remove (zm n) else zHE (D.remove (zm n)).1 n x
theorem zNW (a b:List UInt8):bs a++bs b = bs (a++b):=by
 apply ByteArray.ext
 rw [ByteArray.data_append]
 simp [bs]
theorem zCK:∀ (n:Nat) (b:List UInt8),b.length = n→(qp b).length = b.length + 6 * ((b.length + 1023) / 1024):=by
 intro n
 induction n using Nat.strongRecOn with
 | _ n ih=>
  intro b hb
  by_cases h:b = []
  ·subst h; rw [uJ]; rfl
  ·have hp:0 < b.length:=List.length_pos_iff.2 h
   rw [xR h,List.length_append,yM]
   have:=ih (b.drop 1024).length (by simp; omega) _ rfl
   simp only [List.length_drop,List.length_take] at this ⊢
   omega
theorem pk {x:List UInt8} (h:x.length ≤ 5000):(yU x).length ≤ 5040:=by
 have h2:=zCK _ x rfl
 have h3:=xQ 2 x.length (by omega)
 unfold yU
 rw [List.length_append,yM]
 omega
theorem okN {room:Int} (h1:1 ≤ room) (h2:room ≤ 1048576):OkD (.new room):=⟨h1,h2,by show ((0:Nat):Int) ≤ room; omega,by simp [zD.new],⟨show (-9223372036854775808:Int) < -1 by decide,show (-1:Int) ≤ 9223372036854775807 by decide⟩,by simp [zD.new],by simp [zD.new]⟩
section
variable {B w:World} {Γ:List zC} {d:Nat} {D:zD} {n x:List UInt8}
theorem zEQ {body:Sl} {k:Int→K} (hD:OkD D) (hx:x.length ≤ 10000) (hcap:body.n ≤ body.c) (h:Holds B (zJ d D::Γ) w) (hr:∀ w,Holds B Γ w→RdB w body x)
  (hk:∀ w,OkD (D.save n x).1→Holds B (zJ d (D.save n x).1::Γ) w→k (D.save n x).2 w):yx.call (some ⟨d,0,none⟩) (bs n) body k w:=by
 refine zF4 _ _ _ _ _ ?_
 unfold yx
 have hsz:((bs n).size:Int) = n.length:=by simp [bs,ByteArray.size]
 have hpl:=zDI (b:=x) (by omega)
 rw [uq]
 have e0:(⟨#[]⟩:ByteArray).toList = []:=uq []
 rw [e0]
 unfold zD.save at hk
 have s1:∀ t,t = decide (n = []∨15 < n.length)→yx.s1 k (some ⟨d,0,none⟩) (bs n) body t w:=by
  rintro t rfl
  unfold yx.s1
  refine yc (fun ht=>?_) (fun ht=>?_)
  ·rw [if_pos (by simpa using ht)] at hk
   exact hk _ hD h
  ·simp only [decide_eq_false_iff_not] at ht
   rw [if_neg ht] at hk
   refine ⟨bs (zm n),?_,(zNW n [126]).symm,?_⟩
   ·have h1:(ByteArray.mk #[126]).size = 1:=rfl
    rw [h1]
    omega
   refine zDJ (n:=zm n) hD h fun w hD h=>?_
   have s2:∀ t,t = decide ((D.remove (zm n)).2 ≠ 0∧(D.remove (zm n)).2 ≠ 60)→yx.s2 k (some ⟨d,0,none⟩) (bs n) body (bs (zm n)) (D.remove (zm n)).2 t w:=by
    rintro t rfl
    unfold yx.s2
    refine yc (fun hq=>?_) (fun hq=>?_)
    ·rw [if_pos (by simpa using hq)] at hk
     exact hk _ hD h
    ·rw [if_neg (by simpa only [decide_eq_false_iff_not] using hq)] at hk
     refine zA4 (xs:=x) (by omega) hcap h (fun w h=>hr w h.tail) fun f w h=>?_
     refine zDK (n:=zm n) (x:=yU x) hD (by omega) h.swap (fun w h=>Bytes.rd h List.mem_cons_self) fun w hD h=>?_
     unfold zHE at hk
     refine yc (fun hq=>?_) (fun hq=>?_)
     ·rw [if_pos (by simpa using hq)] at hk
      exact hk _ hD (h.del 1 at1)
     ·rw [if_neg (by simpa using hq)] at hk
      refine zFO (n:=zm n) hD h fun w hD h=>?_
      unfold zIW at hk
      refine yc (fun hq=>?_) (fun hq=>?_)
      ·rw [if_pos (by simpa using hq)] at hk
       exact hk _ hD (h.del 1 at1)
      ·rw [if_neg (by simpa using hq)] at hk
       exact zHD (n:=zm n) (m:=n) hD h fun w hD h=>hk _ hD (h.del 1 at1)
   refine yc (fun hq=>?_) (fun hq=>?_)
   ·simp only [decide_eq_true_eq] at hq
    exact s2 _ (by simp [hq])
   ·simp only [decide_eq_false_iff_not,Decidable.not_not] at hq
    exact s2 _ (by simp [hq])
 refine yc (fun hq=>?_) (fun hq=>?_)
 ·have:n = []:=by simpa using hq
  exact s1 _ (by simp [this])
 ·have:n ≠ []:=by simpa using hq
  refine s1 _ ?_
  rw [hsz]
  by_cases h15:15 < n.length
  ·rw [decide_eq_true (by omega),decide_eq_true (.inr h15)]
  ·rw [decide_eq_false (by omega),decide_eq_false (by simp [this,h15])]
theorem zA6 {k:Sl→Int→K} (hD:OkD D) (hl:(D.read n).1.length ≤ 100000) (h:Holds B (zJ d D::Γ) w)
  (herr:(D.read n).2 ≠ 0→∀ w,Holds B (zJ d D::Γ) w→k (Sl.mk none 0 0) (D.read n).2 w)
  (hok:∀ b f w,(D.read n).2 = 0→yU b = (D.read n).1→Holds B (Bytes zV f b::zJ d D::Γ) w→k f 0 w)
  (hno:(D.read n).2 = 0→(∀ b,yU b ≠ (D.read n).1)→∀ w,Holds B (zJ d D::Γ) w→k (Sl.mk none 0 0) 61 w):uG.call (some ⟨d,0,none⟩) (bs n) k w:=by
 refine zF5 _ _ _ _ ?_
 unfold uG
 refine zFN (n:=n) hD h fun s w h=>?_
 refine yc (fun hq=>?_) (fun hq=>?_)
 ·exact herr (by simpa using hq) _ h.tail
 ·have hz:(D.read n).2 = 0:=by simpa using hq
  have hsc:=h.jd
  refine zCr (d:=(D.read n).1) hl hsc.2.1 h (fun w h=>Bytes.rd h List.mem_cons_self) (fun b g w hb h=>?_) (fun hn w h=>?_)
  ·exact hok b g w hz hb (h.del 1 at1)
  ·exact hno hz hn w h.tail
theorem zCL {a:DkA} (h:a.left = -1):chg a = (a,0):=by
 unfold chg
 rw [if_neg (by omega),if_neg (by omega)]
theorem zCy {α β:Type} [DecidableEq α] {k:α} {m:List (α×β)} (hm:zW k m = none):xU k m = m:=by
 rcases zG1 k m with ⟨_,_,h,_⟩ | ⟨j,x,_,_,_,h2,_⟩
 ·exact h
 ·rw [h2] at hm; cases hm
theorem zFS {α β:Type} [DecidableEq α] {k:α} {v:β}:∀ {m:List (α×β)},zW k m = none→xU k (m++[(k,v)]) = m
 | [],_=>if_pos rfl
 | p::m,hm=>by
  unfold zW at hm
  split at hm
  ·cases hm
  ·rename_i hne
   show (if k = p.1 then _ else _) = _
   rw [if_neg hne]
   exact congrArg (p::·) (zFS hm)
theorem zCz {α β:Type} [DecidableEq α] {k:α} {v:β}:∀ {m:List (α×β)},zW k m = none→zW k (m++[(k,v)]) = some v
 | [],_=>if_pos rfl
 | p::m,hm=>by
  unfold zW at hm
  split at hm
  ·cases hm
  ·rename_i hne
   show (if k = p.1 then _ else _) = _
   rw [if_neg hne]
   exact zCz hm
theorem zFT {α β:Type} [DecidableEq α] {k:α} {v v':β}:∀ {m:List (α×β)},zW k m = none→yN k v' (m++[(k,v)]) = m++[(k,v')]
 | [],_=>if_pos rfl
 | p::m,hm=>by
  unfold zW at hm
  split at hm
  ·cases hm
  ·rename_i hne
   show (if k = p.1 then _ else _) = _
   rw [if_neg hne]
   exact congrArg (p::·) (zFT hm)
theorem zI4 (hD:OkD D) (ha:D.a.left = -1) (hd:D.a.down = false) (hn:n ≠ []) (hl:n.length ≤ 15) (hf:(xU (zm n) D.files).length < 32) (hu:(y7 (xU (zm n) D.files):Int) + (yU x).length ≤ D.a.room) :
  D.save n x = (⟨D.a,yN n ⟨yU x,(yU x).length⟩ (xU (zm n) D.files)⟩,0):=by
 have hrm:∃ e,(e = 0∨e = 60)∧D.remove (zm n) = (⟨D.a,xU (zm n) D.files⟩,e)∧zW (zm n) (xU (zm n) D.files) = none:=by
  unfold zD.remove
  rw [if_neg (by rw [hd]; decide)]
  cases hm:zW (zm n) D.files with
  | none=>exact ⟨60,.inr rfl,by rw [zCy hm],by rw [zCy hm,hm]⟩
  | some f=>
   have h1:=(hD.del hm).2.1
   simp only [zCL ha,if_true]
   exact ⟨0,.inl rfl,rfl,h1⟩
 obtain ⟨e,he,hrm,hnone⟩:=hrm
 unfold zD.save
 have hbad:¬ (n = []∨15 < n.length):=by
  rintro (h | h)
  ·exact hn h
  ·omega
 rw [if_neg hbad,hrm]
 have hbad2:¬ (e ≠ 0∧e ≠ 60):=by omega
 simp only
 rw [if_neg hbad2]
 have hnx:named (zm n) = true:=by
  unfold named zm
  simp
  omega
 have hap:(⟨D.a,xU (zm n) D.files⟩:zD).append (zm n) (yU x) = (⟨D.a,xU (zm n) D.files++[(zm n,⟨yU x,0⟩)]⟩,0):=by
  unfold zD.append
  simp only
  rw [if_neg (by rw [hd]; decide),if_neg (by rw [hnx]; decide),if_neg,zCL ha,hnone,uI hnone]
  ·rfl
  ·rintro (h | h)
   ·omega
   ·omega
 unfold zHE
 rw [hap]
 simp only
 rw [if_neg (by simp)]
 have hsy:(⟨D.a,xU (zm n) D.files++[(zm n,⟨yU x,0⟩)]⟩:zD).sync (zm n) = (⟨D.a,xU (zm n) D.files++[(zm n,⟨yU x,(yU x).length⟩)]⟩,0):=by
  unfold zD.sync
  simp only
  rw [if_neg (by rw [hd]; decide),zCz hnone]
  simp only [zCL ha,if_true,zFT hnone]
 unfold zIW
 rw [hsy]
 simp only
 rw [if_neg (by simp)]
 unfold zKP zD.rename
 simp only
 rw [if_neg (by rw [hd]; decide),zCz hnone]
 have hnn:named n = true:=by
  unfold named
  simp [hn]
  omega
 simp only [zCL ha,if_true,zFS hnone]
 rw [if_neg (by rw [hnn]; decide)]
end
end
section
open Go Go.Sep
structure qc where
 name:List UInt8
 size:Int
 part:Nat
 used:Nat
 dirty:Bool
 recs:List (List UInt8)
abbrev wA (d:Nat) (W:qc) (s:Sl):Array Value:=#[.pointer (some ⟨d,0,none⟩),x9 W.name,.int .i64 W.size,.int .i64 (W.part:Int),.int .i64 (W.used:Int),.bool W.dirty,s.val]
abbrev zER:=List (Sl×List UInt8)
abbrev vW (p:Sl×List UInt8):Value:=p.1.val
abbrev vk (p:Sl×List UInt8):zC:=Bytes zV p.1 p.2
def yI (n:List UInt8) (k:Nat):List UInt8:=n++[u8 (48 + k)]
theorem zIX (a b:List UInt8):bs a++bs b = bs (a++b):=by
 apply ByteArray.ext
 rw [ByteArray.data_append]
 simp [bs]
def qI (d:List UInt8):List (List UInt8)×Nat :=
 if h:d = []∨(zQ d).2.2 ≠ 0 then ([],0)
 else ((zQ d).1::(qI (d.drop (zQ d).2.1)).1,(zQ d).2.1 + (qI (d.drop (zQ d).2.1)).2)
termination_by d.length
decreasing_by
 all_goals
  have h1:d ≠ []:=fun e=>h (.inl e)
  have h2:(zQ d).2.2 = 0:=by
   by_cases he:(zQ d).2.2 = 0
   ·exact he
   ·exact absurd (.inr he) h
  have h3:=((zHg d).ok h2).1
  have h4:0 < d.length:=List.length_pos_iff.2 h1
  simp
  omega
theorem zBG:qI [] = ([],0):=by rw [qI,dif_pos (.inl rfl)]
theorem zC0 {d:List UInt8} (h:(zQ d).2.2 ≠ 0):qI d = ([],0):=by rw [qI,dif_pos (.inr h)]
theorem zES {d:List UInt8} (hd:d ≠ []) (h:(zQ d).2.2 = 0):qI d = ((zQ d).1::(qI (d.drop (zQ d).2.1)).1,(zQ d).2.1 + (qI (d.drop (zQ d).2.1)).2):=by
 rw [qI,dif_neg]
 rintro (h1 | h1)
 ·exact hd h1
 ·exact h1 h
section
variable {B w:World} {Γ:List zC} {l d:Nat} {W:qc} {s:Sl} {rs:zER} {D:zD}
theorem zKQ {c:Nat} {k:ByteArray→K} (hc:c < 128) (hk:k (bs [u8 c]) w):Rd Tryz.prog (convert zGo q9 (.int .i32 (c:Int))) Value.string k w:=by
 refine ⟨_,?_,hk⟩
 have h1:Tryz.prog.underlying zGo = some (.int .i32):=by kernel_rfl
 have h2:Tryz.prog.underlying q9 = some .string:=by kernel_rfl
 have h3:Utf8.encode (c:Int) = bs [u8 c]:=by
  unfold Utf8.encode
  have hv:Utf8.valid (c:Int) = true:=by simp [Utf8.valid]; omega
  simp only [hv,if_true,Int.toNat_natCast]
  rw [if_pos (by omega)]
  rfl
 simp [convert,run_underlying h1,run_underlying h2,Conv.intToString,h3]
theorem vo {p:Nat} {k:ByteArray→K} (hp:p ≤ 9) (hn:W.name.length ≤ 1000) (h:Holds B (blk l (.cells (wA d W s) y8 (0,0))::SlC zR 1 s (List.map vW rs)::stars (List.map vk rs)::Γ) w) (hk:k (bs (yI W.name p)) w):qg.call (some ⟨l,0,none⟩) (p:Int) k w:=by
 refine zDY _ _ _ _ ?_
 unfold qg
 refine ug rfl ?_
 try simp only [yB,Nat.zero_add,Nat.reduceAdd]
 refine xI (x:=(bs W.name)) h rfl (by first | with_reducible exact M0 | with_reducible exact M1 | with_reducible exact M2 | with_reducible exact M3 | with_reducible exact M4 | with_reducible exact M5 | with_reducible exact M6 | with_reducible exact M7 | with_reducible exact M8 | with_reducible exact M9 | with_reducible exact M10 | with_reducible exact M11 | with_reducible exact M12) ?_ ?_
 ·exact rfl
 refine qY (e':=((48 + p:Nat):Int)) (by rw [wrap64 (by omega) (by omega)]; omega) ?_
 refine qY (e':=((48 + p:Nat):Int)) (by unfold IntKind.wrap; simp only [IntKind.bits,IntKind.signed,Bool.true_and,decide_eq_true_eq,Nat.reduceSub,Int.reducePow,ge_iff_le]; split <;> omega) ?_
 refine zKQ (by omega) ?_
 refine ⟨bs (yI W.name p),?_,(zIX W.name [u8 (48 + p)]).symm,hk⟩
 have e1:(bs W.name).size = W.name.length:=by simp [bs,ByteArray.size]
 have e2:(bs [u8 (48 + p)]).size = 1:=rfl
 rw [e1,e2]
 omega
end
end
section
open Go Go.Sep
def xG (l d:Nat) (W:qc):zC:=ex fun s:Sl=>ex fun rs:zER=>stars [pur (rs.map Prod.snd = W.recs),stars (blk l (.cells (wA d W s) y8 (0,0))::SlC zR 1 s (List.map vW rs)::stars (List.map vk rs)::(List.nil:List zC))]
def zKR (s:Sl) (recs:List (List UInt8)):zC:=ex fun rs:zER=>stars [pur (rs.map Prod.snd = recs),SlC zR 1 s (rs.map vW),stars (rs.map vk)]
structure OkW (W:qc):Prop where
 name:1 ≤ W.name.length∧W.name.length ≤ 8
 size:16 ≤ W.size∧W.size ≤ 65536
 part:W.part ≤ 9
 used:W.used ≤ 10000000
 few:W.recs.length ≤ 10000000
def qc.uL (W:qc) (D:zD):zD×qc×Int:=if W.dirty = false then (D,W,0) else ((D.sync (yI W.name W.part)).1,{ W with dirty:=decide ((D.sync (yI W.name W.part)).2 ≠ 0) },(D.sync (yI W.name W.part)).2)
def qc.put (W:qc) (D:zD) (part used:Nat) (r:List UInt8):zD×qc×Int :=
 if (D.append (yI W.name part) (zU r)).2 ≠ 0 then ((D.append (yI W.name part) (zU r)).1,W,(D.append (yI W.name part) (zU r)).2)
 else ((D.append (yI W.name part) (zU r)).1,{ W with part:=part,used:=used + (zU r).length,dirty:=true,recs:=W.recs++[r] },0)
def qc.app (W:qc) (D:zD) (r:List UInt8):zD×qc×Int :=
 if 0 < W.used∧W.size < (W.used + (zU r).length:Nat) then
  if W.part = 9 then (D,W,2) else if (W.uL D).2.2 ≠ 0 then W.uL D else (W.uL D).2.1.put (W.uL D).1 (W.part + 1) 0 r
 else W.put D W.part W.used r
section
variable {B w:World} {Γ:List zC} {l d:Nat} {W:qc} {s:Sl} {rs:zER} {D:zD}
theorem xG.opens (h:Holds B (xG l d W::Γ) w):∃ s rs,rs.map Prod.snd = W.recs∧Holds B (blk l (.cells (wA d W s) y8 (0,0))::SlC zR 1 s (List.map vW rs)::stars (List.map vk rs)::Γ) w:=by
 obtain ⟨s,h⟩:=Holds.ex.1 h
 obtain ⟨rs,h⟩:=Holds.ex.1 h
 obtain ⟨h2,h4⟩:=Holds.pur.1 (Holds.flat.1 h)
 exact ⟨s,rs,h2,Holds.flat.1 h4⟩
theorem xG.shuts (hp:rs.map Prod.snd = W.recs) (h:Holds B (blk l (.cells (wA d W s) y8 (0,0))::SlC zR 1 s (List.map vW rs)::stars (List.map vk rs)::Γ) w):Holds B (xG l d W::Γ) w :=
 Holds.ex.2 ⟨s,Holds.ex.2 ⟨rs,Holds.flat.2 (Holds.pur.2 ⟨hp,Holds.flat.2 h⟩)⟩⟩
theorem zKS (h:Holds B (SlC zR 1 s (rs.map vW)::Γ) w):rs.length = s.n:=by
 have:=h.jd.1
 simpa using this
theorem zMW {f:Sl} {b:List UInt8} {k:Sl→K} (hl:rs.length ≤ 100000000) (h:Holds B (SlC zR 1 s (rs.map vW)::stars (rs.map vk)::Bytes zV f b::Γ) w)
  (hk:∀ s' w,Holds B (SlC zR 1 s' ((rs++[(f,b)]).map vW)::stars ((rs++[(f,b)]).map vk)::Γ) w→k s' w) :
  New zR #[f.val] (fun t=>Do Tryz.prog (Builtin.append_ #[zAW,zAW] zAW #[(Sl.val s),(Sl.val (Sl.mk (some t) 1 1))]) Sl.val k) w:=by
 have hn:=zKS h
 refine vX h ?_
 clear h
 intro t w h
 try simp only [yB,Nat.zero_add,Nat.reduceAdd]
 have hx:=RdC.zF3 (n:=1) (esz:=1) h List.mem_cons_self (vs:=[f.val]) rfl rfl 1
 refine zAu (h.pick 1 at1) (by kernel_rfl) (by kernel_rfl) (by':=24) (by kernel_rfl) zAc rfl hx (fun v hv=>by simp only [List.mem_singleton] at hv; subst hv; rfl) (by simp only; omega) (by decide) fun s' w h _ _=>?_
 try simp only [N1,N2,N3,N4,N5,N6,N7] at h
 have e1:rs.map vW++[f.val] = (rs++[(f,b)]).map vW:=by simp
 rw [e1] at h
 replace h:=P3 h
 replace h:=P3 h
 replace h:=D3 h
 try simp only [N1,N2,N3,N4,N5,N6,N7] at h
 have h2:Holds B (stars ((rs++[(f,b)]).map vk)::SlC zR 1 s' ((rs++[(f,b)]).map vW)::Γ) w:=zFA (f:=vk) (x:=(f,b)) h
 exact hk _ _ h2.swap
theorem zET {data:Sl} {dat:List UInt8} {k:Int→K} (hl:dat.length ≤ 2000000) (hrl:rs.length ≤ 10000000) (h:Holds B (blk l (.cells (wA d W s) y8 (0,0))::SlC zR 1 s (List.map vW rs)::stars (List.map vk rs)::Γ) w) (hr:∀ w,Holds B Γ w→RdB w data dat) (hcap:data.n ≤ data.c) (hsp:∀ a,data.a = some a→a.spot = none)
  (hk:∀ s' rs' w,rs'.map Prod.snd = rs.map Prod.snd++(qI dat).1→Holds B (blk l (.cells (wA d W s') y8 (0,0))::SlC zR 1 s' (List.map vW rs')::stars (List.map vk rs')::Γ) w→k ((qI dat).2:Int) w):yV.call (some ⟨l,0,none⟩) data k w:=by
 have hdn:dat.length = data.n:=by have:=(hr w h.tail.tail.tail).len; simpa using this
 refine zCk _ _ _ _ ?_
 unfold yV
 refine yY.of (fun t w=>∃ (g:Nat) (done:List (List UInt8)) (s':Sl) (rs':zER),t = (g:Int)∧g ≤ dat.length∧rs'.map Prod.snd = rs.map Prod.snd++done∧qI dat = (done++(qI (dat.drop g)).1,g + (qI (dat.drop g)).2)∧rs'.length ≤ rs.length + g∧Holds B (blk l (.cells (wA d W s') y8 (0,0))::SlC zR 1 s' (List.map vW rs')::stars (List.map vk rs')::Γ) w) (fun t _=>((data.n:Int) - t).toNat) ⟨0,[],s,rs,rfl,by omega,by simp,by simp,by omega,h⟩ ?_
 clear h
 rintro t w ⟨g,done,s',rs',rfl,hg,hrs,hpp,hcnt,h⟩
 unfold yV.b2 yV.s1
 refine yc (fun hb=>?_) (fun hb=>?_)
 ·simp only [decide_eq_true_eq] at hb
  have hdr:dat.drop g ≠ []:=fun e=>by
   have:=congrArg List.length e
   simp at this
   omega
  have hF:=zHg (dat.drop g)
  refine ⟨_,by omega,by omega,by omega,by omega,rfl,?_⟩
  simp only [Int.toNat_natCast]
  refine uT (d:=dat.drop g) (by simp; omega) h (fun w h=>zG0 (hr w h.tail.tail.tail) (by omega) hcap hsp) (by simp only; omega) fun f w h=>?_
  refine yc (fun he=>?_) (fun he=>?_)
  ·have he':(zQ (dat.drop g)).2.2 ≠ 0:=by simp only [decide_eq_true_eq] at he; omega
   rw [zC0 he'] at hpp
   simp only [List.append_nil,Nat.add_zero] at hpp
   have h3:=hk s' rs' w (by rw [hpp]; exact hrs) h.tail
   rw [hpp] at h3
   exact h3
  ·have he':(zQ (dat.drop g)).2.2 = 0:=by simp only [decide_eq_false_iff_not] at he; omega
   rw [zES hdr he',List.drop_drop] at hpp
   simp only at hpp
   obtain ⟨q1,q2,_⟩:=hF.ok he'
   have q3:=hF.le
   rw [List.length_drop] at q3
   refine ug rfl ?_
   try simp only [yB,Nat.zero_add,Nat.reduceAdd]
   refine xI (x:=s') h rfl (by first | with_reducible exact M0 | with_reducible exact M1 | with_reducible exact M2 | with_reducible exact M3 | with_reducible exact M4 | with_reducible exact M5 | with_reducible exact M6 | with_reducible exact M7 | with_reducible exact M8 | with_reducible exact M9 | with_reducible exact M10 | with_reducible exact M11 | with_reducible exact M12) ?_ ?_
   ·exact rfl
   replace h:=P1 h
   replace h:=P1 h
   replace h:=P3 h
   replace h:=P3 h
   try simp only [N1,N2,N3,N4,N5,N6,N7] at h
   refine zMW (by omega) h fun s2 w h=>?_
   replace h:=P1 h
   replace h:=P1 h
   replace h:=P2 h
   try simp only [N1,N2,N3,N4,N5,N6,N7] at h
   first | refine S0 h rfl ?_ rfl ?_ | refine S1 h rfl ?_ rfl ?_ | refine S2 h rfl ?_ rfl ?_ | refine S3 h rfl ?_ rfl ?_ | refine S4 h rfl ?_ rfl ?_ | refine S5 h rfl ?_ rfl ?_ | refine S6 h rfl ?_ rfl ?_ | refine S7 h rfl ?_ rfl ?_ | refine S8 h rfl ?_ rfl ?_
   ·first | exact Nat.lt_of_ble_eq_true rfl | (simp; done) | (simp; omega)
   clear h
   intro w h
   try simp only [N1,N2,N3,N4,N5,N6,N7] at h
   refine qY (e':=((g + (zQ (dat.drop g)).2.1:Nat):Int)) (by rw [wrap64 (by omega) (by omega)]; omega) ?_
   refine ⟨⟨g + (zQ (dat.drop g)).2.1,done++[(zQ (dat.drop g)).1],s2,_,rfl,by omega,?_,?_,?_,h⟩,by omega⟩
   ·rw [List.map_append,hrs,List.append_assoc]; rfl
   ·rw [hpp,List.append_assoc]
    exact Prod.ext rfl (by simp only; omega)
   ·rw [List.length_append,List.length_singleton]; omega
 ·simp only [decide_eq_false_iff_not] at hb
  have hz:dat.drop g = []:=List.drop_eq_nil_of_le (by omega)
  rw [hz,zBG] at hpp
  simp only [List.append_nil,Nat.add_zero] at hpp
  have h3:=hk s' rs' w (by rw [hpp]; exact hrs) h
  rw [hpp] at h3
  exact h3
theorem zC1 {k:Sl→K} (hW:OkW W) (hlen:∀ r ∈ W.recs,r.length ≤ 1000000) (h:Holds B (xG l d W::Γ) w) (hk:∀ s w,Holds B (zKR s W.recs::xG l d W::Γ) w→k s w):y9.call (some ⟨l,0,none⟩) k w:=by
 obtain ⟨s,rs,hp,h⟩:=xG.opens h
 have hrl:rs.length = W.recs.length:=by rw [← hp]; simp
 have hfew:=hW.few
 have hn:=zKS h.tail
 refine zBj _ _ _ ?_
 unfold y9
 refine ug rfl ?_
 try simp only [yB,Nat.zero_add,Nat.reduceAdd]
 refine xI (x:=s) h rfl (by first | with_reducible exact M0 | with_reducible exact M1 | with_reducible exact M2 | with_reducible exact M3 | with_reducible exact M4 | with_reducible exact M5 | with_reducible exact M6 | with_reducible exact M7 | with_reducible exact M8 | with_reducible exact M9 | with_reducible exact M10 | with_reducible exact M11 | with_reducible exact M12) ?_ ?_
 ·exact rfl
 have h0:=(h.zAD).zAJ zR 1
 refine yY.of (fun t w=>∃ (j:Nat) (os:zER),t.2 = (j:Int)∧j ≤ rs.length∧os.length = j∧os.map Prod.snd = (rs.take j).map Prod.snd∧Holds B (SlC zR 1 t.1 (os.map vW)::stars (os.map vk)::(blk l (.cells (wA d W s) y8 (0,0))::SlC zR 1 s (List.map vW rs)::stars (List.map vk rs)::Γ)) w) (fun t _=>((s.n:Int) - t.2).toNat) ⟨0,[],rfl,by omega,rfl,rfl,h0⟩ ?_
 clear h h0
 rintro ⟨o,t⟩ w ⟨j,os,h1,hj,hol,hos,h⟩
 simp only at h1 h
 subst h1
 unfold y9.b1
 refine yc (fun hb=>?_) (fun hb=>?_)
 ·simp only [decide_eq_true_eq] at hb
  have hjl:j < rs.length:=by omega
  have hx:rs[j]? = some rs[j]:=List.getElem?_eq_getElem hjl
  have htk:rs.take (j + 1) = rs.take j++[rs[j]]:=List.take_succ_eq_append_getElem hjl
  generalize rs[j] = x at hx htk
  have hxl:x.2.length ≤ 1000000:=hlen x.2 (by rw [← hp]; exact List.mem_map_of_mem (List.mem_of_getElem? hx))
  have hrd:RdC w s 1 ((rs.map Prod.fst).map Sl.val):=by
   have h9:RdC w s 1 (rs.map vW):=h.rdC (E:=zR) (by first | with_reducible exact M0 | with_reducible exact M1 | with_reducible exact M2 | with_reducible exact M3 | with_reducible exact M4 | with_reducible exact M5 | with_reducible exact M6 | with_reducible exact M7 | with_reducible exact M8 | with_reducible exact M9 | with_reducible exact M10 | with_reducible exact M11 | with_reducible exact M12)
   rw [List.map_map]
   exact h9
  refine zEB (c:=Sl.val) (L:=rs.map Prod.fst) hrd (x:=x.1) (by rw [List.getElem?_map,hx]; rfl) ?_
  refine qR (b:=x.1) (xs:=x.2) h (fun w h=>zJ9 (f:=vk) (x:=x) 4 h at4 (List.mem_of_getElem? hx) rfl) (by omega) fun c w h _=>?_
  replace h:=P5 h
  replace h:=P5 h
  replace h:=P5 h
  replace h:=P3 h
  replace h:=P5 h
  replace h:=P5 h
  try simp only [N1,N2,N3,N4,N5,N6,N7] at h
  refine zMW (by omega) h fun s2 w h=>?_
  refine jo (by omega) (by omega) ?_
  exact ⟨⟨j + 1,_,by simp,by omega,by simp; omega,by rw [List.map_append,hos,htk,List.map_append]; rfl,h⟩,by omega⟩
 ·simp only [decide_eq_false_iff_not] at hb
  have:j = rs.length:=by omega
  subst this
  rw [List.take_length,hp] at hos
  have h2:Holds B (zKR o W.recs::(blk l (.cells (wA d W s) y8 (0,0))::SlC zR 1 s (List.map vW rs)::stars (List.map vk rs)::Γ)) w:=Holds.ex.2 ⟨os,Holds.flat.2 (Holds.pur.2 ⟨hos,h⟩)⟩
  replace h:=h2
  replace h:=P3 h
  replace h:=P3 h
  replace h:=P3 h
  try simp only [N1,N2,N3,N4,N5,N6,N7] at h
  exact hk _ _ (xG.shuts hp h).swap
theorem zBX {k:Int→K} (hD:OkD D) (hW:OkW W) (h:Holds B (xG l d W::zJ d D::Γ) w) (hk:∀ w,OkD (W.uL D).1→Holds B (xG l d (W.uL D).2.1::zJ d (W.uL D).1::Γ) w→k (W.uL D).2.2 w):xq.call (some ⟨l,0,none⟩) k w:=by
 obtain ⟨s,rs,hp,h⟩:=xG.opens h
 have hnm:=hW.name
 have hpt:=hW.part
 refine zDW _ _ _ ?_
 unfold xq
 unfold qc.uL at hk
 refine ug rfl ?_
 try simp only [yB,Nat.zero_add,Nat.reduceAdd]
 refine xI (x:=W.dirty) h rfl (by first | with_reducible exact M0 | with_reducible exact M1 | with_reducible exact M2 | with_reducible exact M3 | with_reducible exact M4 | with_reducible exact M5 | with_reducible exact M6 | with_reducible exact M7 | with_reducible exact M8 | with_reducible exact M9 | with_reducible exact M10 | with_reducible exact M11 | with_reducible exact M12) ?_ ?_
 ·exact rfl
 refine yc (fun hb=>?_) (fun hb=>?_)
 ·have hb':W.dirty = false:=by simpa using hb
  rw [if_pos hb'] at hk
  exact hk _ hD (xG.shuts hp h)
 ·have hb':¬ W.dirty = false:=by simpa using hb
  rw [if_neg hb'] at hk
  have hS:Holds B (blk l (.cells (wA d W s) y8 (0,0))::SlC zR 1 s (List.map vW rs)::stars (List.map vk rs)::Γ) w:=h.del 3 at3
  refine zBe h ?_
  clear h
  intro w h
  have hS:Holds B (blk l (.cells (wA d W s) y8 (0,0))::SlC zR 1 s (List.map vW rs)::stars (List.map vk rs)::Γ) w:=h.del 3 at3
  refine jm hS ?_
  refine zBT (x:=(some ⟨d,0,none⟩)) rfl (by first | with_reducible exact M0 | with_reducible exact M1 | with_reducible exact M2 | with_reducible exact M3 | with_reducible exact M4 | with_reducible exact M5 | with_reducible exact M6 | with_reducible exact M7 | with_reducible exact M8 | with_reducible exact M9 | with_reducible exact M10 | with_reducible exact M11 | with_reducible exact M12) ?_ ?_
  ·exact rfl
  refine zBT (x:=(W.part:Int)) rfl (by first | with_reducible exact M0 | with_reducible exact M1 | with_reducible exact M2 | with_reducible exact M3 | with_reducible exact M4 | with_reducible exact M5 | with_reducible exact M6 | with_reducible exact M7 | with_reducible exact M8 | with_reducible exact M9 | with_reducible exact M10 | with_reducible exact M11 | with_reducible exact M12) ?_ ?_
  ·exact rfl
  refine vo (by omega) (by omega) h ?_
  refine zEf hS ?_
  replace h:=P2 h
  replace h:=P2 h
  replace h:=P2 h
  replace h:=P3 h
  try simp only [N1,N2,N3,N4,N5,N6,N7] at h
  refine zFO (n:=yI W.name W.part) hD h fun w hD' h=>?_
  replace h:=P3 h
  replace h:=P3 h
  replace h:=P3 h
  try simp only [N1,N2,N3,N4,N5,N6,N7] at h
  first | refine S0 h rfl ?_ rfl ?_ | refine S1 h rfl ?_ rfl ?_ | refine S2 h rfl ?_ rfl ?_ | refine S3 h rfl ?_ rfl ?_ | refine S4 h rfl ?_ rfl ?_ | refine S5 h rfl ?_ rfl ?_ | refine S6 h rfl ?_ rfl ?_ | refine S7 h rfl ?_ rfl ?_ | refine S8 h rfl ?_ rfl ?_
  ·first | exact Nat.lt_of_ble_eq_true rfl | (simp; done) | (simp; omega)
  clear h
  intro w h
  try simp only [N1,N2,N3,N4,N5,N6,N7] at h
  exact hk _ hD' (xG.shuts (W:={ W with dirty:=decide ((D.sync (yI W.name W.part)).2 ≠ 0) }) hp h)
end
end
section
open Go Go.Sep
section
variable {B w:World} {Γ:List zC} {l d:Nat} {W:qc} {s:Sl} {rs:zER} {D:zD}
theorem zCM {rec f:Sl} {r:List UInt8} {part used:Nat} {k:Int→K} (hD:OkD D) (hW:OkW W) (hpt:part ≤ 9) (hus:used ≤ 10000000) (hl:r.length ≤ 4096) (hr:∀ w,Holds B Γ w→RdB w rec r)
  (h:Holds B (Bytes zV f (zU r)::xG l d W::zJ d D::Γ) w)
  (hk:∀ w,OkD (W.put D part used r).1→Holds B (xG l d (W.put D part used r).2.1::zJ d (W.put D part used r).1::Γ) w→k (W.put D part used r).2.2 w) :
  zx.s1 k ⟨l,0,none⟩ rec f (part:Int) (used:Int) w:=by
 have hnm:=hW.name
 have hfew:=hW.few
 have hfl:=Bytes.len h
 have hfL:=yM r
 obtain ⟨s,rs,hp,h⟩:=xG.opens h.swap
 have hrl:rs.length = W.recs.length:=by rw [← hp]; simp
 unfold zx.s1
 unfold qc.put at hk
 refine zBe h ?_
 clear h
 intro w h
 have hS:Holds B (blk l (.cells (wA d W s) y8 (0,0))::SlC zR 1 s (List.map vW rs)::stars (List.map vk rs)::Γ) w:=(h.del 3 at3).del 3 at3
 refine jm hS ?_
 try simp only [yB,Nat.zero_add,Nat.reduceAdd]
 refine zBT (x:=(some ⟨d,0,none⟩)) rfl (by first | with_reducible exact M0 | with_reducible exact M1 | with_reducible exact M2 | with_reducible exact M3 | with_reducible exact M4 | with_reducible exact M5 | with_reducible exact M6 | with_reducible exact M7 | with_reducible exact M8 | with_reducible exact M9 | with_reducible exact M10 | with_reducible exact M11 | with_reducible exact M12) ?_ ?_
 ·exact rfl
 refine vo (by omega) (by omega) h ?_
 refine zEf hS ?_
 replace h:=P2 h
 replace h:=P2 h
 replace h:=P2 h
 replace h:=P3 h
 replace h:=P4 h
 try simp only [N1,N2,N3,N4,N5,N6,N7] at h
 refine zDK (n:=yI W.name part) (x:=zU r) hD (by omega) h (fun w h=>Bytes.rd h List.mem_cons_self) fun w hD' h=>?_
 refine yc (fun hq=>?_) (fun hq=>?_)
 ·have hq':(D.append (yI W.name part) (zU r)).2 ≠ 0:=by simpa using hq
  rw [if_pos hq'] at hk
  replace h:=P4 h
  replace h:=P4 h
  replace h:=P4 h
  replace h:=D4 h
  try simp only [N1,N2,N3,N4,N5,N6,N7] at h
  exact hk _ hD' (xG.shuts hp h)
 ·have hq':¬ (D.append (yI W.name part) (zU r)).2 ≠ 0:=by simpa using hq
  rw [if_neg hq'] at hk
  refine qY (e':=((used + (zU r).length:Nat):Int)) (by rw [wrap64 (by omega) (by omega)]; omega) ?_
  replace h:=P4 h
  replace h:=P4 h
  replace h:=P4 h
  replace h:=D4 h
  try simp only [N1,N2,N3,N4,N5,N6,N7] at h
  first | refine S0 h rfl ?_ rfl ?_ | refine S1 h rfl ?_ rfl ?_ | refine S2 h rfl ?_ rfl ?_ | refine S3 h rfl ?_ rfl ?_ | refine S4 h rfl ?_ rfl ?_ | refine S5 h rfl ?_ rfl ?_ | refine S6 h rfl ?_ rfl ?_ | refine S7 h rfl ?_ rfl ?_ | refine S8 h rfl ?_ rfl ?_
  ·first | exact Nat.lt_of_ble_eq_true rfl | (simp; done) | (simp; omega)
  clear h
  intro w h
  try simp only [N1,N2,N3,N4,N5,N6,N7] at h
  first | refine S0 h rfl ?_ rfl ?_ | refine S1 h rfl ?_ rfl ?_ | refine S2 h rfl ?_ rfl ?_ | refine S3 h rfl ?_ rfl ?_ | refine S4 h rfl ?_ rfl ?_ | refine S5 h rfl ?_ rfl ?_ | refine S6 h rfl ?_ rfl ?_ | refine S7 h rfl ?_ rfl ?_ | refine S8 h rfl ?_ rfl ?_
  ·first | exact Nat.lt_of_ble_eq_true rfl | (simp; done) | (simp; omega)
  clear h
  intro w h
  try simp only [N1,N2,N3,N4,N5,N6,N7] at h
  first | refine S0 h rfl ?_ rfl ?_ | refine S1 h rfl ?_ rfl ?_ | refine S2 h rfl ?_ rfl ?_ | refine S3 h rfl ?_ rfl ?_ | refine S4 h rfl ?_ rfl ?_ | refine S5 h rfl ?_ rfl ?_ | refine S6 h rfl ?_ rfl ?_ | refine S7 h rfl ?_ rfl ?_ | refine S8 h rfl ?_ rfl ?_
  ·first | exact Nat.lt_of_ble_eq_true rfl | (simp; done) | (simp; omega)
  clear h
  intro w h
  try simp only [N1,N2,N3,N4,N5,N6,N7] at h
  have hS:Holds B (blk l (.cells (wA d ({ W with part:=part,used:=used + (zU r).length,dirty:=true }:qc) s) y8 (0,0))::SlC zR 1 s (List.map vW rs)::stars (List.map vk rs)::Γ) w:=h.del 3 at3
  refine zBe h ?_
  clear h
  intro w h
  have hS:Holds B (blk l (.cells (wA d ({ W with part:=part,used:=used + (zU r).length,dirty:=true }:qc) s) y8 (0,0))::SlC zR 1 s (List.map vW rs)::stars (List.map vk rs)::Γ) w:=h.del 3 at3
  refine jm hS ?_
  refine zBT (x:=s) rfl M0 rfl ?_
  refine qR (b:=rec) (xs:=r) h (fun w h=>hr w h.tail.tail.tail.tail) (by omega) fun c w h _=>?_
  refine zEf (h.tail.del 3 at3) ?_
  refine vX h ?_
  clear h
  intro t w h
  try simp only [yB,Nat.zero_add,Nat.reduceAdd]
  refine zEf (h.tail.tail.del 3 at3) ?_
  have hn:=zKS (h.pick 3 at3)
  have hx:=RdC.zF3 (n:=1) (esz:=1) h List.mem_cons_self (vs:=[c.val]) rfl rfl 1
  refine zAu (h.pick 3 at3) (by kernel_rfl) (by kernel_rfl) (by':=24) (by kernel_rfl) zAc rfl hx (fun v hv=>by simp only [List.mem_singleton] at hv; subst hv; rfl) (by simp only; omega) (by decide) fun s' w h _ _=>?_
  try simp only [N1,N2,N3,N4,N5,N6,N7] at h
  have e1:rs.map vW++[c.val] = (rs++[(c,r)]).map vW:=by simp
  rw [e1] at h
  first | refine S0 h rfl ?_ rfl ?_ | refine S1 h rfl ?_ rfl ?_ | refine S2 h rfl ?_ rfl ?_ | refine S3 h rfl ?_ rfl ?_ | refine S4 h rfl ?_ rfl ?_ | refine S5 h rfl ?_ rfl ?_ | refine S6 h rfl ?_ rfl ?_ | refine S7 h rfl ?_ rfl ?_ | refine S8 h rfl ?_ rfl ?_
  ·first | exact Nat.lt_of_ble_eq_true rfl | (simp; done) | (simp; omega)
  clear h
  intro w h
  try simp only [N1,N2,N3,N4,N5,N6,N7] at h
  replace h:=P5 h
  replace h:=P1 h
  replace h:=P4 h
  replace h:=P4 h
  replace h:=P5 h
  replace h:=D5 h
  try simp only [N1,N2,N3,N4,N5,N6,N7] at h
  have h2:Holds B (stars ((rs++[(c,r)]).map vk)::blk l _::SlC zR 1 s' ((rs++[(c,r)]).map vW)::zJ d _::Γ) w:=zFA (f:=vk) (x:=(c,r)) h
  replace h:=h2
  replace h:=P3 h
  replace h:=P1 h
  replace h:=P3 h
  replace h:=P3 h
  try simp only [N1,N2,N3,N4,N5,N6,N7] at h
  exact hk _ hD' (xG.shuts (W:={ W with part:=part,used:=used + (zU r).length,dirty:=true,recs:=W.recs++[r] }) (by rw [List.map_append,hp]; rfl) h)
theorem zKT {W:qc} (hW:OkW W):OkW (W.uL D).2.1∧(W.uL D).2.1.name = W.name:=by
 unfold qc.uL
 split
 ·exact ⟨hW,rfl⟩
 ·exact ⟨⟨hW.name,hW.size,hW.part,hW.used,hW.few⟩,rfl⟩
theorem zDa {rec:Sl} {r:List UInt8} {k:Int→K} (hD:OkD D) (hW:OkW W) (hl:r.length ≤ 4096) (hr:∀ w,Holds B Γ w→RdB w rec r) (h:Holds B (xG l d W::zJ d D::Γ) w)
  (hk:∀ w,OkD (W.app D r).1→Holds B (xG l d (W.app D r).2.1::zJ d (W.app D r).1::Γ) w→k (W.app D r).2.2 w):zx.call (some ⟨l,0,none⟩) rec k w:=by
 have hpt:=hW.part
 have hus:=hW.used
 have hsz:=hW.size
 refine zCD _ _ _ _ ?_
 unfold zx
 unfold qc.app at hk
 refine vv (b:=r) hl h (fun w h=>hr w h.tail.tail) fun f w h=>?_
 refine zk rfl ?_
 refine zBe h ?_
 clear h
 intro w h
 have hfl:=Bytes.len h
 have hfL:=yM r
 obtain ⟨s,rs,hp,h⟩:=xG.opens h.swap
 refine ug rfl ?_
 try simp only [yB,Nat.zero_add,Nat.reduceAdd]
 refine xI (x:=(W.part:Int)) h rfl (by first | with_reducible exact M0 | with_reducible exact M1 | with_reducible exact M2 | with_reducible exact M3 | with_reducible exact M4 | with_reducible exact M5 | with_reducible exact M6 | with_reducible exact M7 | with_reducible exact M8 | with_reducible exact M9 | with_reducible exact M10 | with_reducible exact M11 | with_reducible exact M12) ?_ ?_
 ·exact rfl
 refine xI (x:=(W.used:Int)) h rfl (by first | with_reducible exact M0 | with_reducible exact M1 | with_reducible exact M2 | with_reducible exact M3 | with_reducible exact M4 | with_reducible exact M5 | with_reducible exact M6 | with_reducible exact M7 | with_reducible exact M8 | with_reducible exact M9 | with_reducible exact M10 | with_reducible exact M11 | with_reducible exact M12) ?_ ?_
 ·exact rfl
 have shut:Holds B (Bytes zV f (zU r)::xG l d W::zJ d D::Γ) w:=by
  have h1:=xG.shuts hp h
  exact h1.swap
 have no:¬ (0 < W.used∧W.size < (W.used + (zU r).length:Nat))→zx.s2 k ⟨l,0,none⟩ rec f (W.part:Int) (W.used:Int) false w:=fun hn=>by
  rw [if_neg hn] at hk
  unfold zx.s2
  refine zk rfl ?_
  exact zCM hD hW (by omega) (by omega) hl hr shut hk
 refine yc (fun hq=>?_) (fun hq=>?_)
 ·simp only [decide_eq_true_eq] at hq
  refine qY (e':=((W.used + (zU r).length:Nat):Int)) (by rw [wrap64 (by omega) (by omega)]; omega) ?_
  refine xI (x:=W.size) h rfl (by first | with_reducible exact M0 | with_reducible exact M1 | with_reducible exact M2 | with_reducible exact M3 | with_reducible exact M4 | with_reducible exact M5 | with_reducible exact M6 | with_reducible exact M7 | with_reducible exact M8 | with_reducible exact M9 | with_reducible exact M10 | with_reducible exact M11 | with_reducible exact M12) ?_ ?_
  ·exact rfl
  by_cases hc:W.size < ((W.used + (zU r).length:Nat):Int)
  ·rw [decide_eq_true hc]
   rw [if_pos ⟨by omega,hc⟩] at hk
   unfold zx.s2
   refine qN rfl ?_
   refine qY (e':=((W.part + 1:Nat):Int)) (by rw [wrap64 (by omega) (by omega)]; omega) ?_
   refine yc (fun h9=>?_) (fun h9=>?_)
   ·simp only [decide_eq_true_eq] at h9
    rw [if_pos (by omega)] at hk
    exact hk _ hD shut.tail
   ·simp only [decide_eq_false_iff_not] at h9
    rw [if_neg (by omega)] at hk
    have h2:=(shut.pick 1 at1).pick 2 at2
    replace h:=shut
    replace h:=P2 h
    replace h:=P2 h
    try simp only [N1,N2,N3,N4,N5,N6,N7] at h
    refine zBX hD hW h fun w hD' h=>?_
    refine yc (fun hz=>?_) (fun hz=>?_)
    ·have hz':(W.uL D).2.2 ≠ 0:=by simpa using hz
     rw [if_pos hz'] at hk
     exact hk _ hD' (h.del 2 at2)
    ·have hz':¬ (W.uL D).2.2 ≠ 0:=by simpa using hz
     rw [if_neg hz'] at hk
     replace h:=P1 h
     replace h:=P1 h
     replace h:=P2 h
     try simp only [N1,N2,N3,N4,N5,N6,N7] at h
     exact zCM (part:=W.part + 1) (used:=0) hD' (zKT hW).1 (by omega) (by omega) hl hr h hk
  ·rw [decide_eq_false hc]
   exact no fun hh=>hc hh.2
 ·simp only [decide_eq_false_iff_not] at hq
  exact no fun hh=>hq (by omega)
end
end
section
open Go Go.Sep
theorem zKU:∀ (n:Nat) (d:List UInt8),d.length = n→(qI d).1.length ≤ d.length∧(qI d).2 ≤ d.length:=by
 intro n
 induction n using Nat.strongRecOn with
 | _ n ih=>
  intro d hd
  by_cases h1:d = []
  ·subst h1; rw [zBG]; exact ⟨Nat.le_refl _,Nat.le_refl _⟩
  by_cases h2:(zQ d).2.2 = 0
  ·have hF:=zHg d
   obtain ⟨q1,q2,_⟩:=hF.ok h2
   have q3:=hF.le
   have hl:0 < d.length:=List.length_pos_iff.2 h1
   have:=ih (d.drop (zQ d).2.1).length (by simp; omega) _ rfl
   rw [zES h1 h2]
   simp only [List.length_cons,List.length_drop] at this ⊢
   omega
  ·rw [zC0 h2]; exact ⟨by simp,by simp⟩
def vU (name:List UInt8):Nat→Nat→zD→qc→zD×qc×Nat×Int
 | 0,part,D,W=>(D,W,part,0)
 | f + 1,part,D,W=>
  if (D.read (yI name part)).2 = 60 then (D,W,part,0)
  else if (D.read (yI name part)).2 ≠ 0 then (D,W,part,(D.read (yI name part)).2)
  else if (qI (D.read (yI name part)).1).2 = (D.read (yI name part)).1.length then
   vU name f (part + 1) D { W with recs:=W.recs++(qI (D.read (yI name part)).1).1,part:=part,used:=(qI (D.read (yI name part)).1).2 }
  else if (D.cut (yI name part) ((qI (D.read (yI name part)).1).2:Int)).2 ≠ 0 then
   ((D.cut (yI name part) ((qI (D.read (yI name part)).1).2:Int)).1,{ W with recs:=W.recs++(qI (D.read (yI name part)).1).1,part:=part,used:=(qI (D.read (yI name part)).1).2 },part,(D.cut (yI name part) ((qI (D.read (yI name part)).1).2:Int)).2)
  else ((D.cut (yI name part) ((qI (D.read (yI name part)).1).2:Int)).1,{ W with recs:=W.recs++(qI (D.read (yI name part)).1).1,part:=part,used:=(qI (D.read (yI name part)).1).2 },part + 1,0)
def zCN (name:List UInt8):Nat→Nat→zD→zD×Int
 | 0,_,D=>(D,0)
 | f + 1,part,D=>if (D.remove (yI name (part + f))).2 ≠ 0∧(D.remove (yI name (part + f))).2 ≠ 60 then D.remove (yI name (part + f)) else zCN name f part (D.remove (yI name (part + f))).1
def qc.load (W:qc) (D:zD):zD×qc×Int :=
 if (vU W.name 10 0 D W).2.2.2 ≠ 0 then ((vU W.name 10 0 D W).1,(vU W.name 10 0 D W).2.1,(vU W.name 10 0 D W).2.2.2)
 else ((zCN W.name (10 - (vU W.name 10 0 D W).2.2.1) (vU W.name 10 0 D W).2.2.1 (vU W.name 10 0 D W).1).1,(vU W.name 10 0 D W).2.1,(zCN W.name (10 - (vU W.name 10 0 D W).2.2.1) (vU W.name 10 0 D W).2.2.1 (vU W.name 10 0 D W).1).2)
section
variable {B w:World} {Γ:List zC} {l d:Nat} {W:qc} {s:Sl} {rs:zER} {D:zD}
theorem zI5 {D:zD} (hD:OkD D) (n:List UInt8):(D.read n).1.length ≤ 1048576:=by
 unfold zD.read
 split
 ·simp
 cases hm:zW n D.files with
 | none=>simp
 | some f=>have:=jv hD hm; exact this.1
theorem zCO {name:List UInt8} {k:Int→K} {part:Nat} (hp:part ≤ 10) (hD:OkD D) (hn:W.name = name) (hnl:name.length ≤ 8) (h:Holds B (xG l d W::zJ d D::Γ) w)
  (hk:∀ w,OkD (zCN name (10 - part) part D).1→Holds B (xG l d W::zJ d (zCN name (10 - part) part D).1::Γ) w→k (zCN name (10 - part) part D).2 w):zO.s1 k (some ⟨l,0,none⟩) (part:Int) w:=by
 unfold zO.s1
 refine yY.of (fun t w=>∃ (f:Nat) (D':zD),t = (part:Int) + f - 1∧part + f ≤ 10∧zCN name (10 - part) part D = zCN name f part D'∧OkD D'∧Holds B (xG l d W::zJ d D'::Γ) w) (fun t _=>(t + 1).toNat) ⟨10 - part,D,by omega,by omega,rfl,hD,h⟩ ?_
 clear h
 rintro t w ⟨f,D',rfl,hf,he,hD',h⟩
 rw [he] at hk
 unfold zO.b2
 refine yc (fun hb=>?_) (fun hb=>?_)
 ·simp only [decide_eq_true_eq] at hb
  obtain ⟨g,rfl⟩:∃ g,f = g + 1:=⟨f - 1,by omega⟩
  obtain ⟨s,rs,hrs,h⟩:=xG.opens h
  have hi:(part:Int) + ((g + 1:Nat):Int) - 1 = ((part + g:Nat):Int):=by omega
  rw [hi]
  refine zBe h ?_
  clear h
  intro w h
  have hS:Holds B (blk l (.cells (wA d W s) y8 (0,0))::SlC zR 1 s (List.map vW rs)::stars (List.map vk rs)::Γ) w:=h.del 3 at3
  refine jm hS ?_
  refine ug rfl ?_
  refine zBT (x:=some ⟨d,0,none⟩) rfl M0 rfl ?_
  refine vo (by omega) (by rw [hn]; omega) h ?_
  rw [hn]
  refine zEf hS ?_
  replace h:=P2 h
  replace h:=P2 h
  replace h:=P2 h
  replace h:=P3 h
  try simp only [N1,N2,N3,N4,N5,N6,N7] at h
  refine zDJ (n:=yI name (part + g)) hD' h fun w hD2 h=>?_
  replace h:=P3 h
  replace h:=P3 h
  replace h:=P3 h
  try simp only [N1,N2,N3,N4,N5,N6,N7] at h
  replace h:=xG.shuts (W:=W) hrs h
  unfold zCN at hk
  have s3:∀ t,t = decide ((D'.remove (yI name (part + g))).2 ≠ 0∧(D'.remove (yI name (part + g))).2 ≠ 60)→zO.s3 k (fun t w'=>(∃ (f:Nat) (D':zD),t = (part:Int) + f - 1∧part + f ≤ 10∧zCN name (10 - part) part D = zCN name f part D'∧OkD D'∧Holds B (xG l d W::zJ d D'::Γ) w')∧(t + 1).toNat < (((part + g:Nat):Int) + 1).toNat) ⟨l,0,none⟩ (part:Int) ((part + g:Nat):Int) (D'.remove (yI name (part + g))).2 t w:=by
   rintro t rfl
   unfold zO.s3
   refine yc (fun hq=>?_) (fun hq=>?_)
   ·rw [if_pos (by simpa using hq)] at hk
    exact hk _ hD2 h
   ·have hq':=of_decide_eq_false hq
    refine qY (e':=(part:Int) + g - 1) (by rw [wrap64 (by omega) (by omega)]; omega) ?_
    refine ⟨⟨g,_,rfl,by omega,?_,hD2,h⟩,by omega⟩
    rw [he,zCN,if_neg hq']
  refine yc (fun hq=>?_) (fun hq=>?_)
  ·simp only [decide_eq_true_eq] at hq
   exact s3 _ (by simp [hq])
  ·simp only [decide_eq_false_iff_not,Decidable.not_not] at hq
   exact s3 _ (by simp [hq])
 ·simp only [decide_eq_false_iff_not] at hb
  have:f = 0:=by omega
  subst this
  exact hk _ hD' h
theorem zEr {k:Int→K} (hD:OkD D) (hnl:W.name.length ≤ 8) (hr0:W.recs = []) (h:Holds B (xG l d W::zJ d D::Γ) w)
  (hk:∀ w,OkD (W.load D).1→Holds B (xG l d (W.load D).2.1::zJ d (W.load D).1::Γ) w→k (W.load D).2.2 w):zO.call (some ⟨l,0,none⟩) k w:=by
 unfold qc.load at hk
 generalize hLF:vU W.name 10 0 D W = LF at hk
 refine zDX _ _ _ ?_
 unfold zO
 refine yY.of (fun t w=>∃ (part:Nat) (D':zD) (W':qc),t.2 = (part:Int)∧part ≤ 10∧OkD D'∧W'.name = W.name∧W'.recs.length ≤ part * 1048576 ∧
   (t.1 = true→LF = vU W.name (10 - part) part D' W')∧(t.1 = false→LF = (D',W',part,0))∧Holds B (xG l d W'::zJ d D'::Γ) w) (fun t _=>(10 - t.2).toNat) ⟨0,D,W,rfl,by omega,hD,rfl,by rw [hr0]; simp,(fun _=>hLF.symm),(fun hf=>by cases hf),h⟩ ?_
 clear h
 rintro ⟨wh,t⟩ w ⟨part,D',W',h1,hpt,hD',hnm,hcnt,hT,hF,h⟩
 simp only at h1 hT hF
 subst h1
 unfold zO.b4
 have out:LF = (D',W',part,0)→Holds B (xG l d W'::zJ d D'::Γ) w→zO.s1 k (some ⟨l,0,none⟩) (part:Int) w:=fun he h=>by
  rw [he,if_neg (by simp)] at hk
  exact zCO hpt hD' hnm hnl h hk
 refine yc (fun hwh=>?_) (fun hwh=>?_)
 ·have hT':=hT hwh
  unfold zO.s5
  refine yc (fun hb=>?_) (fun hb=>?_)
  ·simp only [decide_eq_true_eq] at hb
   obtain ⟨f,hf⟩:∃ f,10 - part = f + 1:=⟨9 - part,by omega⟩
   rw [hf] at hT'
   obtain ⟨s,rs,hrs,h⟩:=xG.opens h
   have hrl:rs.length = W'.recs.length:=by rw [← hrs]; simp
   refine zBe h ?_
   clear h
   intro w h
   have hS:Holds B (blk l (.cells (wA d W' s) y8 (0,0))::SlC zR 1 s (List.map vW rs)::stars (List.map vk rs)::Γ) w:=h.del 3 at3
   refine jm hS ?_
   refine ug rfl ?_
   refine zBT (x:=some ⟨d,0,none⟩) rfl M0 rfl ?_
   refine vo (by omega) (by rw [hnm]; omega) h ?_
   rw [hnm]
   refine zEf hS ?_
   replace h:=P2 h
   replace h:=P2 h
   replace h:=P2 h
   replace h:=P3 h
   try simp only [N1,N2,N3,N4,N5,N6,N7] at h
   have hRl:=zI5 hD' (yI W.name part)
   refine zFN (n:=yI W.name part) hD' h fun sd w h=>?_
   have hdc:=h.jd
   rw [vU] at hT'
   generalize hR:D'.read (yI W.name part) = R at hT' h hRl
   obtain ⟨x,e⟩:=R
   simp only at hT' h hRl ⊢
   refine yc (fun he60=>?_) (fun he60=>?_)
   ·simp only [decide_eq_true_eq] at he60
    rw [if_pos he60] at hT'
    replace h:=P1 h
    replace h:=P4 h
    replace h:=P4 h
    replace h:=P4 h
    replace h:=D4 h
    try simp only [N1,N2,N3,N4,N5,N6,N7] at h
    have h6:=xG.shuts (W:=W') hrs h
    rw [hT',if_neg (by simp)] at hk
    exact zCO hpt hD' hnm hnl h6 hk
   ·have he60':¬ e = 60:=by simpa using he60
    rw [if_neg he60'] at hT'
    refine yc (fun he0=>?_) (fun he0=>?_)
    ·have he0':e ≠ 0:=by simpa using he0
     rw [if_pos he0'] at hT'
     replace h:=P1 h
     replace h:=P4 h
     replace h:=P4 h
     replace h:=P4 h
     replace h:=D4 h
     try simp only [N1,N2,N3,N4,N5,N6,N7] at h
     have h6:=xG.shuts (W:=W') hrs h
     rw [hT',if_pos he0'] at hk
     exact hk _ hD' h6
    ·have he0':¬ e ≠ 0:=by simpa using he0
     rw [if_neg he0'] at hT'
     have hPl:=zKU _ x rfl
     have hxn:x.length = sd.n:=by have:=hdc.1; rw [hR] at this; simpa using this
     replace h:=P1 h
     replace h:=P1 h
     replace h:=P4 h
     replace h:=P4 h
     replace h:=P4 h
     try simp only [N1,N2,N3,N4,N5,N6,N7] at h
     refine zET (dat:=x) (by omega) (by omega) h (fun w h=>Bytes.rd h List.mem_cons_self) hdc.2.1 hdc.2.2.1 fun s' rs' w hrs' h=>?_
     generalize qI x = P at hT' hPl hrs' h
     obtain ⟨nr,g⟩:=P
     simp only at hT' hPl hrs' h ⊢
     first | refine S0 h rfl ?_ rfl ?_ | refine S1 h rfl ?_ rfl ?_ | refine S2 h rfl ?_ rfl ?_ | refine S3 h rfl ?_ rfl ?_ | refine S4 h rfl ?_ rfl ?_ | refine S5 h rfl ?_ rfl ?_ | refine S6 h rfl ?_ rfl ?_ | refine S7 h rfl ?_ rfl ?_ | refine S8 h rfl ?_ rfl ?_
     ·first | exact Nat.lt_of_ble_eq_true rfl | (simp; done) | (simp; omega)
     clear h
     intro w h
     try simp only [N1,N2,N3,N4,N5,N6,N7] at h
     first | refine S0 h rfl ?_ rfl ?_ | refine S1 h rfl ?_ rfl ?_ | refine S2 h rfl ?_ rfl ?_ | refine S3 h rfl ?_ rfl ?_ | refine S4 h rfl ?_ rfl ?_ | refine S5 h rfl ?_ rfl ?_ | refine S6 h rfl ?_ rfl ?_ | refine S7 h rfl ?_ rfl ?_ | refine S8 h rfl ?_ rfl ?_
     ·first | exact Nat.lt_of_ble_eq_true rfl | (simp; done) | (simp; omega)
     clear h
     intro w h
     try simp only [N1,N2,N3,N4,N5,N6,N7] at h
     have hrs2:rs'.map Prod.snd = ({ W' with recs:=W'.recs++nr,part:=part,used:=g }:qc).recs:=by rw [hrs',hrs]
     have hc2:(W'.recs++nr).length ≤ (part + 1) * 1048576:=by rw [List.length_append]; omega
     have s6:∀ (D2:zD) (wh:Bool) w,OkD D2→(wh = true→LF = vU W.name (10 - (part + 1)) (part + 1) D2 { W' with recs:=W'.recs++nr,part:=part,used:=g })→(wh = false→LF = (D2,{ W' with recs:=W'.recs++nr,part:=part,used:=g },part + 1,0)) →
       Holds B (xG l d { W' with recs:=W'.recs++nr,part:=part,used:=g }::zJ d D2::Γ) w→zO.s6 k (fun a1 a2 w'=>(∃ (part:Nat) (D':zD) (W':qc),a2 = (part:Int)∧part ≤ 10∧OkD D'∧W'.name = W.name∧W'.recs.length ≤ part * 1048576 ∧
   (a1 = true→LF = vU W.name (10 - part) part D' W')∧(a1 = false→LF = (D',W',part,0))∧Holds B (xG l d W'::zJ d D'::Γ) w')∧(10 - a2).toNat < (10 - (part:Int)).toNat) (some ⟨l,0,none⟩) wh (part:Int) w:=by
      intro D2 wh w hD2 q1 q2 h
      unfold zO.s6
      refine jo (by omega) (by omega) ?_
      exact ⟨⟨part + 1,D2,{ W' with recs:=W'.recs++nr,part:=part,used:=g },by omega,by omega,hD2,hnm,hc2,q1,q2,h⟩,by omega⟩
     by_cases hg:g = x.length
     ·rw [if_pos hg] at hT'
      rw [decide_eq_true (show (g:Int) = (sd.n:Int) by omega)]
      refine zk rfl ?_
      replace h:=P4 h
      replace h:=P3 h
      replace h:=P3 h
      replace h:=P3 h
      replace h:=D4 h
      try simp only [N1,N2,N3,N4,N5,N6,N7] at h
      have h6:=xG.shuts (W:={ W' with recs:=W'.recs++nr,part:=part,used:=g }) hrs2 h
      refine s6 D' true w hD' (fun _=>?_) (fun hf=>by cases hf) h6
      rw [hT',show 10 - (part + 1) = f by omega]
     ·rw [if_neg hg] at hT'
      rw [decide_eq_false (show ¬ (g:Int) = (sd.n:Int) by omega)]
      refine qN rfl ?_
      replace h:=P4 h
      replace h:=P3 h
      replace h:=P3 h
      replace h:=P3 h
      replace h:=D4 h
      try simp only [N1,N2,N3,N4,N5,N6,N7] at h
      refine zBe h ?_
      clear h
      intro w h
      have hS:Holds B (blk l (.cells (wA d ({ W' with part:=part,used:=g }:qc) s') y8 (0,0))::SlC zR 1 s' (List.map vW rs')::stars (List.map vk rs')::Γ) w:=h.del 3 at3
      refine jm hS ?_
      refine zBT (x:=some ⟨d,0,none⟩) rfl M0 rfl ?_
      refine vo (W:={ W' with part:=part,used:=g }) (by omega) (by simp only; rw [hnm]; omega) h ?_
      rw [show yI ({ W' with part:=part,used:=g }:qc).name part = yI W.name part by show yI W'.name part = _; rw [hnm]]
      refine zEf hS ?_
      replace h:=P2 h
      replace h:=P2 h
      replace h:=P2 h
      replace h:=P3 h
      try simp only [N1,N2,N3,N4,N5,N6,N7] at h
      refine zKO (n:=yI W.name part) (c:=(g:Int)) hD' h fun w hD2 h=>?_
      replace h:=P3 h
      replace h:=P3 h
      replace h:=P3 h
      try simp only [N1,N2,N3,N4,N5,N6,N7] at h
      have h6:=xG.shuts (W:={ W' with recs:=W'.recs++nr,part:=part,used:=g }) hrs2 h
      refine yc (fun hz=>?_) (fun hz=>?_)
      ·have hz':(D'.cut (yI W.name part) (g:Int)).2 ≠ 0:=by simpa using hz
       rw [if_pos hz'] at hT'
       rw [hT',if_pos hz'] at hk
       exact hk _ hD2 h6
      ·have hz':¬ (D'.cut (yI W.name part) (g:Int)).2 ≠ 0:=by simpa using hz
       rw [if_neg hz'] at hT'
       exact s6 _ false w hD2 (fun hf=>by cases hf) (fun _=>hT') h6
  ·simp only [decide_eq_false_iff_not] at hb
   have hp10:part = 10:=by omega
   subst hp10
   exact out (by rw [hT']; rfl) h
 ·have hF':=hF hwh
  unfold zO.s5
  exact zk rfl (out hF' h)
end
end
section
open Go Go.Sep
theorem zKV {ks:List Int} {g:List UInt8→qP} {ns:List (List UInt8)} {n:List UInt8} (hnd:ns.Nodup) (hn:n ∈ ns):∃ i,zW n (xE ks g ns) = some (xX ks i (g n)):=by
 obtain ⟨i,hi⟩:=List.getElem?_of_mem hn
 refine ⟨i,?_⟩
 have hm:(n,xX ks i (g n)) ∈ xE ks g ns:=by
  unfold xE
  refine List.mem_map.2 ⟨(n,i),?_,rfl⟩
  exact List.mem_of_getElem? (i:=i) (by rw [List.getElem?_zipIdx,hi]; simp)
 have:=jC (m:=xE ks g ns) (by rw [zAZ]; exact hnd) hm
 exact this
theorem zEU {D:zD} (hD:OkD D) (ks:List Int) {n:List UInt8} {f:qP} (hm:zW n D.files = some f):∃ i,zW n (D.crash ks).files = some (xX ks i f):=by
 have hn:n ∈ D.names:=zBF.2 (by
  have:=List.mem_map_of_mem (f:=Prod.fst) (zCJ hm)
  exact this)
 obtain ⟨i,hi⟩:=zKV (ks:=ks) (g:=D.file) (zA5 hD) hn
 refine ⟨i,?_⟩
 have hf:D.file n = f:=by unfold zD.file; rw [hm]; rfl
 rw [hf] at hi
 exact hi
theorem zDM {D:zD} (ks:List Int) {n:List UInt8} (hm:zW n D.files = none):zW n (D.crash ks).files = none:=by
 cases hx:zW n (D.crash ks).files with
 | none=>rfl
 | some y=>
  exfalso
  have h1:=List.mem_map_of_mem (f:=Prod.fst) (zCJ hx)
  have h2:n ∈ D.names:=by
   have:(D.crash ks).files.map Prod.fst = D.names:=zAZ _ _ _
   rw [this] at h1
   exact h1
  obtain ⟨p,hp,he⟩:=List.mem_map.1 (zBF.1 h2)
  exact zAB hm p hp he
theorem zHF (ks:List Int) (i:Nat) {f:qP} (hl:f.last = f.data.length):xX ks i f = f:=by
 have:=zCx ks i f
 have hk:uV ks i f = 0:=by omega
 unfold xX
 rw [hk,Nat.add_zero,hl,List.take_length]
 cases f
 simp only at hl
 rw [hl]
end
section
open Go Go.Sep
def uW (rs:List (List UInt8)):List UInt8:=rs.flatMap zU
theorem zCP:uW [] = []:=rfl
theorem zBH (r:List UInt8) (rs:List (List UInt8)):uW (r::rs) = zU r++uW rs:=rfl
theorem zKW (a b:List (List UInt8)):uW (a++b) = uW a++uW b:=List.flatMap_append
theorem zEV (r:List UInt8):uW [r] = zU r:=by simp [uW]
def Small (rs:List (List UInt8)):Prop:=∀ r ∈ rs,r.length ≤ 4096
theorem zGH {r:List UInt8} (hr:r.length ≤ 4096) {m:Nat} (hm:m < (zU r).length):(zU r).take m = []∨(zQ ((zU r).take m)).2.2 ≠ 0:=by
 by_cases he:(zQ ((zU r).take m)).2.2 = 0
 ·exfalso
  have hF:=zHg ((zU r).take m)
  obtain ⟨q1,q2,q3⟩:=hF.ok he
  have q4:=hF.small
  generalize hu:(zQ ((zU r).take m)).1 = b at q2 q3 q4
  generalize (zQ ((zU r).take m)).2.1 = n at q1 q2 q3
  have e1:zU b++(((zU r).take m).drop n++(zU r).drop m) = zU r++[]:=by
   rw [← List.append_assoc,← q3,List.take_append_drop,List.append_nil]
  have e2:=zCq q4 hr e1
  have e3:=congrArg List.length e2.2
  have e4:=congrArg List.length q3
  simp only [List.length_append,List.length_drop,List.length_take,List.length_nil] at e3 e4
  omega
 ·exact .inr he
theorem zEW:∀ (p:List (List UInt8)) (m:Nat),Small p→m ≤ (uW p).length→∃ k,k ≤ p.length∧qI ((uW p).take m) = (p.take k,(uW (p.take k)).length)∧(uW (p.take k)).length ≤ m∧(k < p.length→m < (uW (p.take (k + 1))).length)
 | [],m,_,hm=>⟨0,Nat.le_refl _,by simp [zCP,zBG],by simp [zCP],fun h=>by simp at h⟩
 | r::p,m,hs,hm=>by
  have hr:r.length ≤ 4096:=hs r List.mem_cons_self
  have hfl:=yM r
  rw [zBH] at hm ⊢
  by_cases hlt:m < (zU r).length
  ·refine ⟨0,Nat.zero_le _,?_,by simp [zCP],fun _=>by rw [List.take_succ_cons,List.take_zero,zEV]; exact hlt⟩
   rw [List.take_append_of_le_length (by omega)]
   simp only [List.take_zero,zCP,List.length_nil]
   rcases zGH hr hlt with h | h
   ·rw [h,zBG]
   ·exact zC0 h
  ·rw [List.length_append] at hm
   obtain ⟨k,h1,h2,h3,h4⟩:=zEW p (m - (zU r).length) (fun x hx=>hs x (List.mem_cons_of_mem _ hx)) (by omega)
   have e1:(zU r++uW p).take m = zU r++(uW p).take (m - (zU r).length):=by
    rw [List.take_append,List.take_of_length_le (by omega)]
   have hu:=vg ((uW p).take (m - (zU r).length)) hr
   refine ⟨k + 1,by simp; omega,?_,?_,fun hk=>?_⟩
   ·rw [e1,zES (by intro e; have h9:=congrArg List.length e; rw [List.length_append,List.length_nil] at h9; omega) (by rw [hu]),hu]
    simp only
    rw [← hfl,List.drop_left,h2,List.take_succ_cons,zBH,List.length_append]
   ·rw [List.take_succ_cons,zBH,List.length_append]; omega
   ·rw [List.take_succ_cons,zBH,List.length_append]
    have:=h4 (by simpa using hk)
    omega
theorem zGI (p:List (List UInt8)) (k:Nat):(uW (p.take k)).length ≤ (uW p).length:=by
 have h:=zKW (p.take k) (p.drop k)
 rw [List.take_append_drop] at h
 rw [h,List.length_append]; omega
theorem zI6 {p:List (List UInt8)} (hs:Small p):qI (uW p) = (p,(uW p).length):=by
 obtain ⟨k,h1,h2,h3,h4⟩:=zEW p (uW p).length hs (Nat.le_refl _)
 rw [List.take_length] at h2
 have hk:k = p.length:=by
  by_cases hk:k < p.length
  ·have:=h4 hk
   have:=zGI p (k + 1)
   omega
  ·omega
 rw [hk,List.take_length] at h2
 exact h2
structure Free (D:zD):Prop where
 left:D.a.left = -1
 down:D.a.down = false
structure Beside (W:qc) (D D':zD) (n:Nat):Prop where
 a:D'.a = D.a
 used:y7 D'.files ≤ y7 D.files + n
 few:D'.files.length ≤ D.files.length + 1
 others:∀ m,(∀ k,k ≤ 9→m ≠ yI W.name k)→zW m D'.files = zW m D.files
theorem Beside.refl (W:qc) (D:zD) (n:Nat):Beside W D D n:=⟨rfl,by omega,by omega,fun _ _=>rfl⟩
section
variable {W:qc} {D:zD} {q:List (List (List UInt8))} {p:List (List UInt8)} {lk:Nat} {there:Bool}
end
end
section
open Go Go.Sep
def vR (name:List UInt8) (size:Int):qc:=⟨name,size,0,0,false,[]⟩
theorem zHs {D:zD} {ks:List Int}:Free (D.crash ks):=⟨rfl,rfl⟩
end
end Go.Proofs.YtgmbfnboiobeaaaGreat
