/- Texts of the claim SchedSerial, one behind the other. -/
import Derived.Test.YtdemfamgieonbaaGreatSchedSerialM4
import Derived.Shelf.SortM.Plain
import Derived.Shelf.SortM.SortNone
import Derived.Ground.SlgmProg
import Derived.Test.YtdemfamgieonbaaGreatProg
import Derived.Deep.OwnRows
set_option linter.all false
set_option maxRecDepth 100000
namespace Go.Proofs.YtdemfamgieonbaaGreat
section
open Go Go.Sep
set_option maxHeartbeats 4000000
attribute [local irreducible] zOD
attribute [local irreducible] G Gp Cx Tx Ex Sx Dx Ox Ax Lx Rx Fx Bx Bj Al Do Ld LdN St StN New zL Ar DoU Rd Rd2 Pu Cd Ite Fv uF jk jD yO zAQ zDT zDq zD0 Ext Dead Dr yh Sv LdS vY RdS zEL Nn Idx zB0 zDp Fld Bld Slc zEM Cat All yJ jg jO jm
instance:AT Tryz.prog 48 12:=⟨by kernel_rfl⟩
instance:CB Tryz.prog 100:=⟨by kernel_rfl⟩
instance:CB Tryz.prog 101:=⟨by kernel_rfl⟩
instance:CB Tryz.prog 156:=⟨by kernel_rfl⟩
instance:CB Tryz.prog 157:=⟨by kernel_rfl⟩
instance:CB Tryz.prog 158:=⟨by kernel_rfl⟩
instance:CB Tryz.prog 159:=⟨by kernel_rfl⟩
instance:CB Tryz.prog 46:=⟨by kernel_rfl⟩
instance:CB Tryz.prog 47:=⟨by kernel_rfl⟩
instance:CB Tryz.prog 48:=⟨by kernel_rfl⟩
instance:CB Tryz.prog 49:=⟨by kernel_rfl⟩
instance:CB Tryz.prog 52:=⟨by kernel_rfl⟩
instance:CB Tryz.prog 53:=⟨by kernel_rfl⟩
instance:CB Tryz.prog 55:=⟨by kernel_rfl⟩
instance:CB Tryz.prog 56:=⟨by kernel_rfl⟩
instance:CB Tryz.prog 57:=⟨by kernel_rfl⟩
instance:CB Tryz.prog 58:=⟨by kernel_rfl⟩
instance:CB Tryz.prog 59:=⟨by kernel_rfl⟩
instance:CB Tryz.prog 60:=⟨by kernel_rfl⟩
instance:CB Tryz.prog 62:=⟨by kernel_rfl⟩
instance:CB Tryz.prog 63:=⟨by kernel_rfl⟩
instance:CB Tryz.prog 84:=⟨by kernel_rfl⟩
instance:CB Tryz.prog 95:=⟨by kernel_rfl⟩
instance:CB Tryz.prog 98:=⟨by kernel_rfl⟩
instance:CB Tryz.prog 99:=⟨by kernel_rfl⟩
instance:CT Tryz.prog 132:=⟨by kernel_rfl⟩
instance:CT Tryz.prog 133:=⟨by kernel_rfl⟩
instance:CT Tryz.prog 136:=⟨by kernel_rfl⟩
instance:CT Tryz.prog 29:=⟨by kernel_rfl⟩
instance:CT Tryz.prog 42:=⟨by kernel_rfl⟩
instance:FT Tryz.prog 135 0 0 1:=⟨by kernel_rfl⟩
instance:FT Tryz.prog 135 1 1 1:=⟨by kernel_rfl⟩
instance:FT Tryz.prog 135 2 2 1:=⟨by kernel_rfl⟩
instance:FT Tryz.prog 135 3 3 1:=⟨by kernel_rfl⟩
instance:FT Tryz.prog 135 4 4 1:=⟨by kernel_rfl⟩
instance:FT Tryz.prog 151 0 0 10:=⟨by kernel_rfl⟩
instance:FT Tryz.prog 151 1 10 1:=⟨by kernel_rfl⟩
instance:PLT Tryz.prog 135 [(0,1),(1,1),(2,1),(3,1),(4,1)]:=⟨_,Tryz.underlying135,by kernel_rfl⟩
instance:PLT Tryz.prog 151 [(0,10),(10,1)]:=⟨_,Tryz.underlying151,by kernel_rfl⟩
instance:PLT Tryz.prog 53 [(0,4),(4,2)]:=⟨_,Tryz.underlying53,by kernel_rfl⟩
instance:SLT Tryz.prog 132 136 1:=⟨by kernel_rfl⟩
instance:SLT Tryz.prog 45 53 6:=⟨by kernel_rfl⟩
instance:SLT Tryz.prog 54 37 4:=⟨by kernel_rfl⟩
instance:SZ Tryz.prog 132 1:=⟨by kernel_rfl⟩
instance:SZ Tryz.prog 133 1:=⟨by kernel_rfl⟩
instance:SZ Tryz.prog 37 4:=⟨by kernel_rfl⟩
instance:SZ Tryz.prog 42 1:=⟨by kernel_rfl⟩
instance:UN Tryz.prog 146 (.pointer 151):=⟨Tryz.underlying146⟩
instance:ZT Tryz.prog 135 (.agg #[(.pointer none),(.pointer none),(Sl.val ⟨none,0,0⟩),(Sl.val ⟨none,0,0⟩),(Sl.val ⟨none,0,0⟩)]):=⟨Tryz.t135,by kernel_rfl,by kernel_rfl⟩
instance:ZT Tryz.prog 136 (.pointer none):=⟨Tryz.t136,by kernel_rfl,by kernel_rfl⟩
instance:ZT Tryz.prog 146 (.pointer none):=⟨Tryz.t146,by kernel_rfl,by kernel_rfl⟩
instance:ZT Tryz.prog 151 (.agg #[(.int .i64 0),(.int .u64 0),(.int .u64 0),(.int .i64 0),(.int .i64 0),(Sl.val ⟨none,0,0⟩),(Sl.val ⟨none,0,0⟩),(Sl.val ⟨none,0,0⟩),(.int .i64 0),(Sl.val ⟨none,0,0⟩),(Sl.val ⟨none,0,0⟩)]):=⟨Tryz.t151,by kernel_rfl,by kernel_rfl⟩
instance:ZT Tryz.prog 37 (.agg #[(.int .i64 0),(.int .u64 0),(.int .u64 0),(.int .i64 0)]):=⟨Tryz.t37,by kernel_rfl,by kernel_rfl⟩
instance:ZT Tryz.prog 53 (.agg #[(.int .i64 0),(.int .u64 0),(.int .u64 0),(.int .i64 0),(.int .i64 0),(Sl.val ⟨none,0,0⟩)]):=⟨Tryz.t53,by kernel_rfl,by kernel_rfl⟩
def uh.b2 (Q:Pt→Int→K) (k:Int→K) (c:Pt) (l a:Int): K :=
 Ite (decide (a < l))
  (Dr <| yh fun S=>
  Nn c fun b=>
  LdS S (b.add 2) Sl.val fun d=>
  zBK.call a fun f=>
  Sv S<|
  New 136 #[.pointer f] fun g=>
  Sv S<|
  Do Tryz.prog (Builtin.append_ #[132,132] 132 #[Sl.val d,(Sl.val (Sl.mk (some g) 1 1))]) Sl.val fun i=>
  St (b.add 2) (Sl.val i)<|
  Ar (IntKind.wrap .i64 (a + 1)) fun j=>
  k j)
  (Q c 0)
def uh.s1 (Q:Pt→Int→K) (a:Int) (b:Pt): K :=
 yJ (α:=Int) (fun X x=>uh.b2 Q X b a x) 0
def uh (a:Int) (Q:Pt→Int→K): K :=
 zBd.call a fun f g=>
 Ite (decide (g ≠ 0))
  (Q none g)
  (Dr<|
  All [
   (zD4.call  fun b=>
   Do Tryz.prog (Instr.makeSlice 42 (.int .i64 a) (.int .i64 a)) Sl.val fun c=>
   New 135 #[.pointer f,.pointer b,Sl.val ⟨none,0,0⟩,Sl.val c,Sl.val ⟨none,0,0⟩] fun d=>
   uh.s1 Q a (some d)),
   (Do Tryz.prog (Instr.makeSlice 42 (.int .i64 a) (.int .i64 a)) Sl.val fun c=>
   zD4.call  fun b=>
   New 135 #[.pointer f,.pointer b,Sl.val ⟨none,0,0⟩,Sl.val c,Sl.val ⟨none,0,0⟩] fun d=>
   uh.s1 Q a (some d))
   ])
theorem zQa (c Q w) (h:uh c Q w):uh.call c Q w:=by
 have:DH 8 2 [8,11] (.s [0,1,2,3,5,4] (.a [(6,1,.a [(7,1,.a [(8,0,.s [9,10] (.a [(11,0,.e)]))])])])):=⟨⟩
 have:∀ d f,LH 6 (fun x:Int=>[(6,.pointer d),(22,.int .i64 f),(23,.int .i64 x)]) (fun X x=>uh.b2 Q X d f x):=fun _ _=>⟨⟩
 have:JH 5 fun D=>∃ b,D [(0,.int .i64 b)] (fun C=>∀ g,C [(0,.int .i64 b),(6,.pointer g)] (uh.s1 Q b g)):=⟨fun _ ⟨_,h⟩=>⟨_,_,h⟩⟩
 have:DH 4 0 [] (.s [0,2] (.a [(1,0,.a [(3,0,.s [4] (.a [(5,0,.s [6] .e)]))]),(3,0,.a [(1,0,.s [4] (.a [(5,0,.s [6] .e)]))])])):=⟨⟩
 exact zM 39 h Tryz.func11
def jq (l:Pt) (m n:Av) (Q:Av→K): K :=
 New 37 m fun b=>
 New 25 n fun c=>
 New 40 #[.int .i64 0,.int .u64 0,.int .u64 0,.int .i64 0,.int .i64 0,Sl.val ⟨none,0,0⟩,Sl.val ⟨none,0,0⟩,Sl.val ⟨none,0,0⟩,.int .i64 0,Sl.val ⟨none,0,0⟩] fun a=>
 Dr<|
 Nn l fun d=>
 Ld d Value.pointer fun f=>
 LdN b 4 fun g=>
 LdN c 5 fun i=>
 zD5.call f g i fun j=>
 StN a 10 j<|
 LdN a 10 fun k=>
 Q k
theorem zIO (b c d Q w) (h:jq b c d Q w):jq.call b c d Q w:=by
 have:DH 1 1 [6,7] (.s [0,1,2,3,4,5] (.a [(6,0,.a [(7,0,.e)])])):=⟨⟩
 exact zM 14 h Tryz.func12
def zU.s3 (Q:Sl→K) (a k l:Addr) (m:Sl) (n:Pt): K :=
 Nn n fun b=>
 Ld (b.add 10) Sl.val fun c=>
 yV.call c (.func (.func 61) #[] #[(.pointer (some k))]) fun d=>
 St (b.add 10) (Sl.val d)<|
 Dr<|
 Ld (a.add 1) Value.pointer fun f=>
 Ld a Value.pointer fun g=>
 LdN l 4 fun i=>
 yH.call f g i m<|
 xu.call (some a) fun j=>
 Q j
def zU.s2 (Q:Sl→K) (b a c d:Addr) (l:Sl) (f:Pt): K :=
 Ld c (Value.int .i64) fun g=>
 Ite (decide (g = 2))
  (LdN (c.add 2) 10 fun i=>
  Ld a (Value.int .i64) fun j=>
  jH.call i j fun k=>
  zU.s3 Q b a d k f)
  (zU.s3 Q b a d l f)
def zU.s4 (Q:Sl→K) (a d b f:Addr) (g:Sl) (i:Pt) (s:Bool): K :=
 Ite s
  (xu.call (some a) fun j=>
  Q j)
  (Ite ((i).isNone)
   (Dr <| yh fun S=>
   vY S (b.add 2) 10 fun k=>
   vY S (b.add 2) 10 fun l=>
   zDG.call k fun m=>
   Sv S<|
   xB.call l fun n=>
   Bld #[.int .i64 0,.int .u64 0,.int .u64 0,.int .i64 0,.int .i64 0,Sl.val ⟨none,0,0⟩,Sl.val ⟨none,0,0⟩,Sl.val ⟨none,0,0⟩,.int .i64 0,Sl.val ⟨none,0,0⟩,Sl.val ⟨none,0,0⟩] ([(0,10),(10,1)][·]?) [(0,.agg m),(1,Sl.val n)] fun o=>
   New 151 o fun c=>
   Ld (a.add 4) Sl.val fun p=>
   New 146 #[(.pointer (some c))] fun q=>
   Do Tryz.prog (Builtin.append_ #[133,133] 133 #[Sl.val p,(Sl.val (Sl.mk (some q) 1 1))]) Sl.val fun r=>
   St (a.add 4) (Sl.val r)<|
   zU.s2 Q a d b f g (some c))
   (zU.s2 Q a d b f g i))
def zU.s1 (Q:Sl→K) (y:Pt) (d a:Addr) (z:Bool): K :=
 Ite z
  (Q (Sl.mk none 0 0))
  (Dr<|
  Nn y fun b=>
  Ld (b.add 3) Sl.val fun g=>
  Ld d (Value.int .i64) fun i=>
  Idx g i 1 fun k=>
  Ld k (Value.int .i64) fun l=>
  Ar (IntKind.wrap .i64 (l + 1)) fun m=>
  Idx g i 1 fun n=>
  St n (.int .i64 m)<|
  Dr<|
  Ld (b.add 2) Sl.val fun o=>
  Ld d (Value.int .i64) fun p=>
  Idx o p 1 fun q=>
  Ld q Value.pointer fun r=>
  LdN a 12 fun s=>
  yZ.call r s fun t=>
  Ite (!t)
   (Q (Sl.mk none 0 0))
   (Dr <| yh fun S=>
   vY S (a.add 2) 4 fun u=>
   LdS S ((a.add 2).add 9) Sl.val fun j=>
   New 37 #[.int .i64 0,.int .u64 0,.int .u64 0,.int .i64 0] fun c=>
   Sv S<|
   StN c 4 u<|
   Sv S<|
   LdN c 4 fun v=>
   zAt.call (some b) v fun f=>
   Ite (!(f).isNone)
    (Ld a (Value.int .i64) fun x=>
    zU.s4 Q b d a c j f (decide (x = 1)))
    (zU.s4 Q b d a c j f false)))
def zU (c:Pt) (o:Int) (p:Av) (Q:Sl→K): K :=
 New 3 #[.int .i64 o] fun b=>
 New 48 p fun a=>
 LdN a 12 fun f=>
 yN.call f fun q g=>
 Dr <| yh fun S=>
 Ite (decide (g ≠ 0))
  (zU.s1 Q c b a true)
  (LdS S b (Value.int .i64) fun i=>
  xS.call c i fun j=>
  Sv S<|
  Ite (!j)
   (zU.s1 Q c b a true)
   (Nn c fun d=>
   vY S (a.add 2) 10 fun k=>
   LdS S (d.add 3) Sl.val fun l=>
   yF.call k (l.n:Int) fun m=>
   zU.s1 Q (some d) b a (decide (m ≠ 0))))
theorem zIP (y z aa Q w) (h:zU y z aa Q w):zU.call y z aa Q w:=by
 have:DH 17 1 [10] (.s [0,1,2,4,5,6,9,3,7,8] (.a [(10,0,.e)])):=⟨⟩
 have:JH 16 fun D=>∃ b c d f,D [(0,(.pointer (some b))),(4,(.pointer (some c))),(9,(.pointer (some d))),(11,.pointer f)] (fun C=>∀ ab,C [(0,(.pointer (some b))),(4,(.pointer (some c))),(9,(.pointer (some d))),(10,Sl.val ab),(11,.pointer f)] (zU.s3 Q b c d ab f)):=⟨fun _ ⟨_,_,_,_,h⟩=>⟨_,_,h⟩⟩
 have:JH 14 fun D=>∃ g j k l m,D [(0,(.pointer (some g))),(4,(.pointer (some j))),(5,(.pointer (some k))),(9,(.pointer (some l))),(10,Sl.val m)] (fun C=>∀ ac,C [(0,(.pointer (some g))),(4,(.pointer (some j))),(5,(.pointer (some k))),(9,(.pointer (some l))),(10,Sl.val m),(11,.pointer ac)] (zU.s2 Q g j k l m ac)):=⟨fun _ ⟨_,_,_,_,_,h⟩=>⟨_,_,h⟩⟩
 have:DH 12 2 [5,7] (.s [0,3,1,4] (.a [(2,1,.a [(5,0,.s [6] (.a [(7,0,.s [8] .e)]))])])):=⟨⟩
 have:JH 10 fun D=>∃ n o p q r t,D [(0,(.pointer (some n))),(4,(.pointer (some o))),(5,(.pointer (some p))),(9,(.pointer (some q))),(10,Sl.val r),(11,.pointer t)] (fun C=>∀ ad,C [(0,(.pointer (some n))),(4,(.pointer (some o))),(5,(.pointer (some p))),(9,(.pointer (some q))),(10,Sl.val r),(11,.pointer t),(64,.bool ad)] (zU.s4 Q n o p q r t ad)):=⟨fun _ ⟨_,_,_,_,_,_,h⟩=>⟨_,_,h⟩⟩
 have:DH 7 2 [] (.s [0,1,3,4,2,5] (.a [(6,1,.a [(7,1,.s [8] .e)])])):=⟨⟩
 have:DH 5 1 [8] (.s [0,1,2,3,4,5,6,7] (.a [(8,0,.s [9] .e)])):=⟨⟩
 have:DH 4 1 [9] (.s [0,1,2,3,4,5,6,7,8] (.a [(9,0,.e)])):=⟨⟩
 have:JH 3 fun D=>∃ u v x,D [(0,.pointer u),(4,(.pointer (some v))),(5,(.pointer (some x)))] (fun C=>∀ ae,C [(0,.pointer u),(4,(.pointer (some v))),(5,(.pointer (some x))),(35,.bool ae)] (zU.s1 Q u v x ae)):=⟨fun _ ⟨_,_,_,h⟩=>⟨_,_,h⟩⟩
 have:DH 2 2 [16] (.s [0,1,2] (.i (.s [3,4,5,6,7,8,9,10,11,12,13,14,15,16,17,18] .e) (.s [3,4] (.a [(5,1,.s [6,7,8] (.i (.s [9,10,11,12,13,14,15,16,17,18] .e) (.s [9,11,12,13,10,14,15] (.a [(16,0,.s [17,18] .e)]))))])))):=⟨⟩
 exact zM 124 h Tryz.func15
def xC.b1 (Q:Sl→K) (n:Sl→Int→K) (o:Sl) (p:Int) (b:Sl) (a:Int): K :=
 Ite (decide (a < p))
  (Idx o a 1 fun c=>
  Ld c Value.pointer fun d=>
  Nn d fun f=>
  LdN f 4 fun g=>
  Bld #[.int .i64 0,.int .u64 0,.int .u64 0,.int .i64 0] (fun i=>some (i * 4,4)) [(0,.agg g)] fun j=>
  New 37 j fun k=>
  Do Tryz.prog (Builtin.append_ #[54,54] 54 #[Sl.val b,(Sl.val (Sl.mk (some k) 1 1))]) Sl.val fun l=>
  Ar (IntKind.wrap .i64 (a + 1)) fun m=>
  n l m)
  (Q b)
def xC (f:Pt) (Q:Sl→K): K :=
 Nn f fun b=>
 Ld (b.add 4) Sl.val fun a=>
 yJ (α:=Sl×Int) (fun X x=>xC.b1 Q (fun c d=>X (c,d)) a (a.n:Int) x.1 x.2) ((Sl.mk none 0 0),0)
theorem zGO (a Q w) (h:xC a Q w):xC.call a Q w:=by
 have:∀ b c,LH 2 (fun x:Sl×Int=>[(2,Sl.val x.1),(8,Sl.val b),(9,.int .i64 c),(10,.int .i64 x.2)]) (fun X x=>xC.b1 Q (fun d f=>X (d,f)) b c x.1 x.2):=fun _ _=>⟨⟩
 exact zM 24 h Tryz.func16
def zAs (d:Pt) (Q:Sl→K): K :=
 Nn d fun a=>
 Ld a Value.pointer fun b=>
 zAu.call b fun c=>
 Q c
theorem zIQ (a Q w) (h:zAs a Q w):zAs.call a Q w:=by
 exact zM 8 h Tryz.func17
def jB (a:Pt) (b:Int) (Q:Int→K): K :=
 xS.call a b fun c=>
 Ite (!c)
  (Q 0)
  (Nn a fun d=>
  Ld (d.add 3) Sl.val fun f=>
  Idx f b 1 fun g=>
  Ld g (Value.int .i64) fun i=>
  Q i)
theorem zI1 (a b Q w) (h:jB a b Q w):jB.call a b Q w:=by
 exact zM 16 h Tryz.func28
def xS.s1 (Q:Bool→K) (a:Bool): K :=
 Q a
def xS (d:Pt) (a:Int) (Q:Bool→K): K :=
 Ite (decide ((0:Int) ≤ a))
  (Nn d fun b=>
  Ld (b.add 3) Sl.val fun c=>
  xS.s1 Q (decide (a < (c.n:Int))))
  (xS.s1 Q false)
theorem zHS (a b Q w) (h:xS a b Q w):xS.call a b Q w:=by
 have:JH 1000001 fun D=>D [] (fun C=>∀ c,C [(4,.bool c)] (xS.s1 Q c)):=⟨fun _ h=>⟨_,_,h⟩⟩
 exact zM 16 h Tryz.func53
def zAt (j:Pt) (k:Av) (Q:Pt→K): K :=
 New 37 k fun c=>
 Nn j fun a=>
 Ld (a.add 4) Sl.val fun d=>
 yX.call d (.func (.func 96) #[] #[(.pointer (some c))]) fun b=>
 Ite (decide (b < 0))
  (Q none)
  (Ld (a.add 4) Sl.val fun f=>
  Idx f b 1 fun g=>
  Ld g Value.pointer fun i=>
  Q i)
theorem zIR (a b Q w) (h:zAt a b Q w):zAt.call a b Q w:=by
 exact zM 21 h Tryz.func56
def xu.b1 (Q ah:Sl→K) (a:Addr) (d:Sl): K :=
 Ld a Value.pointer fun f=>
 Nn f fun g=>
 Ld (g.add 4) Sl.val fun j=>
 yX.call j (.func (.func 97) #[] #[(.pointer (some a))]) fun b=>
 Ite (decide (b < 0))
  (Q d)
  (Ld a Value.pointer fun k=>
  Nn k fun l=>
  Ld (l.add 4) Sl.val fun m=>
  Idx m b 1 fun n=>
  Ld n Value.pointer fun o=>
  Nn o fun p=>
  LdN p 10 fun q=>
  New 40 #[.int .i64 0,.int .u64 0,.int .u64 0,.int .i64 0,.int .i64 0,Sl.val ⟨none,0,0⟩,Sl.val ⟨none,0,0⟩,Sl.val ⟨none,0,0⟩,.int .i64 0,Sl.val ⟨none,0,0⟩] fun c=>
  StN c 10 q<|
  Dr <| yh fun S=>
  Ar (IntKind.wrap .i64 (b + 1)) fun r=>
  LdS S a Value.pointer fun s=>
  LdS S a Value.pointer fun t=>
  Nn t fun u=>
  LdS S (u.add 4) Sl.val fun v=>
  xI.call v b r fun x=>
  Sv S<|
  Nn s fun y=>
  St (y.add 4) (Sl.val x)<|
  Dr <| yh fun S=>
  vY S c 4 fun z=>
  LdS S a Value.pointer fun aa=>
  vY S c 10 fun ab=>
  yD.call aa ab fun ac=>
  Sv S<|
  Bld #[.int .i64 0,.int .u64 0,.int .u64 0,.int .i64 0,.int .i64 0,Sl.val ⟨none,0,0⟩] ([(0,4),(4,2)][·]?) [(0,.agg z),(1,.agg ac)] fun ad=>
  Bld #[.int .i64 0,.int .u64 0,.int .u64 0,.int .i64 0,.int .i64 0,Sl.val ⟨none,0,0⟩] (fun i=>some (i * 6,6)) [(0,.agg ad)] fun ae=>
  New 53 ae fun af=>
  Do Tryz.prog (Builtin.append_ #[45,45] 45 #[Sl.val d,(Sl.val (Sl.mk (some af) 1 1))]) Sl.val fun ag=>
  ah ag)
def xu (b:Pt) (Q:Sl→K): K :=
 New 29 #[.pointer b] fun a=>
 yJ (α:=Sl) (fun X x=>xu.b1 Q X a x) (Sl.mk none 0 0)
theorem zIS (b Q w) (h:xu b Q w):xu.call b Q w:=by
 have:DH 6 2 [7,8] (.s [0,1,2,3,4] (.a [(5,1,.s [6] (.a [(7,0,.a [(8,0,.s [9] .e)])]))])):=⟨⟩
 have:DH 5 2 [11] (.s [5,6,7,0,1,2,3,4] (.a [(8,1,.s [9,10] (.a [(11,0,.e)]))])):=⟨⟩
 have:∀ c,LH 1 (fun x:Sl=>[(1,(.pointer (some c))),(2,Sl.val x)]) (fun X x=>xu.b1 Q X c x):=fun _=>⟨⟩
 exact zM 44 h Tryz.func57
def zBp (b:Int) (c:Addr) (Q:Bool→K): K :=
 Ld c (Value.int .i64) fun a=>
 Q (decide (b = a))
theorem zGm (a b Q w) (h:zBp a b Q w):zBp.call a b Q w:=by
 exact zM 7 h Tryz.func61
def zBq (f:Pt) (g:Addr) (Q:Bool→K): K :=
 Dr<|
 Nn f fun c=>
 LdN c 4 fun a=>
 LdN g 4 fun b=>
 Pu Tryz.prog (do eqGuard .eql 37 (.tmp 8) (.tmp 9) (.agg a) (.agg b); binOp .eql 37 (.agg a) (.agg b):Sem Value) Value.bool fun d=>
 Q d
theorem zGn (a b Q w) (h:zBq a b Q w):zBq.call a b Q w:=by
 exact zM 11 h Tryz.func96
def xU.s1 (Q:Bool→K) (a:Bool): K :=
 Q a
def xU (s:Pt) (c:Addr) (Q:Bool→K): K :=
 Nn s fun b=>
 LdN b 4 fun d=>
 New 37 #[.int .i64 0,.int .u64 0,.int .u64 0,.int .i64 0] fun a=>
 StN a 4 d<|
 Dr <| yh fun S=>
 LdS S (b.add 10) Sl.val fun f=>
 Ite (decide ((f.n:Int) = 0))
  (LdS S c Value.pointer fun g=>
  Nn g fun i=>
  LdS S (i.add 1) Value.pointer fun j=>
  vY S a 4 fun k=>
  jI.call j k fun l=>
  Sv S<|
  Ite l
   (xU.s1 Q true)
   (LdS S c Value.pointer fun m=>
   Nn m fun o=>
   LdS S (o.add 1) Value.pointer fun p=>
   vY S a 4 fun q=>
   qH.call p q fun r=>
   xU.s1 Q r))
  (xU.s1 Q false)
theorem zGo (b c Q w) (h:xU b c Q w):xU.call b c Q w:=by
 have:JH 1000002 fun D=>D [] (fun C=>∀ d,C [(3,.bool d)] (xU.s1 Q d)):=⟨fun _ h=>⟨_,_,h⟩⟩
 have:DH 2 2 [19] (.s [0,1,2,3,4,5,6] (.i (.s [7,8,9,10,11] (.a [(12,1,.s [13] (.i (.s [14,15,16,17,18,19,20,21,22] .e) (.s [14,15,16,17,18] (.a [(19,0,.s [20,21,22] .e)]))))])) (.s [7,8,9,10,11,12,13,14,15,16,17,18,19,20,21,22] .e))):=⟨⟩
 exact zM 32 h Tryz.func97
def yD.s2 (Q:Av→K) (a d:Addr) (f:Pt) (g:Av): K :=
 LdN d 2 fun b=>
 StN a 2 b<|
 y5.zUI f g<|
 LdN a 2 fun c=>
 Q c
def yD.s3 (Q:Av→K) (a b c d:Addr) (f:Pt) (g:Av) (p:Bool): K :=
 Ite p
  (Dr<|
  Ld (a.add 1) Value.pointer fun i=>
  LdN b 4 fun j=>
  y5.call i j<|
  Dr<|
  Ld (a.add 1) Value.pointer fun k=>
  Ld a Value.pointer fun l=>
  Ld ((b.add 4).add 2) Sl.val fun m=>
  Idx m 0 1 fun n=>
  Ld n Value.string fun o=>
  qV.call k l o<|
  yD.s2 Q c d f g)
  (yD.s2 Q c d f g)
def yD.s1 (Q:Av→K) (a b d c:Addr) (l:Sl) (f:Pt) (g:Av): K :=
 Ld a Value.pointer fun i=>
 xg.call i l<|
 Ld (b.add 4) (Value.int .i64) fun j=>
 Ite (decide (j = 2))
  (Ld c (Value.int .i64) fun k=>
  yD.s3 Q a b d c f g (decide (k = 0)))
  (yD.s3 Q a b d c f g false)
def yD (q:Pt) (r:Av) (Q:Av→K): K :=
 New 40 r fun a=>
 New 51 #[.int .i64 0,Sl.val ⟨none,0,0⟩] fun d=>
 Dr<|
 Nn q fun b=>
 Ld (b.add 1) Value.pointer fun f=>
 LdN a 4 fun g=>
 Dr<|
 Ld (b.add 1) Value.pointer fun m=>
 LdN a 4 fun n=>
 jI.call m n fun o=>
 Ite o
  (StN d 2 #[.int .i64 112,Sl.val ⟨none,0,0⟩]<|
  y5.zUI f g<|
  LdN d 2 fun p=>
  Q p)
  (Dr <| yh fun S=>
  LdS S b Value.pointer fun k=>
  vY S (a.add 4) 5 fun l=>
  All [
   (vk.call k l fun i j=>
   New 51 #[.int .i64 0,Sl.val ⟨none,0,0⟩] fun c=>
   StN c 2 i<|
   yD.s1 Q b a d c j f g),
   (New 51 #[.int .i64 0,Sl.val ⟨none,0,0⟩] fun c=>
   Sv S<|
   vk.call k l fun i j=>
   StN c 2 i<|
   yD.s1 Q b a d c j f g)
   ])
theorem zGp (t u Q w) (h:yD t u Q w):yD.call t u Q w:=by
 have:JH 9 fun D=>∃ b c d f,D [(4,(.pointer (some b))),(5,(.pointer (some c))),(10,.pointer d),(12,.agg f)] (fun C=>C [(4,(.pointer (some b))),(5,(.pointer (some c))),(10,.pointer d),(12,.agg f)] (yD.s2 Q b c d f)):=⟨fun _ ⟨_,_,_,_,h⟩=>⟨_,_,h⟩⟩
 have:DH 8 1 [13] (.s [0,1,2,4,5,6,8,9,3,7,10,11,12] (.a [(13,0,.e)])):=⟨⟩
 have:DH 7 1 [6] (.s [0,1,2,4,3,5] (.a [(6,0,.e)])):=⟨⟩
 have:JH 7 fun D=>∃ g i j k l m,D [(0,(.pointer (some g))),(3,(.pointer (some i))),(4,(.pointer (some j))),(5,(.pointer (some k))),(10,.pointer l),(12,.agg m)] (fun C=>∀ v,C [(0,(.pointer (some g))),(3,(.pointer (some i))),(4,(.pointer (some j))),(5,(.pointer (some k))),(10,.pointer l),(12,.agg m),(45,.bool v)] (yD.s3 Q g i j k l m v)):=⟨fun _ ⟨_,_,_,_,_,_,h⟩=>⟨_,_,h⟩⟩
 have:JH 5 fun D=>∃ n o p q r,D [(0,(.pointer (some n))),(3,(.pointer (some o))),(4,(.pointer (some p))),(10,.pointer q),(12,.agg r)] (fun C=>∀ x y,C [(0,(.pointer (some n))),(3,(.pointer (some o))),(4,(.pointer (some p))),(5,(.pointer (some x))),(6,Sl.val y),(10,.pointer q),(12,.agg r)] (yD.s1 Q n o p x y q r)):=⟨fun _ ⟨_,_,_,_,_,h⟩=>⟨_,_,h⟩⟩
 have:DH 4 2 [6,11] (.s [0,1,2,4,3,5] (.a [(6,0,.s [7,8,9] (.a [(10,0,.a [(11,0,.s [12] .e)])])),(10,1,.a [(6,0,.s [7,8,9] (.a [(11,0,.s [12] .e)]))])])):=⟨⟩
 have:DH 2 1 [6] (.s [0,1,2,4,3,5] (.a [(6,0,.e)])):=⟨⟩
 have:DH 1 1 [6] (.s [0,1,2,4,3,5] (.a [(6,0,.e)])):=⟨⟩
 exact zUH 68 h Tryz.func101
end
section
open Go Go.Sep
set_option maxHeartbeats 4000000
attribute [local irreducible] G Gp Cx Tx Ex Sx Dx Ox Ax Lx Rx Fx Bx Bj Al Do Ld LdN St StN New zL Ar DoU Rd Rd2 Pu Cd Ite Fv uF jk jD yO zAQ zDT zDq zD0 Ext Dead Dr yh Sv LdS vY RdS zEL Nn Idx zB0 zDp Fld Bld Slc zEM Cat All yJ jg jO jm
instance:CB Tryz.prog 10:=⟨by kernel_rfl⟩
instance:CB Tryz.prog 211:=⟨by kernel_rfl⟩
instance:CB Tryz.prog 23:=⟨by kernel_rfl⟩
instance:CB Tryz.prog 67:=⟨by kernel_rfl⟩
end
section
open Go Go.Sep
set_option maxHeartbeats 4000000
attribute [local irreducible] Do2
attribute [local irreducible] G Gp Cx Tx Ex Sx Dx Ox Ax Lx Rx Fx Bx Bj Al Do Ld LdN St StN New zL Ar DoU Rd Rd2 Pu Cd Ite Fv uF jk jD yO zAQ zDT zDq zD0 Ext Dead Dr yh Sv LdS vY RdS zEL Nn Idx zB0 zDp Fld Bld Slc zEM Cat All yJ jg jO jm
instance:CB Tryz.prog 14:=⟨by kernel_rfl⟩
instance:CB Tryz.prog 93:=⟨by kernel_rfl⟩
instance:CB Tryz.prog 94:=⟨by kernel_rfl⟩
instance:FT Tryz.prog 200 0 0 1:=⟨by kernel_rfl⟩
instance:FT Tryz.prog 200 1 1 1:=⟨by kernel_rfl⟩
instance:FT Tryz.prog 200 2 2 1:=⟨by kernel_rfl⟩
instance:PLT Tryz.prog 200 [(0,1),(1,1),(2,1)]:=⟨_,Tryz.underlying200,by kernel_rfl⟩
instance:ZT Tryz.prog 200 (.agg #[(.int .i64 0),(.int .i64 0),(.map none)]):=⟨Tryz.t200,by kernel_rfl,by kernel_rfl⟩
def zBK (c:Int) (Q:Pt→K): K :=
 Do Tryz.prog (Instr.makeMap 196 none) Value.map fun a=>
 New 200 #[.int .i64 c,(.int .i64 (-1)),.map a] fun b=>
 Q (some b)
theorem zKe (a Q w) (h:zBK a Q w):zBK.call a Q w:=by
 exact zM 7 h Tryz.func48
def yZ.s2 (Q:Bool→K) (b c:Addr) (d:Bool): K :=
 Ite d
  (Ld (c.add 1) (Value.int .i64) fun a=>
  St (b.add 1) (.int .i64 a)<|
  Q true)
  (Q false)
def yZ.s1 (Q:Bool→K) (b a:Addr) (j k:Bool): K :=
 Ite k
  (LdN (a.add 2) 4 fun c=>
  uU.call (some b) c fun d=>
  Q d)
  (Dr<|
  Ld a (Value.int .i64) fun f=>
  Ite (decide (f = 2))
   (Ite (!j)
    (Ld (a.add 1) (Value.int .i64) fun g=>
    Ld (b.add 1) (Value.int .i64) fun i=>
    yZ.s2 Q b a (decide (i < g)))
    (yZ.s2 Q b a false))
   (yZ.s2 Q b a false))
def yZ (l:Pt) (m:Av) (Q:Bool→K): K :=
 New 48 m fun a=>
 Dr <| yh fun S=>
 Nn l fun b=>
 vY S (a.add 2) 10 fun d=>
 LdS S b (Value.int .i64) fun f=>
 xB.call d fun g=>
 Sv S<|
 xZ.call g f fun i=>
 Ite (!i)
  (Q false)
  (LdN (a.add 2) 10 fun j=>
  uQ.call j fun c=>
  Ld a (Value.int .i64) fun k=>
  Ite (decide (k = 1))
   (yZ.s1 Q b a c c)
   (yZ.s1 Q b a c false))
theorem zGq (g i Q w) (h:yZ g i Q w):yZ.call g i Q w:=by
 have:JH 7 fun D=>∃ b c,D [(0,(.pointer (some b))),(3,(.pointer (some c)))] (fun C=>∀ j,C [(0,(.pointer (some b))),(3,(.pointer (some c))),(30,.bool j)] (yZ.s2 Q b c j)):=⟨fun _ ⟨_,_,h⟩=>⟨_,_,h⟩⟩
 have:JH 5 fun D=>∃ d f,D [(0,(.pointer (some d))),(3,(.pointer (some f)))] (fun C=>∀ k l,C [(0,(.pointer (some d))),(3,(.pointer (some f))),(5,.bool k),(18,.bool l)] (yZ.s1 Q d f k l)):=⟨fun _ ⟨_,_,h⟩=>⟨_,_,h⟩⟩
 have:DH 1 2 [7] (.s [0,3,4,5,1,6] (.a [(2,1,.a [(7,0,.s [8] .e)])])):=⟨⟩
 exact zM 52 h Tryz.func55
def uU (m:Pt) (n:Av) (Q:Bool→K): K :=
 New 37 n fun b=>
 Dr <| yh fun S=>
 Nn m fun c=>
 LdS S (c.add 2) Value.map fun a=>
 vY S b 4 fun d=>
 RdS Tryz.prog S (Instr.lookup 196 (.map a) (.agg d) false) (Value.int .i64) fun f=>
 Ar (IntKind.wrap .i64 (f + 1)) fun g=>
 Do2 Tryz.prog (Instr.mapEntry 196 (.map a) (.agg d)) (fun x y=>.tuple #[(Value.int .i64) x,.int .i64 y]) fun o i=>
 Sv S<|
 DoU Tryz.prog (Instr.entryStore 196 (.map a) (.int .i64 i) (.int .i64 g))<|
 Dr<|
 Ld (c.add 2) Value.map fun j=>
 LdN b 4 fun k=>
 Rd Tryz.prog (Instr.lookup 196 (.map j) (.agg k) false) (Value.int .i64) fun l=>
 Q (decide (l = 1))
theorem zGP (b c Q w) (h:uU b c Q w):uU.call b c Q w:=by
 have:DH 1 2 [9] (.s [0,1,2,3,4,5,6] (.a [(7,1,.s [8] (.a [(9,0,.e)]))])):=⟨⟩
 exact zZD 21 h Tryz.func94
def zCr  (Q:Pt→K): K :=
 zBK.call (-1) fun a=>
 Q a
theorem zKf (Q w) (h:zCr  Q w):zCr.call  Q w:=by
 exact zM 2 h Tryz.func205
def xD.s1 (Q:Bool→K) (a:Bool): K :=
 Q a
def xD (g:Pt) (i:Av) (Q:Bool→K): K :=
 New 40 i fun a=>
 LdN a 10 fun b=>
 uQ.call b fun c=>
 Ite (!c)
  (LdN a 4 fun d=>
  uU.call g d fun f=>
  xD.s1 Q f)
  (xD.s1 Q false)
theorem zGQ (a b Q w) (h:xD a b Q w):xD.call a b Q w:=by
 have:JH 1000001 fun D=>D [] (fun C=>∀ c,C [(4,.bool c)] (xD.s1 Q c)):=⟨fun _ h=>⟨_,_,h⟩⟩
 exact zM 14 h Tryz.func206
end
section
open Go Go.Sep
set_option maxHeartbeats 4000000
attribute [local irreducible] G Gp Cx Tx Ex Sx Dx Ox Ax Lx Rx Fx Bx Bj Al Do Ld LdN St StN New zL Ar DoU Rd Rd2 Pu Cd Ite Fv uF jk jD yO zAQ zDT zDq zD0 Ext Dead Dr yh Sv LdS vY RdS zEL Nn Idx zB0 zDp Fld Bld Slc zEM Cat All yJ jg jO jm
instance:CB Tryz.prog 173:=⟨by kernel_rfl⟩
instance:CB Tryz.prog 205:=⟨by kernel_rfl⟩
instance:CB Tryz.prog 206:=⟨by kernel_rfl⟩
instance:CT Tryz.prog 63:=⟨by kernel_rfl⟩
instance:PLT Tryz.prog 48 [(0,1),(1,1),(2,10)]:=⟨_,Tryz.underlying48,by kernel_rfl⟩
instance:SLT Tryz.prog 63 40 10:=⟨by kernel_rfl⟩
instance:SZ Tryz.prog 48 12:=⟨by kernel_rfl⟩
instance:ZT Tryz.prog 4 (.bool false):=⟨Tryz.t4,by kernel_rfl,by kernel_rfl⟩
instance:ZT Tryz.prog 48 (.agg #[(.int .i64 0),(.int .i64 0),(.int .i64 0),(.int .u64 0),(.int .u64 0),(.int .i64 0),(.int .i64 0),(Sl.val ⟨none,0,0⟩),(Sl.val ⟨none,0,0⟩),(Sl.val ⟨none,0,0⟩),(.int .i64 0),(Sl.val ⟨none,0,0⟩)]):=⟨Tryz.t48,by kernel_rfl,by kernel_rfl⟩
def jH.s2 (Q:Sl→K) (b:Sl→Int→K) (f:Int) (c g:Sl) (i d:Int): K :=
 Ar (IntKind.wrap .i64 (d + 1)) fun a=>
 b c a
def jH.b1 (Q:Sl→K) (j:Sl→Int→K) (c:Int) (d:Sl) (f:Int) (g:Sl) (a:Int): K :=
 Ite (decide (a < f))
  (Idx d a 3 fun k=>
  LdN k 3 fun l=>
  New 84 #[(.string ⟨#[]⟩),.int .i64 0,.int .u64 0] fun b=>
  StN b 3 l<|
  Ld (b.add 1) (Value.int .i64) fun m=>
  Ite (decide (m = c))
   (LdN b 3 fun n=>
   Bld #[(.string ⟨#[]⟩),.int .i64 0,.int .u64 0] (fun i=>some (i * 3,3)) [(0,.agg n)] fun o=>
   New 84 o fun p=>
   Do Tryz.prog (Builtin.append_ #[38,38] 38 #[Sl.val g,(Sl.val (Sl.mk (some p) 1 1))]) Sl.val fun q=>
   jH.s2 Q j c q d f a)
   (jH.s2 Q j c g d f a))
  (Q g)
def jH (f:Av) (g:Int) (Q:Sl→K): K :=
 New 40 f fun b=>
 Ld (b.add 9) Sl.val fun a=>
 yJ (α:=Sl×Int) (fun X x=>jH.b1 Q (fun c d=>X (c,d)) g a (a.n:Int) x.1 x.2) ((Sl.mk none 0 0),0)
theorem zNv (i j Q w) (h:jH i j Q w):jH.call i j Q w:=by
 have:∀ k,XH 2 k→JH 6 fun D=>∃ c d f g,D [(1,.int .i64 c),(8,Sl.val d),(9,.int .i64 f),(10,.int .i64 g)] (fun C=>∀ l,C [(1,.int .i64 c),(4,Sl.val l),(8,Sl.val d),(9,.int .i64 f),(10,.int .i64 g)] (jH.s2 Q (fun a b=>k (a,b)) c l d f g)):=by intros; exact ⟨fun _ ⟨_,_,_,_,h⟩=>⟨_,_,h⟩⟩
 have:∀ m n o,LH 2 (fun x:Sl×Int=>[(1,.int .i64 m),(4,Sl.val x.1),(8,Sl.val n),(9,.int .i64 o),(10,.int .i64 x.2)]) (fun X x=>jH.b1 Q (fun a b=>X (a,b)) m n o x.1 x.2):=fun _ _ _=>⟨⟩
 exact zM 24 h Tryz.func59
def zDH (o:Sl) (p q:Int) (Q:Av→Bool→K): K :=
 New 3 #[.int .i64 q] fun j=>
 New 48 #[.int .i64 0,.int .i64 0,.int .i64 0,.int .u64 0,.int .u64 0,.int .i64 0,.int .i64 0,Sl.val ⟨none,0,0⟩,Sl.val ⟨none,0,0⟩,Sl.val ⟨none,0,0⟩,.int .i64 0,Sl.val ⟨none,0,0⟩] fun a=>
 New 4 #[.bool false] fun b=>
 zDY.call o p fun k=>
 jO Tryz.prog k .ret (fun (i:Av)=>[.agg i]) (fun BG1 KN1 KJ1 (i:Av)=>
  New 48 #[.int .i64 0,.int .i64 0,.int .i64 0,.int .u64 0,.int .u64 0,.int .i64 0,.int .i64 0,Sl.val ⟨none,0,0⟩,Sl.val ⟨none,0,0⟩,Sl.val ⟨none,0,0⟩,.int .i64 0,Sl.val ⟨none,0,0⟩] fun c=>
  StN c 12 i<|
  BG1<|
  Ld (c.add 1) (Value.int .i64) fun l=>
  Ld j (Value.int .i64) fun m=>
  Ite (decide (m < l))
   (LdN c 12 fun n=>
   StN a 12 n<|
   St b (.bool true)<|
   KJ1)
   (KN1))
  (fun d=>
   StN a 12 #[.int .i64 0,.int .i64 0,.int .i64 0,.int .u64 0,.int .u64 0,.int .i64 0,.int .i64 0,Sl.val ⟨none,0,0⟩,Sl.val ⟨none,0,0⟩,Sl.val ⟨none,0,0⟩,.int .i64 0,Sl.val ⟨none,0,0⟩]<|
   St b (.bool false)<|
   jm d<|
   LdN a 12 fun f=>
   Ld b Value.bool fun g=>
   Q f g)
  (fun d=>
   jm d<|
   LdN a 12 fun f=>
   Ld b Value.bool fun g=>
   Q f g)
theorem zNw (a b c Q w) (h:zDH a b c Q w):zDH.call a b c Q w:=by
 exact zM 19 h Tryz.func121
def zDY (c:Sl) (d:Int) (Q:Value→K): K :=
 New 63 #[Sl.val c] fun a=>
 New 3 #[.int .i64 d] fun b=>
 Q (.func (.func 204) #[] #[(.pointer (some a)),(.pointer (some b))])
theorem zLQ (a b Q w) (h:zDY a b Q w):zDY.call a b Q w:=by
 exact zM 6 h Tryz.func173
def yw.s2 (Q:K) (b:Int→K) (d:Value) (f:Addr) (g:Pt) (i:Sl) (j c:Int): K :=
 Ar (IntKind.wrap .i64 (c + 1)) fun a=>
 b a
def yw.s3 (Q:K) (c:Int→K) (b:Value) (d:Addr) (f:Pt) (n:Int) (o:Addr) (g:Sl) (i j:Int) (p:Bool): K :=
 Ite p
  (yw.s2 Q c b d f g i j)
  (LdN o 10 fun k=>
  zDG.call k fun l=>
  Bld #[.int .i64 0,.int .i64 0,.int .i64 0,.int .u64 0,.int .u64 0,.int .i64 0,.int .i64 0,Sl.val ⟨none,0,0⟩,Sl.val ⟨none,0,0⟩,Sl.val ⟨none,0,0⟩,.int .i64 0,Sl.val ⟨none,0,0⟩] ([(0,1),(1,1),(2,10)][·]?) [(0,.int .i64 2),(1,.int .i64 n),(2,.agg l)] fun m=>
  jk Tryz.prog b [.agg m] <| yO (fun (a:Bool)=>Value.bool a) fun a=>
  Ite (!a)
   (Q)
   (yw.s2 Q c b d f g i j))
def yw.b1 (Q:K) (i:Int→K) (j:Value) (c:Addr) (d:Pt) (f:Sl) (g a:Int): K :=
 Ite (decide (a < g))
  (Idx f a 10 fun k=>
  LdN k 10 fun l=>
  New 40 #[.int .i64 0,.int .u64 0,.int .u64 0,.int .i64 0,.int .i64 0,Sl.val ⟨none,0,0⟩,Sl.val ⟨none,0,0⟩,Sl.val ⟨none,0,0⟩,.int .i64 0,Sl.val ⟨none,0,0⟩] fun b=>
  StN b 10 l<|
  Dr <| yh fun S=>
  vY S b 10 fun m=>
  xD.call d m fun n=>
  Sv S<|
  Ite (!n)
   (yw.s3 Q i j c d a b f g a true)
   (vY S b 10 fun o=>
   LdS S c (Value.int .i64) fun p=>
   xB.call o fun q=>
   Sv S<|
   xZ.call q p fun r=>
   yw.s3 Q i j c d a b f g a (!r)))
  (Q)
def yw (c:Value) (d f:Addr) (Q:K): K :=
 zCr.call  fun b=>
 Ld d Sl.val fun a=>
 yJ (α:=Int) (fun X x=>yw.b1 Q X c f b a (a.n:Int) x) 0
theorem zJu (u v y Q w) (h:yw u v y Q w):yw.call u v y Q w:=by
 have:∀ b,XH 2 b→JH 6 fun D=>∃ c d f g j k,D [(0,c),(2,(.pointer (some d))),(4,.pointer f),(8,Sl.val g),(9,.int .i64 j),(10,.int .i64 k)] (fun C=>C [(0,c),(2,(.pointer (some d))),(4,.pointer f),(8,Sl.val g),(9,.int .i64 j),(10,.int .i64 k)] (yw.s2 Q b c d f g j k)):=by intros; exact ⟨fun _ ⟨_,_,_,_,_,_,h⟩=>⟨_,_,h⟩⟩
 have:∀ b,XH 2 b→JH 1000004 fun D=>∃ l m n o p q r t,D [(0,l),(2,(.pointer (some m))),(4,.pointer n),(5,.int .i64 o),(6,(.pointer (some p))),(8,Sl.val q),(9,.int .i64 r),(10,.int .i64 t)] (fun C=>∀ z,C [(0,l),(2,(.pointer (some m))),(4,.pointer n),(5,.int .i64 o),(6,(.pointer (some p))),(8,Sl.val q),(9,.int .i64 r),(10,.int .i64 t),(25,.bool z)] (yw.s3 Q b l m n o p q r t z)):=by intros; exact ⟨fun _ ⟨_,_,_,_,_,_,_,_,h⟩=>⟨_,_,h⟩⟩
 have:DH 4 2 [8] (.s [0,1] (.a [(2,1,.s [3,4] (.i (.s [5,6,7,8,9,10] .e) (.s [5,7] (.a [(6,1,.a [(8,0,.s [9,10] .e)])]))))])):=⟨⟩
 have:∀ aa ab ac ad ae,LH 2 (fun x:Int=>[(0,aa),(2,(.pointer (some ab))),(4,.pointer ac),(8,Sl.val ad),(9,.int .i64 ae),(10,.int .i64 x)]) (fun X x=>yw.b1 Q X aa ab ac ad ae x):=fun _ _ _ _ _=>⟨⟩
 exact zM 34 h Tryz.func204
instance:ART Tryz.prog 73 72 3 1:=⟨by kernel_rfl⟩
instance:ART Tryz.prog 74 3 3 1:=⟨by kernel_rfl⟩
instance:AT Tryz.prog 171 7:=⟨by kernel_rfl⟩
instance:AT Tryz.prog 76 7:=⟨by kernel_rfl⟩
instance:CB Tryz.prog 11:=⟨by kernel_rfl⟩
instance:CB Tryz.prog 12:=⟨by kernel_rfl⟩
instance:CB Tryz.prog 121:=⟨by kernel_rfl⟩
instance:CB Tryz.prog 15:=⟨by kernel_rfl⟩
instance:CB Tryz.prog 16:=⟨by kernel_rfl⟩
instance:CB Tryz.prog 28:=⟨by kernel_rfl⟩
instance:CB Tryz.prog 69:=⟨by kernel_rfl⟩
instance:CB Tryz.prog 9:=⟨by kernel_rfl⟩
instance:CT Tryz.prog 72:=⟨by kernel_rfl⟩
instance:FT Tryz.prog 171 0 0 1:=⟨by kernel_rfl⟩
instance:FT Tryz.prog 171 1 1 1:=⟨by kernel_rfl⟩
instance:FT Tryz.prog 171 2 2 5:=⟨by kernel_rfl⟩
instance:FT Tryz.prog 53 1 4 2:=⟨by kernel_rfl⟩
instance:FT Tryz.prog 76 0 0 3:=⟨by kernel_rfl⟩
instance:FT Tryz.prog 76 1 3 1:=⟨by kernel_rfl⟩
instance:FT Tryz.prog 76 2 4 3:=⟨by kernel_rfl⟩
instance:PLT Tryz.prog 35 [(0,1),(1,1),(2,1)]:=⟨_,Tryz.underlying35,by kernel_rfl⟩
instance:PLT Tryz.prog 37 [(0,3),(3,1)]:=⟨_,Tryz.underlying37,by kernel_rfl⟩
instance:PLT Tryz.prog 76 [(0,3),(3,1),(4,3)]:=⟨_,Tryz.underlying76,by kernel_rfl⟩
instance:SLT Tryz.prog 70 171 7:=⟨by kernel_rfl⟩
instance:SLT Tryz.prog 72 48 12:=⟨by kernel_rfl⟩
instance:SZ Tryz.prog 171 7:=⟨by kernel_rfl⟩
instance:SZ Tryz.prog 63 1:=⟨by kernel_rfl⟩
instance:SZ Tryz.prog 72 1:=⟨by kernel_rfl⟩
instance:SZ Tryz.prog 76 7:=⟨by kernel_rfl⟩
instance:UN Tryz.prog 29 (.pointer 135):=⟨Tryz.underlying29⟩
instance:ZT Tryz.prog 171 (.agg #[(.int .i64 0),(.int .i64 0),(.int .i64 0),(Sl.val ⟨none,0,0⟩),(Sl.val ⟨none,0,0⟩),(Sl.val ⟨none,0,0⟩),(.int .i64 0)]):=⟨Tryz.t171,by kernel_rfl,by kernel_rfl⟩
instance:ZT Tryz.prog 76 (.agg #[(Sl.val ⟨none,0,0⟩),(Sl.val ⟨none,0,0⟩),(Sl.val ⟨none,0,0⟩),(Sl.val ⟨none,0,0⟩),(.int .i64 0),(.int .i64 0),(.int .i64 0)]):=⟨Tryz.t76,by kernel_rfl,by kernel_rfl⟩
def xG.s2 (Q:Bool→K) (a:Bool): K :=
 Q a
def xG.s1 (Q:Bool→K) (a:Pt) (t:Bool): K :=
 Ite t
  (Q false)
  (Bld #[.int .i64 0,.int .u64 0,.int .u64 0,.int .i64 0] ([(0,3),(3,1)][·]?) [(0,(.agg #[.int .i64 0,.int .u64 1,.int .u64 1]))] fun f=>
  New 9 #[(.string ⟨#[97]⟩),(.string ⟨#[98]⟩)] fun g=>
  jq.call a f #[.int .i64 1,Sl.val ⟨none,0,0⟩,(Sl.val (Sl.mk (some g) 2 2)),Sl.val ⟨none,0,0⟩,.int .i64 0] fun i=>
  New 40 #[.int .i64 0,.int .u64 0,.int .u64 0,.int .i64 0,.int .i64 0,Sl.val ⟨none,0,0⟩,Sl.val ⟨none,0,0⟩,Sl.val ⟨none,0,0⟩,.int .i64 0,Sl.val ⟨none,0,0⟩] fun c=>
  StN c 10 i<|
  LdN c 10 fun j=>
  Bld #[.int .i64 0,.int .i64 0,.int .i64 0,.int .u64 0,.int .u64 0,.int .i64 0,.int .i64 0,Sl.val ⟨none,0,0⟩,Sl.val ⟨none,0,0⟩,Sl.val ⟨none,0,0⟩,.int .i64 0,Sl.val ⟨none,0,0⟩] ([(0,1),(1,1),(2,10)][·]?) [(0,.int .i64 2),(2,.agg j)] fun k=>
  New 48 #[.int .i64 0,.int .i64 0,.int .i64 0,.int .u64 0,.int .u64 0,.int .i64 0,.int .i64 0,Sl.val ⟨none,0,0⟩,Sl.val ⟨none,0,0⟩,Sl.val ⟨none,0,0⟩,.int .i64 0,Sl.val ⟨none,0,0⟩] fun b=>
  StN b 12 k<|
  LdN b 12 fun l=>
  zU.call a 0 l fun m=>
  xC.call a fun o=>
  LdN b 12 fun p=>
  zU.call a 1 p fun d=>
  Ite (decide ((m.n:Int) = 0))
   (Ite (decide ((o.n:Int) = 1))
    (Ite (decide ((d.n:Int) = 1))
     (Idx d 0 6 fun q=>
     Ld (q.add 4) (Value.int .i64) fun r=>
     Ite (decide (r = 0))
      (xC.call a fun s=>
      xG.s2 Q (decide ((s.n:Int) = 0)))
      (xG.s2 Q false))
     (xG.s2 Q false))
    (xG.s2 Q false))
   (xG.s2 Q false))
def xG  (Q:Bool→K): K :=
 uh.call 2 fun a b=>
 Ite ((a).isNone)
  (xG.s1 Q a true)
  (xG.s1 Q a (decide (b ≠ 0)))
theorem zLR (Q w) (h:xG  Q w):xG.call  Q w:=by
 have:JH 1000009 fun D=>D [] (fun C=>∀ b,C [(0,.bool b)] (xG.s2 Q b)):=⟨fun _ h=>⟨_,_,h⟩⟩
 have:JH 3 fun D=>∃ a,D [(1,.pointer a)] (fun C=>∀ c,C [(1,.pointer a),(17,.bool c)] (xG.s1 Q a c)):=⟨fun _ ⟨_,h⟩=>⟨_,_,h⟩⟩
 exact zM 61 h Tryz.func8
def uE.b1 (Q:Bool→K) (j:Int→K) (k:Sl) (l a:Int): K :=
 Ite (decide (a < l))
  (Idx k a 7 fun c=>
  LdN c 7 fun d=>
  New 171 #[.int .i64 0,.int .i64 0,.int .i64 0,Sl.val ⟨none,0,0⟩,Sl.val ⟨none,0,0⟩,Sl.val ⟨none,0,0⟩,.int .i64 0] fun b=>
  StN b 7 d<|
  LdN (b.add 2) 5 fun f=>
  yj.call f fun g=>
  Ite g
   (Q true)
   (Ar (IntKind.wrap .i64 (a + 1)) fun i=>
   j i))
  (Q false)
def uE (a:Sl) (Q:Bool→K): K :=
 Ite (decide ((50:Int) < (a.n:Int)))
  (Q true)
  (yJ (α:=Int) (fun X x=>uE.b1 Q X a (a.n:Int) x) 0)
theorem zIT (a Q w) (h:uE a Q w):uE.call a Q w:=by
 have:∀ b c,LH 4 (fun x:Int=>[(8,Sl.val b),(9,.int .i64 c),(10,.int .i64 x)]) (fun X x=>uE.b1 Q X b c x):=fun _ _=>⟨⟩
 exact zM 18 h Tryz.func25
def qM.s2 (Q:Av→Bool→K) (b:Int→K) (d:Int) (f g:Addr) (i:Pt) (j:Sl) (k c:Int): K :=
 Ar (IntKind.wrap .i64 (c + 1)) fun a=>
 b a
def qM.b4 (Q:Av→Bool→K) (i d:Int→K) (f:K) (j:Int) (k g:Addr) (a:Int): K :=
 yR.call (some g) a fun b=>
 Ite b
  (f)
  (Ar (IntKind.wrap .i64 (a + 1)) fun c=>
  d c)
def qM.b3 (Q:Av→Bool→K) (i j:Int→K) (b:Int) (a c:Addr) (d:Int): K :=
 Ite (decide (d < b))
  (yJ (α:=Unit) (fun X x=>qM.b4 Q i j (X ()) b a c d) ())
  (LdN c 7 fun f=>
  StN a 7 f<|
  LdN a 7 fun g=>
  Q g true)
def qM.b1 (Q:Av→Bool→K) (f:Int→K) (b:Int) (g a:Addr) (c:Pt) (j:Sl) (k d:Int): K :=
 Ite (decide (d < k))
  (Idx j d 7 fun r=>
  LdN r 7 fun s=>
  New 171 #[.int .i64 0,.int .i64 0,.int .i64 0,Sl.val ⟨none,0,0⟩,Sl.val ⟨none,0,0⟩,Sl.val ⟨none,0,0⟩,.int .i64 0] fun m=>
  StN m 7 s<|
  Ld (m.add 1) (Value.int .i64) fun t=>
  Ar (bitsOf .and .i64 t 1023) fun u=>
  Cd (b ≠ 0)<|
  Ar (Int.tmod u b) fun l=>
  Ld m (Value.int .i64) fun v=>
  Ar (bitsOf .and .i64 v 3) fun p=>
  Ite (decide (p = 0))
   (LdN (m.add 2) 5 fun y=>
   zo.call y b fun z=>
   Ite (!z)
    (qM.s2 Q f b g a c j k d)
    (Ar (IntKind.wrap .i64 (d + 1)) fun aa=>
    Ar (IntKind.wrap .u64 aa) fun ab=>
    Bld #[.int .i64 0,.int .u64 0,.int .u64 0,.int .i64 0] ([(0,3),(3,1)][·]?) [(0,(.agg #[.int .i64 0,.int .u64 1,.int .u64 ab]))] fun ac=>
    LdN (m.add 2) 5 fun ad=>
    jq.call c ac ad fun ae=>
    New 40 #[.int .i64 0,.int .u64 0,.int .u64 0,.int .i64 0,.int .i64 0,Sl.val ⟨none,0,0⟩,Sl.val ⟨none,0,0⟩,Sl.val ⟨none,0,0⟩,.int .i64 0,Sl.val ⟨none,0,0⟩] fun o=>
    StN o 10 ae<|
    LdN o 10 fun af=>
    uQ.call af fun ag=>
    Ite ag
     (LdN o 10 fun ah=>
     xB.call ah fun aj=>
     Idx aj 0 1 fun ak=>
     Ld ak (Value.int .i64) fun q=>
     Dr <| yh fun S=>
     zB0 a 3 q 1 fun al=>
     LdS S al Sl.val fun am=>
     vY S o 10 fun an=>
     Bld #[.int .i64 0,.int .i64 0,.int .i64 0,.int .u64 0,.int .u64 0,.int .i64 0,.int .i64 0,Sl.val ⟨none,0,0⟩,Sl.val ⟨none,0,0⟩,Sl.val ⟨none,0,0⟩,.int .i64 0,Sl.val ⟨none,0,0⟩] ([(0,1),(1,1),(2,10)][·]?) [(0,.int .i64 1),(2,.agg an)] fun ao=>
     Bld #[.int .i64 0,.int .i64 0,.int .i64 0,.int .u64 0,.int .u64 0,.int .i64 0,.int .i64 0,Sl.val ⟨none,0,0⟩,Sl.val ⟨none,0,0⟩,Sl.val ⟨none,0,0⟩,.int .i64 0,Sl.val ⟨none,0,0⟩] (fun i=>some (i * 12,12)) [(0,.agg ao)] fun ap=>
     New 48 ap fun aq=>
     Sv S<|
     Do Tryz.prog (Builtin.append_ #[72,72] 72 #[Sl.val am,(Sl.val (Sl.mk (some aq) 1 1))]) Sl.val fun ar=>
     zB0 a 3 q 1 fun au=>
     St au (Sl.val ar)<|
     qM.s2 Q f b g a c j k d)
     (Ld (a.add 3) Sl.val fun av=>
     LdN o 10 fun aw=>
     Bld #[.int .i64 0,.int .u64 0,.int .u64 0,.int .i64 0,.int .i64 0,Sl.val ⟨none,0,0⟩,Sl.val ⟨none,0,0⟩,Sl.val ⟨none,0,0⟩,.int .i64 0,Sl.val ⟨none,0,0⟩] (fun i=>some (i * 10,10)) [(0,.agg aw)] fun ax=>
     New 40 ax fun ay=>
     Do Tryz.prog (Builtin.append_ #[63,63] 63 #[Sl.val av,(Sl.val (Sl.mk (some ay) 1 1))]) Sl.val fun az=>
     St (a.add 3) (Sl.val az)<|
     qM.s2 Q f b g a c j k d)))
   (Ite (decide (p = 1))
    (yR.call (some a) l fun a8=>
    qM.s2 Q f b g a c j k d)
    (Dr <| yh fun S=>
    zB0 a 3 l 1 fun a0=>
    LdS S a0 Sl.val fun a1=>
    jB.call c l fun a2=>
    Sv S<|
    Ite (decide (a2 < (a1.n:Int)))
     (Dr <| yh fun S=>
     zB0 a 3 l 1 fun a3=>
     LdS S a3 Sl.val fun a4=>
     jB.call c l fun a5=>
     Sv S<|
     Idx a4 a5 12 fun a6=>
     LdN a6 12 fun a7=>
     zU.call c l a7 fun a9=>
     qM.s2 Q f b g a c j k d)
     (qM.s2 Q f b g a c j k d))))
  (yJ (α:=Int) (fun X x=>qM.b3 Q f X b g a x) 0)
def qM (d:Int) (f:Sl) (Q:Av→Bool→K): K :=
 New 76 #[Sl.val ⟨none,0,0⟩,Sl.val ⟨none,0,0⟩,Sl.val ⟨none,0,0⟩,Sl.val ⟨none,0,0⟩,.int .i64 0,.int .i64 0,.int .i64 0] fun a=>
 Pu Tryz.prog (Instr.build 74 [(0,(.int .i64 (-1))),(1,(.int .i64 (-1))),(2,(.int .i64 (-1)))].toArray) Value.agg fun g=>
 Bld #[Sl.val ⟨none,0,0⟩,Sl.val ⟨none,0,0⟩,Sl.val ⟨none,0,0⟩,Sl.val ⟨none,0,0⟩,.int .i64 0,.int .i64 0,.int .i64 0] ([(0,3),(3,1),(4,3)][·]?) [(2,.agg g)] fun i=>
 New 76 #[Sl.val ⟨none,0,0⟩,Sl.val ⟨none,0,0⟩,Sl.val ⟨none,0,0⟩,Sl.val ⟨none,0,0⟩,.int .i64 0,.int .i64 0,.int .i64 0] fun b=>
 StN b 7 i<|
 uh.call d fun c l=>
 Ite ((c).isNone)
  (LdN b 7 fun j=>
  StN a 7 j<|
  LdN a 7 fun k=>
  Q k false)
  (yJ (α:=Int) (fun X x=>qM.b1 Q X d a b c f (f.n:Int) x) 0)
theorem zNx (l m Q w) (h:qM l m Q w):qM.call l m Q w:=by
 have:∀ b,XH 6 b→JH 21 fun D=>∃ c d f g i j k,D [(0,.int .i64 c),(4,(.pointer (some d))),(6,(.pointer (some f))),(7,.pointer g),(25,Sl.val i),(26,.int .i64 j),(27,.int .i64 k)] (fun C=>C [(0,.int .i64 c),(4,(.pointer (some d))),(6,(.pointer (some f))),(7,.pointer g),(25,Sl.val i),(26,.int .i64 j),(27,.int .i64 k)] (qM.s2 Q b c d f g i j k)):=by intros; exact ⟨fun _ ⟨_,_,_,_,_,_,_,h⟩=>⟨_,_,h⟩⟩
 have:DH 17 2 [8,11] (.s [0,1,2,3,9,4,5,6] (.a [(7,1,.a [(8,0,.s [10] (.a [(11,0,.e)]))])])):=⟨⟩
 have:DH 11 2 [11] (.s [0,1,2,3,4,6,7,5] (.a [(8,1,.s [9] (.a [(10,2,.a [(11,0,.e)])]))])):=⟨⟩
 have:DH 10 2 [] (.s [0,1,3,4,5,6,7] (.a [(2,1,.s [8] .e)])):=⟨⟩
 have:∀ b,XH 6 b→∀ n,XH 23 n→∀ o p q r,LH 25 (fun x:Unit=>[(0,.int .i64 o),(4,(.pointer (some p))),(6,(.pointer (some q))),(14,.int .i64 r)]) (fun X x=>qM.b4 Q b n (X ()) o p q r):=by intros; exact ⟨⟩
 have:∀ b,XH 6 b→∀ t u v,LH 23 (fun x:Int=>[(0,.int .i64 t),(4,(.pointer (some u))),(6,(.pointer (some v))),(14,.int .i64 x)]) (fun X x=>qM.b3 Q b X t u v x):=by intros; exact ⟨⟩
 have:∀ y z aa ab ac ad,LH 6 (fun x:Int=>[(0,.int .i64 y),(4,(.pointer (some z))),(6,(.pointer (some aa))),(7,.pointer ab),(25,Sl.val ac),(26,.int .i64 ad),(27,.int .i64 x)]) (fun X x=>qM.b1 Q X y z aa ab ac ad x):=fun _ _ _ _ _ _=>⟨⟩
 exact zM 113 h Tryz.func26
def yR.s2 (Q:Bool→K) (a:Bool): K :=
 Q a
def yR.s1 (Q:Bool→K) (q:Pt) (b:Int) (d:Addr) (c:Bool): K :=
 Ite c
  (Dr<|
  Nn q fun a=>
  Ld (d.add 1) (Value.int .i64) fun f=>
  zB0 (a.add 4) 3 b 1 fun g=>
  St g (.int .i64 f)<|
  Dr <| yh fun S=>
  zB0 a 3 b 1 fun j=>
  LdS S j Sl.val fun k=>
  vY S d 12 fun l=>
  Bld #[.int .i64 0,.int .i64 0,.int .i64 0,.int .u64 0,.int .u64 0,.int .i64 0,.int .i64 0,Sl.val ⟨none,0,0⟩,Sl.val ⟨none,0,0⟩,Sl.val ⟨none,0,0⟩,.int .i64 0,Sl.val ⟨none,0,0⟩] (fun i=>some (i * 12,12)) [(0,.agg l)] fun m=>
  New 48 m fun n=>
  Sv S<|
  Do Tryz.prog (Builtin.append_ #[72,72] 72 #[Sl.val k,(Sl.val (Sl.mk (some n) 1 1))]) Sl.val fun o=>
  zB0 a 3 b 1 fun p=>
  St p (Sl.val o)<|
  yR.s2 Q c)
  (yR.s2 Q c)
def yR (k:Pt) (b:Int) (Q:Bool→K): K :=
 Dr <| yh fun S=>
 Nn k fun c=>
 zB0 (c.add 4) 3 b 1 fun j=>
 LdS S (c.add 3) Sl.val fun g=>
 LdS S j (Value.int .i64) fun i=>
 All [
  (zDH.call g b i fun d f=>
  New 48 #[.int .i64 0,.int .i64 0,.int .i64 0,.int .u64 0,.int .u64 0,.int .i64 0,.int .i64 0,Sl.val ⟨none,0,0⟩,Sl.val ⟨none,0,0⟩,Sl.val ⟨none,0,0⟩,.int .i64 0,Sl.val ⟨none,0,0⟩] fun a=>
  StN a 12 d<|
  yR.s1 Q (some c) b a f),
  (New 48 #[.int .i64 0,.int .i64 0,.int .i64 0,.int .u64 0,.int .u64 0,.int .i64 0,.int .i64 0,Sl.val ⟨none,0,0⟩,Sl.val ⟨none,0,0⟩,Sl.val ⟨none,0,0⟩,.int .i64 0,Sl.val ⟨none,0,0⟩] fun a=>
  Sv S<|
  zDH.call g b i fun d f=>
  StN a 12 d<|
  yR.s1 Q (some c) b a f)
  ]
theorem zHT (d f Q w) (h:yR d f Q w):yR.call d f Q w:=by
 have:JH 5 fun D=>D [] (fun C=>∀ g,C [(6,.bool g)] (yR.s2 Q g)):=⟨fun _ h=>⟨_,_,h⟩⟩
 have:DH 4 2 [10,14] (.s [0,1,2,3,4,5,6,11,12,7,8] (.a [(9,1,.a [(10,0,.s [13] (.a [(14,0,.e)]))])])):=⟨⟩
 have:DH 3 1 [7] (.s [0,1,2,4,5,3,6] (.a [(7,0,.e)])):=⟨⟩
 have:JH 2 fun D=>∃ b c,D [(0,.pointer b),(1,.int .i64 c)] (fun C=>∀ i j,C [(0,.pointer b),(1,.int .i64 c),(5,(.pointer (some i))),(6,.bool j)] (yR.s1 Q b c i j)):=⟨fun _ ⟨_,_,h⟩=>⟨_,_,h⟩⟩
 have:DH 1 2 [11,16] (.s [0,1,2,4,5,6,7,8,9,3,10] (.a [(11,0,.s [12,13,14] (.a [(15,0,.a [(16,0,.s [17] .e)])])),(15,1,.a [(11,0,.s [12,13,14] (.a [(16,0,.s [17] .e)]))])])):=⟨⟩
 exact zM 45 h Tryz.func69
instance:ART Tryz.prog 110 54 3 1:=⟨by kernel_rfl⟩
instance:ART Tryz.prog 251 4 3 1:=⟨by kernel_rfl⟩
instance:AT Tryz.prog 253 14:=⟨by kernel_rfl⟩
instance:AT Tryz.prog 53 6:=⟨by kernel_rfl⟩
instance:CB Tryz.prog 127:=⟨by kernel_rfl⟩
instance:CB Tryz.prog 128:=⟨by kernel_rfl⟩
instance:CB Tryz.prog 129:=⟨by kernel_rfl⟩
instance:CB Tryz.prog 130:=⟨by kernel_rfl⟩
instance:CB Tryz.prog 131:=⟨by kernel_rfl⟩
instance:CB Tryz.prog 132:=⟨by kernel_rfl⟩
instance:CB Tryz.prog 174:=⟨by kernel_rfl⟩
instance:CB Tryz.prog 175:=⟨by kernel_rfl⟩
instance:CB Tryz.prog 176:=⟨by kernel_rfl⟩
instance:CB Tryz.prog 177:=⟨by kernel_rfl⟩
instance:CB Tryz.prog 178:=⟨by kernel_rfl⟩
instance:CB Tryz.prog 179:=⟨by kernel_rfl⟩
instance:CB Tryz.prog 180:=⟨by kernel_rfl⟩
instance:CB Tryz.prog 27:=⟨by kernel_rfl⟩
instance:CB Tryz.prog 30:=⟨by kernel_rfl⟩
instance:CB Tryz.prog 31:=⟨by kernel_rfl⟩
instance:CB Tryz.prog 32:=⟨by kernel_rfl⟩
instance:CT Tryz.prog 109:=⟨by kernel_rfl⟩
instance:CT Tryz.prog 111:=⟨by kernel_rfl⟩
instance:CT Tryz.prog 54:=⟨by kernel_rfl⟩
instance:CT Tryz.prog 80:=⟨by kernel_rfl⟩
instance:FT Tryz.prog 113 0 0 1:=⟨by kernel_rfl⟩
instance:FT Tryz.prog 113 1 1 1:=⟨by kernel_rfl⟩
instance:FT Tryz.prog 113 2 2 1:=⟨by kernel_rfl⟩
instance:FT Tryz.prog 113 3 3 3:=⟨by kernel_rfl⟩
instance:FT Tryz.prog 113 4 6 3:=⟨by kernel_rfl⟩
instance:FT Tryz.prog 113 5 9 3:=⟨by kernel_rfl⟩
instance:FT Tryz.prog 113 6 12 3:=⟨by kernel_rfl⟩
instance:FT Tryz.prog 113 7 15 1:=⟨by kernel_rfl⟩
instance:FT Tryz.prog 113 8 16 1:=⟨by kernel_rfl⟩
instance:FT Tryz.prog 184 2 2 1:=⟨by kernel_rfl⟩
instance:FT Tryz.prog 253 0 0 10:=⟨by kernel_rfl⟩
instance:FT Tryz.prog 253 1 10 3:=⟨by kernel_rfl⟩
instance:FT Tryz.prog 53 0 0 4:=⟨by kernel_rfl⟩
instance:PLT Tryz.prog 113 [(0,1),(1,1),(2,1),(3,3),(6,3),(9,3),(12,3),(15,1),(16,1)]:=⟨_,Tryz.underlying113,by kernel_rfl⟩
instance:PLT Tryz.prog 184 [(0,1),(1,1),(2,1)]:=⟨_,Tryz.underlying184,by kernel_rfl⟩
instance:PLT Tryz.prog 253 [(0,10),(10,3),(13,1)]:=⟨_,Tryz.underlying253,by kernel_rfl⟩
instance:SLT Tryz.prog 111 253 14:=⟨by kernel_rfl⟩
instance:SZ Tryz.prog 111 1:=⟨by kernel_rfl⟩
instance:SZ Tryz.prog 53 6:=⟨by kernel_rfl⟩
instance:ZT Tryz.prog 113 (.agg #[(.bool false),(.pointer none),(.pointer none),(Sl.val ⟨none,0,0⟩),(Sl.val ⟨none,0,0⟩),(Sl.val ⟨none,0,0⟩),(.int .i64 0),(.int .i64 0),(.int .i64 0),(.int .i64 0),(.int .i64 0),(.int .i64 0),(Sl.val ⟨none,0,0⟩),(Sl.val ⟨none,0,0⟩),(Sl.val ⟨none,0,0⟩),(Sl.val ⟨none,0,0⟩),(.int .i64 0)]):=⟨Tryz.t113,by kernel_rfl,by kernel_rfl⟩
instance:ZT Tryz.prog 184 (.agg #[(Sl.val ⟨none,0,0⟩),(Sl.val ⟨none,0,0⟩),(Sl.val ⟨none,0,0⟩)]):=⟨Tryz.t184,by kernel_rfl,by kernel_rfl⟩
instance:ZT Tryz.prog 253 (.agg #[(.int .i64 0),(.int .u64 0),(.int .u64 0),(.int .i64 0),(.int .i64 0),(Sl.val ⟨none,0,0⟩),(Sl.val ⟨none,0,0⟩),(Sl.val ⟨none,0,0⟩),(.int .i64 0),(Sl.val ⟨none,0,0⟩),(.bool false),(.bool false),(.bool false),(.bool false)]):=⟨Tryz.t253,by kernel_rfl,by kernel_rfl⟩
instance:AT Tryz.prog 307 7:=⟨by kernel_rfl⟩
instance:CB Tryz.prog 181:=⟨by kernel_rfl⟩
instance:CB Tryz.prog 182:=⟨by kernel_rfl⟩
instance:CB Tryz.prog 183:=⟨by kernel_rfl⟩
instance:CB Tryz.prog 210:=⟨by kernel_rfl⟩
instance:CB Tryz.prog 212:=⟨by kernel_rfl⟩
instance:CB Tryz.prog 233:=⟨by kernel_rfl⟩
instance:CB Tryz.prog 234:=⟨by kernel_rfl⟩
instance:CT Tryz.prog 182:=⟨by kernel_rfl⟩
instance:FT Tryz.prog 184 0 0 1:=⟨by kernel_rfl⟩
instance:FT Tryz.prog 184 1 1 1:=⟨by kernel_rfl⟩
instance:FT Tryz.prog 307 0 0 4:=⟨by kernel_rfl⟩
instance:FT Tryz.prog 307 1 4 3:=⟨by kernel_rfl⟩
instance:PLT Tryz.prog 307 [(0,4),(4,3)]:=⟨_,Tryz.underlying307,by kernel_rfl⟩
instance:SLT Tryz.prog 182 307 7:=⟨by kernel_rfl⟩
instance:SZ Tryz.prog 182 1:=⟨by kernel_rfl⟩
instance:SZ Tryz.prog 307 7:=⟨by kernel_rfl⟩
instance:SZ Tryz.prog 54 1:=⟨by kernel_rfl⟩
instance:ZT Tryz.prog 307 (.agg #[(.int .i64 0),(.int .u64 0),(.int .u64 0),(.int .i64 0),(.string ⟨#[]⟩),(.int .i64 0),(.int .u64 0)]):=⟨Tryz.t307,by kernel_rfl,by kernel_rfl⟩
end
section
open Go Go.Sep Go.Sep.Bt
def wrU (n:Nat) (M:zy) (t:TxX):WM:=if (vT n M t).2.2 = 0 then zBu (vT n M t).1 else []
def zFJ (n:Nat) (g:y7) (t:TxX) (M:zy) (G:GM×DM):zy:=if G.2 g = true then M else jZ n M (wrU n M t)
def zHU (n:Nat) (g:y7) (t:TxX) (M:zy) (G:GM×DM):GM×DM :=
 if G.2 g = true then vW g G else
 if t.kind = 2∧(vT n M t).2.2 = 0 then vW g (zCR n (jZ n M (wrU n M t)) (t.writes.headD []) (vW g G)) else vW g G
def zFO (n:Nat) (g:y7) (t:TxX) (M:zy) (G:GM×DM):Int:=if G.2 g = true then 112 else (vT n M t).2.2
def zLS (n:Nat) (g:y7) (t:TxX) (M:zy) (G:GM×DM):OM:=if G.2 g = true then [] else if (vT n M t).2.2 = 0 then (vT n M t).2.1 else []
structure SzG (T:Nat) (G:GM×DM):Prop where
 gl:G.1.length ≤ T
 gs:∀ p ∈ G.1,p.2.1.length + p.2.2.length ≤ T
theorem SzG.gsz {T:Nat} {G:GM×DM} (h:SzG T G):gsz G.1 T:=⟨h.gl,fun p hp=>by have:=h.gs p hp; omega⟩
theorem SzG.up {T T':Nat} {G:GM×DM} (h:SzG T G) (ht:T ≤ T'):SzG T' G:=⟨Nat.le_trans h.gl ht,zUw h.gs ht⟩
theorem SzG.leave {T:Nat} {G:GM×DM} (g:y7) (h:SzG T G):SzG T (vW g G):=by
 obtain ⟨a,b⟩:=zXy (tag:=g) (x:=G) h.gl h.gs
 exact ⟨a,b⟩
theorem SzG.moved {T n:Nat} {S:zy} {key:TX} {G:GM×DM} (h:SzG T G):SzG (T + 1) (zCR n S key G):=by
 obtain ⟨a,b⟩:=zXx (n:=n) (S:=S) (key:=key) (x:=G) h.gl h.gs
 exact ⟨a,zUw b (by omega)⟩
theorem SzG.enters {T n:Nat} {S:zy} {tag:y7} {L:List zET} {G:GM×DM} (h:SzG T G):SzG (T + L.length) (zAh n S tag L G):=by
 obtain ⟨a,b⟩:=zOk (n:=n) (S:=S) (tag:=tag) L (x:=G) h.gl h.gs
 exact ⟨a,b⟩
theorem zbX {n T:Nat} {g:y7} {t:TxX} {M:zy} {G:GM×DM} (h:SzG T G):SzG (T + 1) (zHU n g t M G):=by
 unfold zHU
 split
 ·exact (h.leave g).up (by omega)
 split
 ·exact ((h.leave g).moved).leave g
 ·exact (h.leave g).up (by omega)
theorem zJv {n:Nat} {M:zy} {t:TxX} {rg:Int} (hrt:xR rg t = true):(vT n M t).1.length ≤ 16∧((vT n M t).2.2 = 0→(vT n M t).2.1.length ≤ 16∧∀ x ∈ (vT n M t).1,x.1.length ≤ 16):=by
 obtain ⟨k1,k2,k3,k4⟩:=zEF hrt
 obtain ⟨_,g2⟩:=zL0 (n:=n) (M:=M) hrt
 refine ⟨?_,fun hc=>⟨?_,fun x hx=>?_⟩⟩
 ·unfold vT
  split
  ·have h5:=zKZ (n:=n) (M:=M) (to:=t.to) (ks:=t.writes) (W:=[])
   simp only [List.length_nil] at h5
   simp only; omega
  ·have h5:=zM3 (n:=n) (M:=M) (xs:=t.ops) (W:=[]) (O:=[])
   simp only [List.length_nil] at h5
   omega
 ·rw [(g2 hc).2]
  have:=List.length_filter_le zRs t.ops
  omega
 ·exact k1 _ (List.mem_append_right _ ((g2 hc).1 _ hx).1)
theorem zU1 {n:Nat} {M:zy} {t:TxX} {rg:Int} (hrt:xR rg t = true):(wrU n M t).length ≤ 16∧∀ x ∈ wrU n M t,x.1.length ≤ 16:=by
 obtain ⟨h1,h2⟩:=zJv (n:=n) (M:=M) hrt
 unfold wrU
 split
 ·rename_i hc
  refine ⟨by rw [(zAU _).length_eq]; exact h1,fun x hx=>(h2 hc).2 x ((zAU _).mem_iff.1 hx)⟩
 ·simp
abbrev sdL (st l:Nat) (a b c:Sl):List Value:=[.pointer (some ⟨st,0,none⟩),.pointer (some ⟨l,0,none⟩),a.val,b.val,c.val]
section
variable {B:World} {Γ Δ:List zC} {k:K} {sd st l n:Nat} {M:zy} {G:GM×DM} {a b c:Sl}
theorem zbY {α:Type} {a:Addr} {cs:List Value} {c:α→Value} {x:α} {k:α→K} (hn:∀ w,Holds B Γ w→RdN w (a.add 4) cs.toArray) (hv:cs[2]? = some (c x)) (h:HG B Γ (k x)):HG B Γ (Ld ((a.add 4).add 2) c k):=fun w hw=>⟨x,by
 have:=hn w hw 2 (by have:=(List.getElem?_eq_some_iff.1 hv).1; simpa using this)
 rw [this]; simpa using hv,h w hw⟩
theorem zOm {dm:DM} {M:GM} {tag:y7} {N:Nat} {Q:K} (hN:gsz M N) (hNl:N ≤ 1000000) (h:HG B (vX l (vW tag (M,dm)).1 (vW tag (M,dm)).2::Γ) Q) :
  HG B (vX l M dm::Γ) (y5.zUI (some ⟨l,0,none⟩) (qO tag).toArray Q):=fun w hw=>zGk _ _ _ _ (zOj hN hNl h w hw)
theorem zTH {rg:Int} {g:y7} {t:TxX} {ms:Sl} {T:Nat} {q:Array Value→K} (hrt:xR rg t = true) (hnn:∀ x ∈ t.ops,-9223372036854775808 ≤ x.1.n∧x.1.n ≤ 9223372036854775807) (hr:∀ w,Holds B Γ w→zCX w t) (hsz:SzG T G) (hT:T ≤ 900000) (hM:M.length ≤ 10000000)
  (h:∀ (os:Sl) (O:OX),O.map Prod.fst = zLS n g t M G→HG B (SlC yC 2 os (O.flatMap oF)::Sep.stars (O.map oB)::blk sd (.cells (sdL st l a b c).toArray qK (0,0))::vX l (zHU n g t M G).1 (zHU n g t M G).2::zk st n (zFJ n g t M G)::Γ) (q #[.int .i64 (zFO n g t M G),os.val])) :
  HG B (blk sd (.cells (sdL st l a b c).toArray qK (0,0))::vX l G.1 G.2::zk st n M::Γ) (yD.call (some ⟨sd,0,none⟩) (orV g t ms).toArray q):=by
 refine fun w hw=>zGp _ _ _ _ ?_
 refine hg hw ?_
 clear hw w
 obtain ⟨k1,k2,k3,k4⟩:=zEF hrt
 obtain ⟨r1,r2⟩:=zJv (n:=n) (M:=M) hrt
 obtain ⟨w1,w2⟩:=zU1 (n:=n) (M:=M) hrt
 unfold yD
 refine zH fun o3=>?_
 refine zH fun t4=>?_
 refine vo ?_
 refine uP ?_
 refine yB (b:=sd) (off:=1) (l:=sdL st l a b c) (x:=some ⟨l,0,none⟩) ?_
 refine qI (b:=o3) (l:=orV g t ms) (l':=qO g) ?_
 refine vo ?_
 refine yB (b:=sd) (off:=1) (l:=sdL st l a b c) (x:=some ⟨l,0,none⟩) ?_
 refine qI (b:=o3) (l:=orV g t ms) (l':=qO g) ?_
 refine zO l ?_
 refine zOh ?_
 unfold zLS zHU zFO zFJ at h
 by_cases hd:G.2 g = true
 ·rw [hd]
  refine s_t ?_
  simp only [hd,if_true] at h
  refine qA (b:=t4) (l':=[.int .i64 112,Sl.val ⟨none,0,0⟩]) ?_
  refine zO l ?_
  refine zOm hsz.gsz (by omega) ?_
  show HG B (vX l (vW g G).1 (vW g G).2::_) _
  refine qI (b:=t4) (l':=[.int .i64 112,Sl.val ⟨none,0,0⟩]) ?_
  refine zB (Δ:=blk sd (.cells (sdL st l a b c).toArray qK (0,0))::vX l (vW g G).1 (vW g G).2::zk st n M::Γ) ?_
  refine fun w hw=>h ⟨none,0,0⟩ [] rfl w ?_
  exact (hw.zCn).zAm yC 2
 rw [Bool.eq_false_iff.2 hd]
 refine s_f ?_
 simp only [hd,Bool.false_eq_true,if_false] at h
 refine vo ?_
 refine zBE [blk o3 (.cells (orV g t ms).toArray zn (0,0)),blk sd (.cells (sdL st l a b c).toArray qK (0,0))] ?_
 refine jC (b:=sd) (l:=sdL st l a b c) (x:=some ⟨st,0,none⟩) ?_
 refine zBM (b:=o3) (off:=4) (l:=orV g t ms) (l':=txL t) ?_
 have run:∀ {Ψ:List zC} {kk:Array Value→Sl→K},(∀ w,Holds B Ψ w→zCX w t) →
   (∀ (os:Sl) (O:OX) (rows:Sl) (R:WX),O.map Prod.fst = (if (vT n M t).2.2 = 0 then (vT n M t).2.1 else [])→qJ R = wrU n M t→(∀ p ∈ R,p.2.1.ok)→HG B (SlC yC 2 os (O.flatMap oF)::Sep.stars (O.map oB)::SlC yY 5 rows (R.flatMap zB5)::Sep.stars (R.map wB)::zk st n M::Ψ) (kk #[.int .i64 (vT n M t).2.2,os.val] rows)) →
   HG B (zk st n M::Ψ) (vk.call (some ⟨st,0,none⟩) (txL t).toArray kk):=fun {Ψ kk} hΨ hk=>by
  refine zQO (t:=t) ⟨fun x hx=>by have:=k1 x (List.mem_append_right _ hx); omega,fun x hx=>⟨by have:=(k4 x hx).1; omega,by have:=(k4 x hx).2; omega,hnn x hx⟩,by omega,by omega,by omega,fun x hx=>by have:=k1 x (List.mem_append_left _ hx); omega⟩ hΨ fun e os O rows R he hb hz hok=>?_
  subst he
  refine hk os O rows R ?_ ?_ hok
  ·split
   ·rename_i hc; exact (hz hc).1
   ·rename_i hc; rw [(hb hc).1]; rfl
  ·unfold wrU
   split
   ·rename_i hc; exact (hz hc).2
   ·rename_i hc; rw [(hb hc).2]; rfl
 have cont:∀ {r5:Nat} {os rows:Sl} {O:OX} {R:WX} {Ψ:List zC},O.map Prod.fst = (if (vT n M t).2.2 = 0 then (vT n M t).2.1 else [])→qJ R = wrU n M t→(∀ p ∈ R,p.2.1.ok) →
   HG B (SlC yY 5 rows (R.flatMap zB5)::Sep.stars (R.map wB)::zk st n M::blk r5 (.cells [.int .i64 (vT n M t).2.2,os.val].toArray yx (0,0))::SlC yC 2 os (O.flatMap oF)::Sep.stars (O.map oB)::vX l G.1 G.2::blk t4 (.cells [.int .i64 0,Sl.val ⟨none,0,0⟩].toArray yx (0,0))::blk o3 (.cells (orV g t ms).toArray zn (0,0))::blk sd (.cells (sdL st l a b c).toArray qK (0,0))::Γ) (yD.s1 q ⟨sd,0,none⟩ ⟨o3,0,none⟩ ⟨t4,0,none⟩ ⟨r5,0,none⟩ rows (some ⟨l,0,none⟩) (qO g).toArray):=fun {r5 os rows O R Ψ} hO hR hok=>by
  have hRl:R.length = (wrU n M t).length:=by rw [← hR]; simp [qJ]
  unfold yD.s1
  refine yB (b:=sd) (l:=sdL st l a b c) (x:=some ⟨st,0,none⟩) ?_
  refine zO st ?_
  refine zXR (R:=R) (fun w hw=>(yP (s:=rows) hw).1) (fun x hx w hw=>zVv (Γ:=[]) hx hw.drops) (fun x hx=>⟨by
   have:(x.1,x.2.1) ∈ qJ R:=List.mem_map.2 ⟨x,hx,rfl⟩
   rw [hR] at this
   have:=w2 _ this
   simp only at this; omega,hok x hx⟩) (by omega) ?_
  rw [hR]
  have S2:∀ {G':GM×DM},SzG (T + 1) G'→(vW g G') = (if t.kind = 2∧(vT n M t).2.2 = 0 then vW g (zCR n (jZ n M (wrU n M t)) (t.writes.headD []) (vW g G)) else vW g G) →
    HG B (blk r5 (.cells [.int .i64 (vT n M t).2.2,os.val].toArray yx (0,0))::SlC yC 2 os (O.flatMap oF)::Sep.stars (O.map oB)::vX l G'.1 G'.2::blk t4 (.cells [.int .i64 0,Sl.val ⟨none,0,0⟩].toArray yx (0,0))::blk sd (.cells (sdL st l a b c).toArray qK (0,0))::zk st n (jZ n M (wrU n M t))::Γ) (yD.s2 q ⟨t4,0,none⟩ ⟨r5,0,none⟩ (some ⟨l,0,none⟩) (qO g).toArray):=fun {G'} hG' he=>by
   unfold yD.s2
   refine qI (b:=r5) (l':=[.int .i64 (vT n M t).2.2,os.val]) ?_
   refine qA (b:=t4) (l':=[.int .i64 (vT n M t).2.2,os.val]) ?_
   refine zO l ?_
   refine zOm hG'.gsz (by omega) ?_
   show HG B (vX l (vW g G').1 (vW g G').2::_) _
   refine qI (b:=t4) (l':=[.int .i64 (vT n M t).2.2,os.val]) ?_
   have h1:=h os O hO
   rw [← he] at h1
   exact zB h1
  refine yB (b:=o3) (off:=4) (l:=orV g t ms) (x:=t.kind) ?_
  have S3:∀ {bb:Bool},(bb = true ↔ t.kind = 2∧(vT n M t).2.2 = 0)→HG B (zk st n (jZ n M (wrU n M t))::blk r5 (.cells [.int .i64 (vT n M t).2.2,os.val].toArray yx (0,0))::SlC yC 2 os (O.flatMap oF)::Sep.stars (O.map oB)::vX l G.1 G.2::blk t4 (.cells [.int .i64 0,Sl.val ⟨none,0,0⟩].toArray yx (0,0))::blk o3 (.cells (orV g t ms).toArray zn (0,0))::blk sd (.cells (sdL st l a b c).toArray qK (0,0))::Γ) (yD.s3 q ⟨sd,0,none⟩ ⟨o3,0,none⟩ ⟨t4,0,none⟩ ⟨r5,0,none⟩ (some ⟨l,0,none⟩) (qO g).toArray bb):=fun {bb} hbb=>by
   unfold yD.s3
   cases bb
   ·have hn:¬ (t.kind = 2∧(vT n M t).2.2 = 0):=fun hh=>by have:=hbb.2 hh; cases this
    refine s_f ?_
    exact zB (S2 (G':=G) (hsz.up (by omega)) (by rw [if_neg hn]))
   ·have hy:=hbb.1 rfl
    refine s_t ?_
    obtain ⟨_,key,hkey⟩:=zED hrt hy.1
    refine vo ?_
    refine yB (b:=sd) (off:=1) (l:=sdL st l a b c) (x:=some ⟨l,0,none⟩) ?_
    refine qI (b:=o3) (l:=orV g t ms) (l':=qO g) ?_
    refine zO l ?_
    refine zXt hsz.gsz (by omega) ?_
    show HG B (vX l (vW g G).1 (vW g G).2::_) _
    refine vo ?_
    refine yB (b:=sd) (off:=1) (l:=sdL st l a b c) (x:=some ⟨l,0,none⟩) ?_
    refine yB (b:=sd) (l:=sdL st l a b c) (x:=some ⟨st,0,none⟩) ?_
    refine zbY (cs:=txL t) (x:=t.ws) (fun w hw=>?_) rfl ?_
    ·exact zXX (b:=o3) (off:=4) (l:=orV g t ms) (n:=5) hw
    refine jY (L:=t.writes) (j:=0) (x:=key) (fun w hw=>(hr w (hw.drops (Δ:=Γ))).2.1) (by rw [hkey]; rfl) ?_
    refine zO st ?_
    refine zO l ?_
    refine zXv (N:=T) (by have:=k1 key (List.mem_append_right _ (by rw [hkey]; simp)); omega) (hsz.leave g).gsz (by omega) ?_
    show HG B (vX l (zCR n (jZ n M (wrU n M t)) key (vW g G)).1 (zCR n (jZ n M (wrU n M t)) key (vW g G)).2::_) _
    refine zB (S2 (G':=zCR n (jZ n M (wrU n M t)) key (vW g G)) ((hsz.leave g).moved) ?_)
    rw [if_pos hy,hkey]; rfl
  refine zF (fun h1=>?_) fun h1=>?_
  ·have hk:t.kind = 2:=by simpa using h1
   refine yB (b:=r5) (l:=[.int .i64 (vT n M t).2.2,os.val]) (x:=(vT n M t).2.2) ?_
   exact zB (S3 (by simp [hk]))
  ·have hk:t.kind ≠ 2:=by simpa using h1
   exact zB (S3 (by simp [hk]))
 refine zIl ?_ ?_
 ·refine zO st ?_
  refine run (fun w hw=>hr w hw.drops) fun os O rows R hO hR hok=>?_
  refine zH fun r5=>?_
  refine qA (b:=r5) (l':=[.int .i64 (vT n M t).2.2,os.val]) ?_
  exact zB (cont (os:=os) (Ψ:=[]) hO hR hok)
 ·refine zH fun r5=>?_
  refine zBC ?_
  refine zO st ?_
  refine run (fun w hw=>hr w hw.drops) fun os O rows R hO hR hok=>?_
  refine qA (b:=r5) (l':=[.int .i64 (vT n M t).2.2,os.val]) ?_
  exact zB (cont (os:=os) (Ψ:=[]) hO hR hok)
end
end
section
open Go Go.Sep Go.Sep.Bt
section
variable {B:World} {Γ Δ:List zC} {k:K} {st sd n:Nat} {M:zy} {P:Pool}
end
end
section
open Go.Proofs Go.Shelf
def zX9:Go.Shelf.Ren:=⟨fun | 5=>50 | 7=>87 | 8=>88 | 10=>135 | 11=>136 | 12=>137 | 13=>138 | 14=>139 | 15=>140 | 16=>141 | 17=>142 | 18=>143 | 19=>144 | 20=>145 | 30=>184 | 31=>185 | 32=>186 | 33=>187 | 34=>188 | 35=>189 | 40=>213 | n=>n,fun | 0=>0 | 3=>3 | 4=>4 | 5=>5 | 9=>9 | 22=>42 | 23=>42 | 25=>3 | 32=>204 | 35=>264 | 36=>265 | 41=>270 | 44=>273 | 46=>33 | 53=>308 | 57=>312 | 63=>339 | 64=>340 | n=>n,fun | n=>n⟩
theorem zR8:Go.Proofs.SlLaysM.n5 Tryz.prog zX9:={
 mixed:=by kernel_rfl
 f5:=⟨Tryz.f50.name,by decide,Tryz.func50.trans (congrArg some (by kernel_rfl))⟩
 f7:=⟨Tryz.f87.name,by decide,Tryz.func87.trans (congrArg some (by kernel_rfl))⟩
 f8:=Tryz.func88.trans (congrArg some (by kernel_rfl))
 f10:=⟨Tryz.f135.name,by decide,Tryz.func135.trans (congrArg some (by kernel_rfl))⟩
 f11:=⟨Tryz.f136.name,by decide,Tryz.func136.trans (congrArg some (by kernel_rfl))⟩
 f12:=⟨Tryz.f137.name,by decide,Tryz.func137.trans (congrArg some (by kernel_rfl))⟩
 f13:=⟨Tryz.f138.name,by decide,Tryz.func138.trans (congrArg some (by kernel_rfl))⟩
 f14:=⟨Tryz.f139.name,by decide,Tryz.func139.trans (congrArg some (by kernel_rfl))⟩
 f15:=⟨Tryz.f140.name,by decide,Tryz.func140.trans (congrArg some (by kernel_rfl))⟩
 f16:=⟨Tryz.f141.name,by decide,Tryz.func141.trans (congrArg some (by kernel_rfl))⟩
 f17:=⟨Tryz.f142.name,by decide,Tryz.func142.trans (congrArg some (by kernel_rfl))⟩
 f18:=⟨Tryz.f143.name,by decide,Tryz.func143.trans (congrArg some (by kernel_rfl))⟩
 f19:=Tryz.func144.trans (congrArg some (by kernel_rfl))
 f20:=Tryz.func145.trans (congrArg some (by kernel_rfl))
 f30:=⟨Tryz.f184.name,by decide,Tryz.func184.trans (congrArg some (by kernel_rfl))⟩
 f31:=Tryz.func185.trans (congrArg some (by kernel_rfl))
 f32:=Tryz.func186.trans (congrArg some (by kernel_rfl))
 f33:=⟨Tryz.f187.name,by decide,Tryz.func187.trans (congrArg some (by kernel_rfl))⟩
 f34:=⟨Tryz.f188.name,by decide,Tryz.func188.trans (congrArg some (by kernel_rfl))⟩
 f35:=⟨Tryz.f189.name,by decide,Tryz.func189.trans (congrArg some (by kernel_rfl))⟩
 f40:=⟨Tryz.f213.name,by decide,Tryz.func213.trans (congrArg some (by kernel_rfl))⟩
 t0:=Tryz.underlying0
 a0:=Tryz.isAgg0
 z0:=Tryz.sizeOf0
 v0:=Tryz.zeroValue0
 t3:=Tryz.underlying3
 a3:=Tryz.isAgg3
 z3:=Tryz.sizeOf3
 v3:=Tryz.zeroValue3
 t4:=Tryz.underlying4
 a4:=Tryz.isAgg4
 z4:=Tryz.sizeOf4
 v4:=Tryz.zeroValue4
 t5:=Tryz.underlying5
 a5:=Tryz.isAgg5
 z5:=Tryz.sizeOf5
 v5:=Tryz.zeroValue5
 t9:=Tryz.underlying9
 a9:=Tryz.isAgg9
 z9:=Tryz.sizeOf9
 v9:=Tryz.zeroValue9
 t22:=Tryz.underlying42
 a22:=Tryz.isAgg42
 z22:=Tryz.sizeOf42
 v22:=Tryz.zeroValue42
 t23:=Tryz.underlying42
 a23:=Tryz.isAgg42
 z23:=Tryz.sizeOf42
 v23:=Tryz.zeroValue42
 t25:=Tryz.underlying3
 a25:=Tryz.isAgg3
 z25:=Tryz.sizeOf3
 v25:=Tryz.zeroValue3
 t32:=Tryz.underlying204
 a32:=Tryz.isAgg204
 z32:=Tryz.sizeOf204
 v32:=Tryz.zeroValue204
 t35:=Tryz.underlying264
 a35:=Tryz.isAgg264
 z35:=Tryz.sizeOf264
 v35:=Tryz.zeroValue264
 t36:=Tryz.underlying265
 a36:=Tryz.isAgg265
 z36:=Tryz.sizeOf265
 v36:=Tryz.zeroValue265
 t41:=Tryz.underlying270
 a41:=Tryz.isAgg270
 z41:=Tryz.sizeOf270
 v41:=Tryz.zeroValue270
 t44:=Tryz.underlying273
 a44:=Tryz.isAgg273
 z44:=Tryz.sizeOf273
 v44:=Tryz.zeroValue273
 t46:=Tryz.underlying33
 a46:=Tryz.isAgg33
 z46:=Tryz.sizeOf33
 v46:=Tryz.zeroValue33
 t53:=Tryz.underlying308
 a53:=Tryz.isAgg308
 z53:=Tryz.sizeOf308
 v53:=Tryz.zeroValue308
 t57:=Tryz.underlying312
 a57:=Tryz.isAgg312
 z57:=Tryz.sizeOf312
 v57:=Tryz.zeroValue312
 t63:=Tryz.underlying339
 a63:=Tryz.isAgg339
 z63:=Tryz.sizeOf339
 v63:=Tryz.zeroValue339
 t64:=Tryz.underlying340
 a64:=Tryz.isAgg340
 z64:=Tryz.sizeOf340
 v64:=Tryz.zeroValue340
}
end
section
open Go Go.Sep
abbrev zEU (ss:List Int):List Int:=ss.mergeSort fun x y=>decide (x ≤ y)
section
variable {B w:World} {Γ:List zC}
theorem zJw {s:Sl} {ss:List Int} {k:K} (hl:ss.length ≤ 1000000) (h:Holds B (SlC zBJ 1 s (ss.map (Value.int .i64))::Γ) w) (hk:∀ w,Holds B (SlC zBJ 1 s ((zEU ss).map (Value.int .i64))::Γ) w→k w):zA1.call s k w:=by
 have hsc:=h.zMS
 have hn:ss.length = s.n:=by have:=hsc.1; simpa using this
 unfold zA1.call zL
 cases ha:s.a with
 | none=>
  have hs0:s.n = 0:=by have:=hsc.2.2.2 ha; omega
  have hss:ss = []:=List.length_eq_zero_iff.1 (by omega)
  subst hss
  have h1:=AnyM.slices_Sort_int_none zR8 none s.c w
  have e:[Sl.val s].toArray = #[.slice none 0 s.c]:=by
   show #[Value.slice s.a s.n s.c] = _
   rw [ha,hs0]
  rw [e]
  refine Calls.mono h1 fun e w' he=>?_
  obtain ⟨rfl,rfl⟩:=he
  exact ⟨rfl,hk _ (by simpa [zEU] using h)⟩
 | some a=>
  obtain ⟨cs,fz,h,hsp,hf,hsz,hr,hlen,hc⟩:=zMT h ha
  obtain ⟨b,off,sp⟩:=a
  simp only at hsp
  subst hsp
  simp only at h hf hsz hr
  have hb:=h.block
  have hH:Sort.Holds (Value.int .i64) w b off ss.toArray:=fun j hj=>by
   simp only [List.size_toArray] at hj
   have h1:=hr j (by simpa using hj)
   constructor
   ·refine vE hb ?_
    rw [h1,List.getElem?_map,List.getElem?_eq_getElem hj]
    simp [getElem!_pos,hj]
   ·exact zA7 hb (hf _ (by omega) (by omega))
  have h1:=AnyM.slices_Sort_int zR8 b off s.c ss w hH (Array.getElem?_eq_some_iff.1 hb).1 (by omega)
  have e:[Sl.val s].toArray = #[.slice (some ⟨b,off,none⟩) ss.length s.c]:=by
   show #[Value.slice s.a s.n s.c] = _
   rw [ha,hn]
  rw [e]
  refine Calls.mono h1 fun e w' he=>?_
  obtain ⟨rfl,n,os,rfl⟩:=he
  refine ⟨rfl,hk _ ?_⟩
  have h2:Holds B (blk b (.cells cs zBJ fz)::Γ) (Sort.ahead w n):=h.drew _
  have h3:=h2.setBlock (o':=.cells (Sort.putCells (Value.int .i64) off (zEU ss).toArray cs) zBJ fz) rfl
  have e2:({ (Sort.ahead w n) with heap:=(Sort.ahead w n).heap.setIfInBounds b (.cells (Sort.putCells (Value.int .i64) off (zEU ss).toArray cs) zBJ fz) }:World) = Sort.putRow (Value.int .i64) (Sort.ahead w n) b off (zEU ss).toArray:=by
   have harr:(Sort.ahead w n).heap.setIfInBounds b (.cells (Sort.putCells (Value.int .i64) off (zEU ss).toArray cs) zBJ fz) = (Sort.ahead w n).heap.modify b (Sort.onCells (Sort.putCells (Value.int .i64) off (zEU ss).toArray)):=by
    apply Array.ext_getElem?
    intro i
    rw [Array.getElem?_modify]
    by_cases hi:b = i
    ·subst hi
     rw [if_pos rfl,h2.block,Array.getElem?_setIfInBounds_self_of_lt (Array.getElem?_eq_some_iff.1 h2.block).1]
     rfl
    ·rw [if_neg hi,Array.getElem?_setIfInBounds_ne hi]
   unfold Sort.putRow Sort.mapBlock
   rw [← harr]
  rw [e2] at h3
  have h4:=holds_grow h3 os
  have hsl:(zEU ss).length = ss.length:=by simp [zEU]
  refine zMU (a:=⟨b,off,none⟩) ha h4 ⟨rfl,hf,?_,fun i hi=>?_,by rw [List.length_map,hsl]; simpa using hlen,hc⟩
  ·have:(Sort.putCells (Value.int .i64) off (zEU ss).toArray cs).size = cs.size:=by simp [Sort.putCells]
   rw [this]; exact hsz
  ·simp only [List.length_map] at hi
   unfold Sort.putCells
   rw [Array.getElem?_mapIdx]
   have hlt:off + i < cs.size:=by omega
   rw [Array.getElem?_eq_getElem hlt,Option.map_some,if_pos (by simp; omega),List.getElem?_map,List.getElem?_eq_getElem hi,Option.map_some,Nat.add_sub_cancel_left,getElem!_pos (zEU ss).toArray i (by simpa using hi)]
   simp
end
end
section
open Go Go.Sep
abbrev SlI (s:Sl) (L:List Int):zC:=SlC zBJ 1 s (L.map (Value.int .i64))
section
variable {B:World} {Γ Δ:List zC} {k:K}
theorem zR9 {s:Sl} {L:List Int} {Q:Sl→K} (hL:L.length < 100000000) (h:∀ s',HG B (SlI s' (uR L)::Γ) (Q s')):HG B (SlI s L::Γ) (zu.call s Q):=by
 refine fun w hw=>zEu _ _ _ ?_
 refine hg hw ?_
 clear hw w
 unfold zu
 refine yS s fun a1 a2 a3 a4=>?_
 rw [List.length_map,Nat.mul_one] at a1
 refine zF (fun hb=>?_) fun hb=>?_
 ·have e:uR L = L:=by
   match L,a1 with
   | [],_=>rfl
   | [x],_=>rfl
   | x::y::L,a1=>simp only [List.length_cons] at a1; simp only [decide_eq_true_eq] at hb; omega
  rw [e] at h
  exact h s
 have hn2:2 ≤ L.length:=by simp only [decide_eq_false_iff_not] at hb; omega
 refine zAP (α:=Int) (fun x=>∃ i:Nat,x = (i:Int)∧1 ≤ i∧i ≤ L.length∧uR (L.take i) = L.take i) (fun x=>L.length - x.toNat) ⟨1,rfl,Nat.le_refl _,by omega,?_⟩ fun k' x hx hk'=>?_
 ·match L,hn2 with
  | x::L,_=>simp [uR]
 obtain ⟨i,rfl,hi1,hi,hc⟩:=hx
 unfold zu.b1
 refine zF (fun hb2=>?_) fun hb2=>?_
 rotate_left
 ·have hil:i = L.length:=by simp only [decide_eq_false_iff_not] at hb2; omega
  rw [hil,List.take_length] at hc
  rw [hc] at h
  exact h s
 have hil:i < L.length:=by simp only [decide_eq_true_eq] at hb2; omega
 obtain ⟨j,rfl⟩:∃ j,i = j + 1:=⟨i - 1,by omega⟩
 have step:∀ m,m + 1 < L.length→uR (L.take (m + 2)) = if L[m + 1]? = L[m]? then uR (L.take (m + 1)) else uR (L.take (m + 1))++L[m + 1]?.toList:=fun m hm=>by
  have t1:L.take (m + 2) = L.take m++[L[m],L[m + 1]]:=by rw [List.take_succ_eq_append_getElem hm,List.take_succ_eq_append_getElem (by omega),List.append_assoc]; rfl
  have t2:L.take (m + 1) = L.take m++[L[m]]:=List.take_succ_eq_append_getElem (by omega)
  rw [t1,t2,zGF,List.getElem?_eq_getElem hm,List.getElem?_eq_getElem (show m < L.length by omega)]
  simp
 obtain ⟨a,ha⟩:∃ a,L[j + 1]? = some a:=⟨_,List.getElem?_eq_getElem hil⟩
 obtain ⟨b,hb'⟩:∃ b,L[j]? = some b:=⟨_,List.getElem?_eq_getElem (by omega)⟩
 refine vo ?_
 refine zAd (c:=Value.int .i64) (L:=L) (j:=j + 1) (fun w hw=>(yP (s:=s) hw).1) ha ?_ rfl
 refine qB ?_
 refine zAd (c:=Value.int .i64) (L:=L) (j:=j) (fun w hw=>(yP (s:=s) hw).1) hb' ?_ (by omega)
 have hst:=step j hil
 rw [ha,hb'] at hst
 refine zF (fun he=>?_) fun he=>?_
 rotate_left
 ·have hne:¬ some a = some b:=by simpa using he
  rw [if_neg hne] at hst
  refine qB ?_
  refine hk' _ ⟨j + 2,by simp; omega,by omega,hil,?_⟩ (by omega)
  rw [hst,hc,List.take_succ_eq_append_getElem hil]
  rw [List.getElem?_eq_getElem hil] at ha
  rw [Option.some.inj ha]; rfl
 have hab:some a = some b:=by simpa using he
 rw [if_pos hab,hc] at hst
 refine zAX (lo:=j + 1) (hi:=s.n) (mx:=s.c) ?_
 refine xW (α:=Int×Int) (ι:=Nat×Nat×List Int) (fun y i=>y.1 = (i.1:Int)∧y.2 = (i.2.1:Int)∧1 ≤ i.2.1∧j + 1 + i.2.1 ≤ L.length∧i.1 < j + 1 + i.2.1∧i.2.2.length = L.length∧i.2.2.drop (j + i.2.1) = L.drop (j + i.2.1)∧i.2.2.take i.1 = uR (L.take (j + 1 + i.2.1)))
  (fun y i=>SlI s i.2.2::Γ) (fun y i=>L.length - i.2.1) (j + 1,1,L) ⟨rfl,rfl,Nat.le_refl _,by simp only; omega,by simp only; omega,rfl,rfl,hst.symm⟩ ?_
 rintro k2 ⟨_,_⟩ ⟨p,q,M⟩ ⟨rfl,rfl,hq1,hq,hpq,hM,hd,ht⟩ hk2
 simp only at hq1 hq hpq hM hd ht hk2 ⊢
 unfold zu.b2
 simp only
 refine yS s fun d1 d2 d3 d4=>?_
 rw [List.length_map,Nat.mul_one] at d1
 refine zF (fun hb3=>?_) fun hb3=>?_
 ·have hql:j + 1 + q < L.length:=by simp only [decide_eq_true_eq] at hb3; omega
  obtain ⟨x,hx⟩:∃ x,L[j + 1 + q]? = some x:=⟨_,List.getElem?_eq_getElem hql⟩
  obtain ⟨y,hy⟩:∃ y,L[j + q]? = some y:=⟨_,List.getElem?_eq_getElem (by omega)⟩
  have hMx:M[j + 1 + q]? = some x:=by
   have:=congrArg (·[1]?) hd
   simp only [List.getElem?_drop] at this
   rw [show j + q + 1 = j + 1 + q by omega] at this
   rw [this,hx]
  have hMy:M[j + q]? = some y:=by
   have:=congrArg (·[0]?) hd
   simp only [List.getElem?_drop,Nat.add_zero] at this
   rw [this,hy]
  have hrd:∀ w,Holds B (SlI s M::Γ) w→RdC w ⟨zCE s.a (j + 1) s.c 1,s.n - (j + 1),s.c - (j + 1)⟩ 1 ((M.drop (j + 1)).map (Value.int .i64)):=fun w hw=>by
   have:=(yP (s:=s) hw).1.drop (l:=j + 1) (c:=s.c) (by omega) d2 d3
   rwa [Nat.mul_one,← List.map_drop] at this
  have hst2:=step (j + q) (by omega)
  rw [show j + q + 1 = j + 1 + q by omega,hx,hy,show j + q + 2 = j + 1 + (q + 1) by omega] at hst2
  refine vo ?_
  refine zAd (c:=Value.int .i64) (L:=M.drop (j + 1)) (j:=q) hrd (by rw [List.getElem?_drop]; exact hMx) ?_ rfl
  refine qB ?_
  refine zAd (c:=Value.int .i64) (L:=M.drop (j + 1)) (j:=q - 1) hrd (by rw [List.getElem?_drop,show j + 1 + (q - 1) = j + q by omega]; exact hMy) ?_ (by omega)
  unfold zu.s3
  refine zF (fun he2=>?_) fun he2=>?_
  ·have hne:¬ some x = some y:=by simpa using he2
   rw [if_neg hne] at hst2
   refine zAd (c:=Value.int .i64) (L:=M.drop (j + 1)) (j:=q) hrd (by rw [List.getElem?_drop]; exact hMx) ?_ rfl
   refine vg (s:=s) (i:=p) ?_
   rw [← add0 (elA s p 1)]
   refine zMV (s:=s) ?_ (by simp; omega)
   rw [show p * 1 + 0 = p by omega,show Value.int .i64 x = (Value.int .i64) x from rfl,← List.map_set]
   refine qB ?_
   refine qB ?_
   refine hk2 _ (p + 1,q + 1,M.set p x) ⟨by simp,by simp,by simp only; omega,by simp only; omega,by simp only; omega,by simpa using hM,?_,?_⟩ (by simp only; omega)
   ·simp only
    rw [List.drop_set_of_lt (by omega),show j + (q + 1) = (j + q) + 1 by omega,← List.drop_drop,hd,List.drop_drop]
   ·simp only
    rw [zJk (by omega),ht,hst2]; rfl
  ·have heq:some x = some y:=by simpa using he2
   rw [if_pos heq] at hst2
   refine qB ?_
   refine hk2 _ (p,q + 1,M) ⟨rfl,by simp,by simp only; omega,by simp only; omega,by simp only; omega,hM,?_,?_⟩ (by simp only; omega)
   ·simp only
    rw [show j + (q + 1) = (j + q) + 1 by omega,← List.drop_drop,hd,List.drop_drop]
   ·simp only
    rw [ht,hst2]
 ·have hql:j + 1 + q = L.length:=by simp only [decide_eq_false_iff_not] at hb3; omega
  rw [hql,List.take_length] at ht
  refine zAX (lo:=p) (hi:=s.n) (mx:=s.c) ?_
  refine zCs (s:=s) (m:=p) (c':=s.c) (by omega) (by omega) (Nat.le_refl _) ?_
  rw [show (M.map (Value.int .i64)).take (p * 1) = (uR L).map (Value.int .i64) by rw [Nat.mul_one,← List.map_take,ht]]
  refine zJT (s:=⟨s.a,p,s.c⟩) (l:=p) (q:=s.n - p) (m:=s.c) rfl (Nat.le_refl _) (by simp only; omega) (by omega) ?_
  refine zAX (lo:=0) (hi:=p) (mx:=s.c) ?_
  rw [zKA d3]
  exact h ⟨s.a,p,s.c⟩
def xX (L:List MkX):List Int:=uR (zEU (if L.length = 0 then [0] else L.map MkX.home))
theorem zH3 (L:List Int):(zEU L).length = L.length:=(List.mergeSort_perm L _).length_eq
theorem zHV {ms:Sl} {L:List MkX} {pre:List Value} {Q:Sl→K} (hpre:pre.length = 9) (hr:∀ w,Holds B Γ w→RdC w ms 3 (L.flatMap mkL)) (hL:L.length ≤ 1000) (h:∀ s,HG B (SlI s (xX L)::Γ) (Q s)):HG B Γ (xB.call (pre++[ms.val]).toArray Q):=fun w hw=>by
 refine zMv _ _ _ ?_
 have hn:ms.n = L.length:=zA3 zCZ (by omega) (hr w hw)
 refine Sep.hg hw ?_
 clear hw w
 unfold xB
 refine zH fun o1=>?_
 refine yB (b:=o1) (x:=ms) ?_ (by rw [zCc,List.getElem?_append_right (by omega),hpre]; rfl)
 refine zB (Δ:=Γ) ?_
 have fin:∀ (s:Sl) (H:List Int),H = (if L.length = 0 then [0] else L.map MkX.home)→H.length ≤ 1001→HG B (SlI s H::Γ) (xB.s2 Q (fun _ _=>Q s) s):=fun s H hH hl=>by
  unfold xB.s2
  refine fun w hw=>zJw (by omega) hw fun w hw=>?_
  refine Sep.hg hw ?_
  clear hw w
  refine zR9 (by rw [zH3]; omega) fun s'=>?_
  have:=h s'
  unfold xX at this
  rw [← hH] at this
  exact this
 refine zX5 (E:=zBJ) (esz:=1) (vs:=([]:List Int).map (Value.int .i64)) ?_
 refine xW (α:=Sl×Int) (ι:=Nat) (fun x i=>x.2 = (i:Int)∧i ≤ L.length) (fun x i=>SlI x.1 ((L.take i).map MkX.home)::Γ) (fun x i=>L.length - i) 0 ⟨rfl,Nat.zero_le _⟩ ?_
 rintro k' ⟨o,_⟩ i ⟨rfl,hi⟩ hk'
 simp only at hi hk' ⊢
 refine yS o fun b1 b2 b3 b4=>?_
 rw [List.length_map,List.length_map,List.length_take] at b1
 unfold xB.b1
 refine zF (fun hb=>?_) fun hb=>?_
 ·have hil:i < L.length:=by simp only [decide_eq_true_eq] at hb; omega
  have hge:L[i]? = some L[i]:=List.getElem?_eq_getElem hil
  have htk:L.take (i + 1) = L.take i++[L[i]]:=List.take_succ_eq_append_getElem hil
  generalize L[i] = m at hge htk
  refine zAc mkL zCZ (fun w hw=>hr w hw.drops) hge ?_
  refine zH fun m4=>?_
  repeat refine zT ?_
  refine zPq (s:=o) (m:=1) (us:=[.int .i64 m.home]) (fun o2 ho2=>?_)
  refine qB ?_
  rw [show ((L.take i).map MkX.home).map (Value.int .i64)++[.int .i64 m.home] = ((L.take (i + 1)).map MkX.home).map (Value.int .i64) by rw [htk]; simp]
  exact zB (hk' (o2,(i:Int) + 1) (i + 1) ⟨by simp,hil⟩ (by omega))
 ·have hil:i = L.length:=by simp only [decide_eq_false_iff_not] at hb; omega
  rw [hil,List.take_length]
  have fin2:∀ (X1:Sl→Int→K) (s:Sl) (H:List Int),H = (if L.length = 0 then [0] else L.map MkX.home)→H.length ≤ 1001→HG B (SlI s H::Γ) (xB.s2 Q X1 s):=fun X1 s H hH hl=>by
   have:=fin s H hH hl
   unfold xB.s2 at this ⊢
   exact this
  refine zF (fun hc=>?_) fun hc=>?_
  ·have h0:L.length = 0:=by simp only [decide_eq_true_eq] at hc; omega
   refine zH fun t21=>?_
   refine jy (A':=SlI ⟨some ⟨t21,0,none⟩,1,1⟩ [0]) (zAB (vs:=[.int .i64 0]) rfl (by simp)) ?_
   exact zB (fin2 _ _ [0] (by rw [if_pos h0]) (by simp))
  ·have h0:L.length ≠ 0:=by simp only [decide_eq_false_iff_not] at hc; omega
   exact fin2 _ o _ (by rw [if_neg h0]) (by rw [List.length_map]; omega)
theorem zKg {a b c d:Int} {t:TxX} {ms:Sl} {L:List MkX} {Q:Bool→K} (hr:∀ w,Holds B Γ w→RdC w ms 3 (L.flatMap mkL)) (hL:L.length ≤ 1000) (h:HG B Γ (Q (decide (t.kind = 1) && decide ((xX L).length = 1)))):HG B Γ (uQ.call (orL a b c d t ms).toArray Q):=fun w hw=>by
 refine zLM _ _ _ ?_
 refine Sep.hg hw ?_
 clear hw w
 unfold uQ
 refine zH fun o1=>?_
 repeat refine zT ?_
 unfold uQ.s1
 refine zF (fun hb=>?_) fun hb=>?_
 ·repeat refine zT ?_
  refine zHV (pre:=[.int .i64 a,.int .u64 b,.int .u64 c,.int .i64 d,.int .i64 t.kind,t.rs.val,t.ws.val,t.os.val,.int .i64 t.to]) (L:=L) rfl (fun w hw=>hr w hw.drops) hL fun s=>?_
  refine yS s fun b1 b2 b3 b4=>?_
  rw [List.length_map,Nat.mul_one] at b1
  rw [hb,Bool.true_and] at h
  rw [show decide ((s.n:Int) = 1) = decide ((xX L).length = 1) from decide_eq_decide.2 (by omega)]
  exact zB h
 ·rw [hb,Bool.false_and] at h
  exact zB h
end
end
section
open Go Go.Sep
structure zNy where
 last:Int
 seen:List y7
structure zZj (S:List y7) (N:Nat) (D:List (y7×Int)):Prop where
 keys:D.map Prod.fst = S
 once:S.Nodup
 cnt:∀ p ∈ D,1 ≤ p.2∧p.2 ≤ N
abbrev zKh (rg last:Int) (m:Nat):List Value:=[.int .i64 rg,.int .i64 last,.map (some m)]
def zEw (fb:Nat) (rg:Int) (N:Nat) (f:zNy):zC:=ex fun m=>ex fun D:List (y7×Int)=>Sep.stars [pur (zZj f.seen N D),blk fb (.cells (zKh rg f.last m).toArray jK (0,0)),xE (kyS qO) (Value.int .i64) m D]
def firstM (tag:y7) (S:List y7):List y7:=if tag ∈ S then S else S++[tag]
def zDn (rg:Int) (f:zNy) (kind ix:Int) (tag:y7) (homes:List Int) (single:Bool):zNy×Bool :=
 if rg ∉ homes then (f,false) else
 if kind = 1∧single = true then ({ f with seen:=firstM tag f.seen },!decide (tag ∈ f.seen)) else
 if kind = 2∧single = false∧f.last < ix then ({ f with last:=ix },true) else (f,false)
section
variable {B:World} {Γ Δ:List zC} {fb N:Nat} {rg:Int} {f:zNy} {k:K}
theorem zYA (h:∀ m D,zZj f.seen N D→HG B (blk fb (.cells (zKh rg f.last m).toArray jK (0,0))::xE (kyS qO) (Value.int .i64) m D::Γ) k):HG B (zEw fb rg N f::Γ) k :=
 zDI fun m=>zDI fun D=>zBr <| zGd fun h1=>h m D h1
theorem zJx {m:Nat} {D:List (y7×Int)} (h1:zZj f.seen N D) (h:HG B (zEw fb rg N f::Γ) k):HG B (blk fb (.cells (zKh rg f.last m).toArray jK (0,0))::xE (kyS qO) (Value.int .i64) m D::Γ) k:=fun w hw=>by
 refine h w ?_
 have h3:Holds B (Sep.stars [pur (zZj f.seen N D),blk fb (.cells (zKh rg f.last m).toArray jK (0,0)),xE (kyS qO) (Value.int .i64) m D]::Γ) w:=Holds.flat.2 (Holds.pur.2 ⟨h1,hw⟩)
 exact h3.imp fun g hg=>⟨m,D,hg⟩
instance (priority:=high) zc2:Sep.Own fb (zEw fb rg N f::Γ) (zEw fb rg N f) Γ:=⟨.refl _⟩
theorem zQb {N':Nat} (hN:N ≤ N') (h:HG B (zEw fb rg N' f::Γ) k):HG B (zEw fb rg N f::Γ) k:=zYA fun m D hD=>zJx ⟨hD.keys,hD.once,fun p hp=>by have:=hD.cnt p hp; omega⟩ h
theorem zOn {q:Option Addr→K} (h:∀ fb,HG B (zEw fb rg 0 ⟨-1,[]⟩::Γ) (q (some ⟨fb,0,none⟩))):HG B Γ (zBK.call rg q):=by
 refine fun w hw=>zKe _ _ _ ?_
 refine hg hw ?_
 clear hw w
 unfold zBK
 refine zJe (enc:=kyS qO) (cV:=Value.int .i64) fun m=>?_
 refine zH fun fb=>?_
 exact zJx (f:=⟨-1,[]⟩) (D:=[]) ⟨rfl,by simp,by simp⟩ (h fb)
theorem zVx {D:List (y7×Int)} {tag:y7}:(y8 tag D).isSome = true ↔ tag ∈ D.map Prod.fst:=by
 induction D with
 | nil=>simp [y8]
 | cons p D ih=>
  unfold y8
  split
  ·rename_i h; simp [h]
  ·rename_i h
   rw [ih]; simp [h]
theorem zOo {α ν:Type} [DecidableEq α] {k:α} {v:ν} {p:α×ν}:∀ {M:List (α×ν)},p ∈ vS k v M→p = (k,v)∨p ∈ M
 | [],h=>by
  unfold vS at h
  exact .inl (List.mem_singleton.1 h)
 | q::M,h=>by
  unfold vS at h
  split at h
  ·rcases List.mem_cons.1 h with h | h
   ·exact .inl h
   ·exact .inr (List.mem_cons_of_mem _ h)
  ·rcases List.mem_cons.1 h with h | h
   ·exact .inr (h ▸ List.mem_cons_self)
   ·exact (zOo h).imp id (List.mem_cons_of_mem _)
theorem zSA {tag:y7} {q:Bool→K} (hN:N ≤ 1000000000) (h:HG B (zEw fb rg (N + 1) { f with seen:=firstM tag f.seen }::Γ) (q (!decide (tag ∈ f.seen)))):HG B (zEw fb rg N f::Γ) (uU.call (some ⟨fb,0,none⟩) (qO tag).toArray q):=by
 refine fun w hw=>zGP _ _ _ _ ?_
 refine hg hw ?_
 clear hw w
 refine zYA fun m D hD=>?_
 unfold uU
 refine zH fun t3=>?_
 have hc:0 ≤ (y8 tag D).getD 0∧(y8 tag D).getD 0 ≤ N:=by
  cases hg:y8 tag D with
  | none=>simp
  | some v=>have:=hD.cnt _ (zE2 hg); simp only [Option.getD_some]; simp only at this; omega
 have hz:(y8 tag D).getD 0 = 0 ↔ tag ∉ f.seen:=by
  rw [← hD.keys,← zVx]
  cases hg:y8 tag D with
  | none=>simp
  | some v=>have:=hD.cnt _ (zE2 hg); simp only [Option.getD_some,Option.isSome_some,not_true,iff_false]; simp only at this; omega
 refine vo ?_
 refine zaf (fun w=>w.cell? ((⟨fb,0,none⟩:Addr).add 2) = some (.map (some m))∧RdN w ⟨t3,0,none⟩ (qO tag).toArray∧(Instr.lookup zDF (.map (some m)) (kyS qO tag) false).run Tryz.prog w = .ok (.int .i64 ((y8 tag D).getD 0)) w) (fun w hw=>⟨by rw [uT]; exact vE (zA6 hw (b:=fb)) rfl,zXX (b:=t3) (l:=qO tag) (n:=4) hw,zUk (b:=m) hw zCQ zEO⟩) ?_
 refine uP ?_
 refine zM7 (x:=some m) (fun w hS=>hS.1) ?_
 refine zZY (l:=qO tag) (fun w hS=>hS.2.1) ?_
 refine zbP (x:=(y8 tag D).getD 0) (fun w hS=>hS.2.2) ?_
 refine qB ?_
 refine zXV (b:=m) (m:=D) (cV:=Value.int .i64) (z:=(0:Int)) (a:=tag) (zdY zCQ) zEO fun stp=>?_
 refine zXW (fun w hw=>⟨by rw [uT]; exact vE (zA6 hw (b:=fb)) rfl,zXX (b:=t3) (l:=qO tag) (n:=4) hw,by
  have h1:=zUk (b:=m) (m:=vS tag ((y8 tag D).getD 0) D) (cV:=Value.int .i64) (a:=tag) (T:=zDF) (zS3.map hw) zCQ zEO
  rw [zOb] at h1
  exact h1⟩) ?_
 refine zS4 (b:=m) (enc:=kyS qO) (cV:=Value.int .i64) (m:=D) (z:=(0:Int)) (a:=tag) (v:=(y8 tag D).getD 0 + 1) rfl ?_
 refine vo ?_
 refine yB (b:=fb) (off:=2) (l:=zKh rg f.last m) (x:=some m) ?_
 refine qI (b:=t3) (l':=qO tag) ?_
 refine zJi (b:=m) (m:=vS tag ((y8 tag D).getD 0 + 1) D) (cV:=Value.int .i64) (z:=(0:Int)) (a:=tag) zCQ zEO ?_
 rw [zOb,Option.getD_some]
 have e:decide ((y8 tag D).getD 0 + 1 = 1) = !decide (tag ∈ f.seen):=by
  by_cases hm:tag ∈ f.seen
  ·have:¬ (y8 tag D).getD 0 = 0:=fun h0=>hz.1 h0 hm
   simp [hm]; omega
  ·rw [hz.2 hm]; simp [hm]
 rw [e]
 refine zO m ?_
 refine zO fb ?_
 refine zJx (f:={ f with seen:=firstM tag f.seen }) (N:=N + 1) ⟨?_,?_,fun p hp=>?_⟩ (zB h)
 ·rw [zE1,hD.keys]; rfl
 ·unfold firstM
  split
  ·exact hD.once
  ·rename_i hm
   exact List.nodup_append.2 ⟨hD.once,by simp,fun a ha b hb=>by rw [List.mem_singleton.1 hb]; exact fun e=>hm (e ▸ ha)⟩
 ·rcases zOo hp with rfl | hp
  ·simp only; omega
  ·have:=hD.cnt p hp; omega
theorem zOp {s:Sl} {L:List Int} {x:Int} {q:Bool→K} (hL:L.length < 1000000000) (hr:∀ w,Holds B Γ w→RdC w s 1 (L.map (Value.int .i64))) (h:HG B Γ (q (decide (x ∈ L)))):HG B Γ (xZ.call s x q):=fun w hw=>by
 refine zEg _ _ _ _ ?_
 have hsn:s.n = L.length:=by have:=(hr w hw).len; simpa using this.symm
 refine hg hw ?_
 clear hw w
 unfold xZ
 refine fun w hw=>zFN _ _ _ _ ?_
 refine hg hw ?_
 clear hw w
 unfold xH
 refine zAP (α:=Int) (fun y=>∃ i:Nat,y = (i:Int)∧i ≤ L.length∧x ∉ L.take i) (fun y=>L.length - y.toNat) ⟨0,rfl,Nat.zero_le _,by simp⟩ fun k' y hy hk'=>?_
 obtain ⟨i,rfl,hi,hno⟩:=hy
 unfold xH.b1
 refine zF (fun hb=>?_) fun hb=>?_
 ·have hil:i < L.length:=by simp only [decide_eq_true_eq] at hb; omega
  have hge:L[i]? = some L[i]:=List.getElem?_eq_getElem hil
  have hmem:L[i] ∈ L:=List.getElem_mem hil
  have htk:L.take (i + 1) = L.take i++[L[i]]:=List.take_succ_eq_append_getElem hil
  generalize L[i] = z at hge hmem htk
  refine zAd (L:=L) hr hge ?_
  refine zF (fun hc=>?_) fun hc=>?_
  ·have hxz:x = z:=by simpa using hc
   show HG B Γ (q (decide ((0:Int) ≤ (i:Int))))
   rw [show decide ((0:Int) ≤ (i:Int)) = decide (x ∈ L) by simp [hxz,hmem]]
   exact h
  ·have hxz:x ≠ z:=by simpa using hc
   refine qB ?_
   refine hk' _ ⟨i + 1,by simp,hil,?_⟩ (by omega)
   rw [htk,List.mem_append,List.mem_singleton]
   exact fun hh=>hh.elim hno hxz
 ·have hil:i = L.length:=by simp only [decide_eq_false_iff_not] at hb; omega
  rw [hil,List.take_length] at hno
  show HG B Γ (q (decide ((0:Int) ≤ -1)))
  rw [show decide ((0:Int) ≤ -1) = decide (x ∈ L) by simp [hno]]
  exact h
theorem zTI {kind ix:Int} {tag:y7} {t:TxX} {ms:Sl} {mks:List MkX} {q:Bool→K} (hm:∀ w,Holds B Γ w→RdC w ms 3 (mks.flatMap mkL)) (hml:mks.length ≤ 1000) (hN:N ≤ 1000000000)
  (h:HG B (zEw fb rg (N + 1) (zDn rg f kind ix tag (xX mks) (decide (t.kind = 1) && decide ((xX mks).length = 1))).1::Γ) (q (zDn rg f kind ix tag (xX mks) (decide (t.kind = 1) && decide ((xX mks).length = 1))).2)) :
  HG B (zEw fb rg N f::Γ) (yZ.call (some ⟨fb,0,none⟩) (.int .i64 kind::.int .i64 ix::orV tag t ms).toArray q):=by
 refine fun w hw=>zGq _ _ _ _ ?_
 refine hg hw ?_
 clear hw w
 have hhl:(xX mks).length ≤ 100000:=by
  have h1:=zFz (zEU (if mks.length = 0 then [0] else mks.map MkX.home))
  rw [zH3] at h1
  have h2:(if mks.length = 0 then [0] else mks.map MkX.home).length ≤ 1000:=by split <;> simp <;> omega
  unfold xX
  omega
 generalize hH:xX mks = H at *
 generalize hS:(decide (t.kind = 1) && decide (H.length = 1)) = sg at *
 refine zYA fun m D hD=>?_
 unfold yZ
 refine zH fun i3=>?_
 refine vo ?_
 refine zBE [blk i3 (.cells (.int .i64 kind::.int .i64 ix::orV tag t ms).toArray qc (0,0)),blk fb (.cells (zKh rg f.last m).toArray jK (0,0))] ?_
 refine uP ?_
 refine zBM (b:=i3) (off:=2) (l:=.int .i64 kind::.int .i64 ix::orV tag t ms) (l':=orV tag t ms) ?_
 refine jC (b:=fb) (l:=zKh rg f.last m) (x:=rg) ?_
 refine zHV (pre:=qO tag++txL t) (L:=mks) rfl (fun w hw=>hm w hw.drops) (by omega) fun hs=>?_
 rw [hH]
 refine zBC ?_
 refine zOp (L:=H) (by omega) (fun w hw=>(yP (s:=hs) hw).1) ?_
 have back:∀ {X:List zC} {kk:K} [Drops X (blk fb (.cells (zKh rg f.last m).toArray jK (0,0))::xE (kyS qO) (Value.int .i64) m D::Γ)],HG B (zEw fb rg N f::Γ) kk→HG B X kk:=by
  intro X kk d hk
  exact zB (d:=d) (zJx hD hk)
 by_cases hr:rg ∈ H
 rotate_left
 ·rw [decide_eq_false hr]
  refine s_t ?_
  rw [show zDn rg f kind ix tag H sg = (f,false) by unfold zDn; rw [if_pos hr]] at h
  exact back (zQb (by omega) h)
 rw [decide_eq_true hr]
 refine s_f ?_
 refine qI (b:=i3) (off:=2) (l:=.int .i64 kind::.int .i64 ix::orV tag t ms) (l':=orV tag t ms) ?_
 refine zKg (L:=mks) (fun w hw=>hm w hw.drops) (by omega) ?_
 rw [hH,hS]
 have S2:∀ b:Bool,(b = true ↔ kind = 2∧sg = false∧f.last < ix)→¬ (kind = 1∧sg = true)→HG B (blk i3 (.cells (.int .i64 kind::.int .i64 ix::orV tag t ms).toArray qc (0,0))::blk fb (.cells (zKh rg f.last m).toArray jK (0,0))::xE (kyS qO) (Value.int .i64) m D::Γ) (yZ.s2 q ⟨fb,0,none⟩ ⟨i3,0,none⟩ b):=fun b hb hn=>by
  unfold yZ.s2
  cases b
  ·refine s_f ?_
   rw [show zDn rg f kind ix tag H sg = (f,false) by unfold zDn; rw [if_neg (by simp [hr]),if_neg hn,if_neg fun hh=>by have:=hb.2 hh; cases this]] at h
   exact back (zQb (by omega) h)
  ·refine s_t ?_
   rw [show zDn rg f kind ix tag H sg = ({ f with last:=ix },true) by unfold zDn; rw [if_neg (by simp [hr]),if_neg hn,if_pos (hb.1 rfl)]] at h
   refine yB (b:=i3) (off:=1) (l:=.int .i64 kind::.int .i64 ix::orV tag t ms) (x:=ix) ?_
   refine zCB (b:=fb) (l:=zKh rg f.last m) (l':=zKh rg ix m) ?_ rfl rfl
   refine zO m ?_
   refine zO fb ?_
   exact zJx (f:={ f with last:=ix }) (N:=N + 1) ⟨hD.keys,hD.once,fun p hp=>by have:=hD.cnt p hp; omega⟩ (zB h)
 have S1:∀ b:Bool,(b = true ↔ kind = 1∧sg = true)→HG B (blk i3 (.cells (.int .i64 kind::.int .i64 ix::orV tag t ms).toArray qc (0,0))::blk fb (.cells (zKh rg f.last m).toArray jK (0,0))::xE (kyS qO) (Value.int .i64) m D::Γ) (yZ.s1 q ⟨fb,0,none⟩ ⟨i3,0,none⟩ sg b):=fun b hb=>by
  unfold yZ.s1
  cases b
  ·have hn:¬ (kind = 1∧sg = true):=fun hh=>by have:=hb.2 hh; cases this
   refine s_f ?_
   refine vo ?_
   refine yB (b:=i3) (l:=.int .i64 kind::.int .i64 ix::orV tag t ms) (x:=kind) ?_
   refine zF (fun h2=>?_) fun h2=>?_
   ·have hk2:kind = 2:=by simpa using h2
    refine zF (fun h3=>?_) fun h3=>?_
    ·have hs3:sg = false:=by simpa using h3
     refine yB (b:=i3) (off:=1) (l:=.int .i64 kind::.int .i64 ix::orV tag t ms) (x:=ix) ?_
     refine yB (b:=fb) (off:=1) (l:=zKh rg f.last m) (x:=f.last) ?_
     exact S2 _ (by simp [hk2,hs3]) hn
    ·have hs3:sg = true:=by simpa using h3
     exact S2 false (by simp [hs3]) hn
   ·have hk2:kind ≠ 2:=by simpa using h2
    exact S2 false (by simp [hk2]) hn
  ·have hy:=hb.1 rfl
   refine s_t ?_
   refine qI (b:=i3) (off:=2) (l:=.int .i64 kind::.int .i64 ix::orV tag t ms) (l':=qO tag) ?_
   refine back ?_
   refine zSA hN ?_
   rw [show zDn rg f kind ix tag H sg = ({ f with seen:=firstM tag f.seen },!decide (tag ∈ f.seen)) by unfold zDn; rw [if_neg (by simp [hr]),if_pos hy]] at h
   exact h
 refine yB (b:=i3) (l:=.int .i64 kind::.int .i64 ix::orV tag t ms) (x:=kind) ?_
 refine zF (fun h1=>?_) fun h1=>?_
 ·have hk1:kind = 1:=by simpa using h1
  exact zB (S1 sg (by simp [hk1]))
 ·have hk1:kind ≠ 1:=by simpa using h1
  exact zB (S1 false (by simp [hk1]))
end
end
section
open Go Go.Sep Go.Sep.Bt
def zEi (t:TxX):TxX:=⟨t.kind,t.reads,t.writes,t.ops.map fun x=>(x.1,⟨none,0,0⟩),t.to,⟨none,0,0⟩,⟨none,0,0⟩,⟨none,0,0⟩⟩
theorem zH4 (t:TxX):zEk (zEi t) t:=⟨rfl,rfl,rfl,rfl,by simp [zEi,Function.comp_def]⟩
theorem zOq {a b:TxX} (h:zEk a b):zEi a = zEi b:=by
 obtain ⟨h1,h2,h3,h4,h5⟩:=h
 have e:∀ L:List OpX,(L.map fun x=>(x.1,(⟨none,0,0⟩:Sl))) = (L.map Prod.fst).map fun o=>(o,⟨none,0,0⟩):=fun L=>by simp [Function.comp_def]
 unfold zEi
 rw [h1,h2,h3,h4,e,e,h5]
structure zCC where
 tag:y7
 tx:TxX
 mks:List MkX
 need:List Int
structure zBH where
 b:Nat
 tag:y7
 t:TxX
 ms:Sl
 mks:List MkX
 ns:Sl
 need:List Int
def zCa (j:zBH):zCC:=⟨j.tag,zEi j.t,j.mks,j.need⟩
abbrev zNz (j:zBH):List Value:=[.int .i64 j.tag.node,.int .u64 j.tag.epoch,.int .u64 j.tag.seq,.int .i64 j.tag.tr,.int .i64 j.t.kind,j.t.rs.val,j.t.ws.val,j.t.os.val,.int .i64 j.t.to,j.ms.val,j.ns.val]
abbrev zEG (j:zBH):Option Addr:=some ⟨j.b,0,none⟩
abbrev zTJ (j:zBH) (Γ:List zC):List zC:=blk j.b (.cells (zNz j).toArray zJP (0,0))::SlI j.ns j.need::SlC qC 3 j.ms (j.mks.flatMap mkL)::txC j.t Γ
def zFc (j:zBH):zC:=Sep.stars (zTJ j [])
structure zal (n:Nat) (j:zBH):Prop where
 ord:zDy (n:Int) j.tag j.t j.mks
 nn:∀ x ∈ j.t.ops,-9223372036854775808 ≤ x.1.n∧x.1.n ≤ 9223372036854775807
 nl:j.need.length ≤ 1000
structure DcM where
 tag:y7
 code:Int
 out:OM
structure DcX where
 tag:y7
 code:Int
 os:Sl
 O:OX
def zGr (d:DcX):DcM:=⟨d.tag,d.code,d.O.map Prod.fst⟩
abbrev dcF (d:DcX):List Value:=[.int .i64 d.tag.node,.int .u64 d.tag.epoch,.int .u64 d.tag.seq,.int .i64 d.tag.tr,.int .i64 d.code,d.os.val]
theorem zJy (d:DcX):(dcF d).length = 6:=rfl
def dcO (d:DcX):zC:=Sep.stars [SlC yC 2 d.os (d.O.flatMap oF),Sep.stars (d.O.map oB)]
def zIe {α:Type} (p:α→Bool):List α→Option (α×List α)
 | []=>none
 | j::J=>if p j then some (j,J) else (zIe p J).map fun r=>(r.1,j::r.2)
theorem zGR {α:Type} {p:α→Bool}:∀ {J:List α},(∀ y ∈ J,p y = false)→zIe p J = none
 | [],_=>rfl
 | j::J,h=>by
  unfold zIe
  rw [if_neg (by simp [h j List.mem_cons_self]),zGR fun y hy=>h y (List.mem_cons_of_mem _ hy)]
  rfl
theorem zH5 {α:Type} {p:α→Bool} {x:α} {C:List α}:∀ {A:List α},(∀ y ∈ A,p y = false)→p x = true→zIe p (A++x::C) = some (x,A++C)
 | [],_,h=>by simp [zIe,h]
 | j::J,h,h2=>by
  rw [List.cons_append]
  unfold zIe
  rw [if_neg (by simp [h j List.mem_cons_self]),zH5 (fun y hy=>h y (List.mem_cons_of_mem _ hy)) h2]
  rfl
def pick (G:GM×DM) (j:zCC):Bool:=decide (j.need = []) && (G.2 j.tag || zFb j.tag G.1)
def jf (n:Nat):Nat→List zCC→zy→GM×DM→(List zCC×zy×(GM×DM))×List DcM
 | 0,J,M,G=>((J,M,G),[])
 | f + 1,J,M,G=>match zIe (pick G) J with
  | none=>((J,M,G),[])
  | some (j,J')=>((jf n f J' (zFJ n j.tag j.tx M G) (zHU n j.tag j.tx M G)).1,⟨j.tag,zFO n j.tag j.tx M G,zLS n j.tag j.tx M G⟩::(jf n f J' (zFJ n j.tag j.tx M G) (zHU n j.tag j.tx M G)).2)
theorem zSB {α:Type} (p:α→Bool):∀ L:List α,(∀ y ∈ L,p y = false)∨∃ A x C,L = A++x::C∧(∀ y ∈ A,p y = false)∧p x = true
 | []=>.inl (by simp)
 | x::L=>by
  cases hx:p x with
  | true=>exact .inr ⟨[],x,L,rfl,by simp,hx⟩
  | false=>
   rcases zSB p L with h | ⟨A,y,C,h1,h2,h3⟩
   ·refine .inl fun z hz=>?_
    rcases List.mem_cons.1 hz with rfl | hz
    ·exact hx
    ·exact h z hz
   ·refine .inr ⟨x::A,y,C,by rw [h1]; rfl,fun z hz=>?_,h3⟩
    rcases List.mem_cons.1 hz with rfl | hz
    ·exact hx
    ·exact h2 z hz
theorem zcd {α:Type} {p:α→Bool} {A C:List α} {x:α} (hA:∀ y ∈ A,p y = false) (hx:p x = true):zGE ((A++x::C).findIdx? p) = (A.length:Int):=by
 have:(A++x::C).findIdx? p = some A.length:=by
  rw [List.findIdx?_append,List.findIdx?_eq_none_iff.2 hA]
  simp [List.findIdx?_cons,hx]
 rw [this]; rfl
theorem zYB {n:Nat} {g:y7} {a b:TxX} {M:zy} {G:GM×DM} (h:zEk a b):zFJ n g a M G = zFJ n g b M G∧zHU n g a M G = zHU n g b M G∧zFO n g a M G = zFO n g b M G∧zLS n g a M G = zLS n g b M G:=by
 have e:=zKc (n:=n) (M:=M) h
 obtain ⟨h1,h2,h3,h4,h5⟩:=h
 unfold zFJ zHU zFO zLS wrU
 rw [e,h1,h4]
 exact ⟨rfl,rfl,rfl,rfl⟩
theorem zNK {n:Nat}:∀ (W:WM) (M:zy),(jZ n M W).length ≤ M.length + 2 * W.length
 | [],M=>by simp [jZ]
 | x::W,M=>by
  have h1:=zM6 n M x
  have h2:=zNK (n:=n) W (zBj n M x)
  show (jZ n (zBj n M x) W).length ≤ _
  simp only [List.length_cons]; omega
theorem zYC {n:Nat} {rg:Int} {g:y7} {t:TxX} {M:zy} {G:GM×DM} (hrt:xR rg t = true):(zFJ n g t M G).length ≤ M.length + 32:=by
 unfold zFJ
 split
 ·omega
 ·have:=zNK (n:=n) (wrU n M t) M
  have:=(zU1 (n:=n) (M:=M) hrt).1
  omega
section
variable {B:World} {Γ Δ:List zC} {k:K} {sd st l n:Nat} {M:zy} {G:GM×DM} {a b c:Sl} {J:List zBH}
theorem zSC {j:zBH} (h:HG B (zTJ j Γ) k):HG B (zFc j::Γ) k:=zBr h
theorem zJz {j:zBH} (h:HG B (zFc j::Γ) k):HG B (zTJ j Γ) k:=fun w hw=>h w ((Holds.flat (Δ:=zTJ j [])).2 hw)
theorem zbZ {d:DcX} (h:HG B (dcO d::Γ) k):HG B (SlC yC 2 d.os (d.O.flatMap oF)::Sep.stars (d.O.map oB)::Γ) k:=fun w hw=>h w ((Holds.flat (Δ:=[SlC yC 2 d.os (d.O.flatMap oF),Sep.stars (d.O.map oB)])).2 hw)
theorem zH6 {α:Type} {F:α→zC} {A:List α} {x:α} (h:HG B (Sep.stars ((A++[x]).map F)::Γ) k):HG B (F x::Sep.stars (A.map F)::Γ) k:=by
 refine zAb (A:=A) (C:=[]) ?_ |> fun h=>by rw [List.append_nil] at h; exact h
 exact h
abbrev zLT (sd st l n:Nat) (M:zy) (G:GM×DM) (a b c:Sl) (J:List zBH) (Γ:List zC):List zC :=
 blk sd (.cells (sdL st l a b c).toArray qK (0,0))::vX l G.1 G.2::zk st n M::SlC zAD 1 c ((J.map zEG).map Value.pointer)::Sep.stars (J.map zFc)::Γ
abbrev fiJ (b:Nat):Value:=.func (.func 96) #[] #[.pointer (some ⟨b,0,none⟩)]
abbrev woJ (b:Nat):Value:=.func (.func 97) #[] #[.pointer (some ⟨b,0,none⟩)]
theorem zYD {tag:y7} {q:Option Addr→K} (hJ:J.length ≤ 1000000) (hno:(∀ j ∈ J,j.tag ≠ tag)→HG B (zLT sd st l n M G a b c J Γ) (q none)) (hyes:∀ A j C,J = A++j::C→(∀ y ∈ A,y.tag ≠ tag)→j.tag = tag→HG B (zLT sd st l n M G a b c J Γ) (q (zEG j))) :
  HG B (zLT sd st l n M G a b c J Γ) (zAt.call (some ⟨sd,0,none⟩) (qO tag).toArray q):=by
 refine fun w hw=>zIR _ _ _ _ ?_
 refine hg hw ?_
 clear hw w
 refine yS c fun a1 a2 a3 a4=>?_
 rw [List.length_map,List.length_map,Nat.mul_one] at a1
 unfold zAt
 refine zH fun tb=>?_
 refine uP ?_
 refine yB (b:=sd) (off:=4) (l:=sdL st l a b c) (x:=c) ?_
 refine fun w hw=>jd _ _ _ _ ?_
 refine hg hw ?_
 clear hw w
 show HG B _ (zIb Tryz.prog (zXE Value.pointer) c (fiJ tb) _)
 refine zJj (vV:=fun e:zBH=>.pointer (zEG e)) (L:=J) (fun j=>decide (j.tag = tag)) (by omega) (by omega) (fun i x k hx hk=>?_) (fun e q he hq=>?_) ?_
 ·exact zAd (c:=Value.pointer) (fun w hw=>(yP (s:=c) hw).1) (by rw [List.getElem?_map,hx]; rfl) hk
 ·obtain ⟨A,C,rfl⟩:=List.append_of_mem he
  refine zFC (cs:=[.pointer (some ⟨tb,0,none⟩)]) ?_
  refine fun w hw=>zGn _ _ _ _ ?_
  refine hg hw ?_
  clear hw w
  unfold zBq
  refine ze (Sep.stars ((A++e::C).map zFc)) ?_
  refine zFk ?_
  refine zSC ?_
  refine vo ?_
  refine uP ?_
  refine qI (b:=e.b) (l:=zNz e) (l':=qO e.tag) ?_
  refine qI (b:=tb) (l':=qO tag) ?_
  refine zad (xs:=qO e.tag) (ys:=qO tag) (ks:=zbR) (p:=e.tag = tag) zNA ?_
  refine zJz ?_
  refine zAb ?_
  exact zB hq
 ·rcases zSB (fun j:zBH=>decide (j.tag = tag)) J with hn | ⟨A,e,C,rfl,hA,he⟩
  ·rw [List.findIdx?_eq_none_iff.2 hn]
   refine s_t ?_ (by simp [zGE])
   exact zB (hno fun j hj=>by simpa using hn j hj)
  ·rw [zcd hA he]
   refine s_f ?_ (by simp)
   refine yB (b:=sd) (off:=4) (l:=sdL st l a b c) (x:=c) ?_
   refine zAd (c:=Value.pointer) (L:=(A++e::C).map zEG) (j:=A.length) (x:=zEG e) (fun w hw=>(yP (s:=c) hw).1) (by simp) ?_
   exact zB (hyes A e C rfl (fun y hy=>by simpa using hA y hy) (by simpa using he))
theorem zTK {f:Nat} {L:List zCC} (h:∀ y ∈ L,pick G y = false):jf n f L M G = ((L,M,G),[]):=by
 cases f with
 | zero=>rfl
 | succ f=>unfold jf; rw [zGR h]
theorem zTL {f:Nat} {A C:List zCC} {j:zCC} (hA:∀ y ∈ A,pick G y = false) (hj:pick G j = true) :
  jf n (f + 1) (A++j::C) M G = ((jf n f (A++C) (zFJ n j.tag j.tx M G) (zHU n j.tag j.tx M G)).1,⟨j.tag,zFO n j.tag j.tx M G,zLS n j.tag j.tx M G⟩::(jf n f (A++C) (zFJ n j.tag j.tx M G) (zHU n j.tag j.tx M G)).2):=by
 rw [jf,zH5 hA hj]
abbrev s1B (s1 sd:Nat):zC:=blk s1 (.cells [.pointer (some ⟨sd,0,none⟩)].toArray zD2 (0,0))
theorem zZk {s1 T:Nat} {A C:List zBH} {e:zBH} {q:Bool→K} (hsz:SzG T G) (hT:T ≤ 1000000) (hJ:J = A++e::C) (hq:HG B (s1B s1 sd::zLT sd st l n M G a b c J Γ) (q (pick G (zCa e)))) :
  HG B (s1B s1 sd::zLT sd st l n M G a b c J Γ) (xU.call (zEG e) ⟨s1,0,none⟩ q):=by
 refine fun w hw=>zGo _ _ _ _ ?_
 refine hg hw ?_
 clear hw w
 unfold xU xU.s1
 subst hJ
 refine uP ?_
 refine ze (Sep.stars ((A++e::C).map zFc)) ?_
 refine zFk ?_
 refine zSC ?_
 refine yS e.ns fun a1 a2 a3 a4=>?_
 rw [List.length_map,Nat.mul_one] at a1
 have hz:decide ((e.ns.n:Int) = 0) = decide (e.need = []):=by
  rw [← a1]
  cases e.need <;> simp
  omega
 have back:HG B (zTJ e (Sep.stars ((A++C).map zFc)::s1B s1 sd::blk sd (.cells (sdL st l a b c).toArray qK (0,0))::vX l G.1 G.2::zk st n M::SlC zAD 1 c (((A++e::C).map zEG).map Value.pointer)::Γ)) (q (pick G (zCa e))):=by
  refine zJz ?_
  refine zAb ?_
  exact zB hq
 have hpk:pick G (zCa e) = (decide (e.need = []) && (G.2 e.tag || zFb e.tag G.1)):=rfl
 rw [hpk] at back
 refine qI (b:=e.b) (l:=zNz e) (l':=qO e.tag) ?_
 refine zH fun tb=>?_
 refine qA (b:=tb) (l':=qO e.tag) ?_
 refine vo ?_
 refine zBE [blk e.b (.cells (zNz e).toArray zJP (0,0)),blk tb (.cells (qO e.tag).toArray vF (0,0)),s1B s1 sd,blk sd (.cells (sdL st l a b c).toArray qK (0,0))] ?_
 refine jC (b:=e.b) (off:=10) (l:=zNz e) (x:=e.ns) ?_
 rw [hz]
 refine zF (fun h1=>?_) fun h1=>?_
 ·refine jC (b:=s1) (l:=[.pointer (some ⟨sd,0,none⟩)]) (x:=some ⟨sd,0,none⟩) ?_
  refine uP ?_
  refine jC (b:=sd) (off:=1) (l:=sdL st l a b c) (x:=some ⟨l,0,none⟩) ?_
  refine zBM (b:=tb) (l:=qO e.tag) (l':=qO e.tag) ?_
  refine zO l ?_
  refine zOh ?_
  refine zBC ?_
  rw [h1,Bool.true_and] at back
  by_cases hd:G.2 e.tag = true
  ·rw [hd] at back ⊢
   refine s_t ?_
   exact zB back
  ·rw [Bool.eq_false_iff.2 hd] at back ⊢
   refine s_f ?_
   refine jC (b:=s1) (l:=[.pointer (some ⟨sd,0,none⟩)]) (x:=some ⟨sd,0,none⟩) ?_
   refine uP ?_
   refine jC (b:=sd) (off:=1) (l:=sdL st l a b c) (x:=some ⟨l,0,none⟩) ?_
   refine zBM (b:=tb) (l:=qO e.tag) (l':=qO e.tag) ?_
   refine zXu hsz.gsz hT ?_
   rw [Bool.false_or] at back
   exact zB back
 ·rw [h1,Bool.false_and] at back
  exact zB back
theorem zNL {A C:List zBH} {e:zBH}:(A++e::C).map zCa = A.map zCa++zCa e::C.map zCa:=by simp
theorem zZl {T:Nat} {q:Sl→K} (hok:∀ j ∈ J,zal n j) (hsz:SzG T G) (hT:T + J.length ≤ 900000) (hM:M.length + 32 * J.length ≤ 10000000)
  (h:∀ (s:Sl) (D:List DcX) (c':Sl) (J':List zBH),D.map zGr = (jf n J.length (J.map zCa) M G).2→J'.map zCa = (jf n J.length (J.map zCa) M G).1.1→(∀ j ∈ J',j ∈ J)→J'.length + D.length = J.length→(jf n J.length (J.map zCa) M G).1.2.1.length ≤ M.length + 32 * D.length→SzG (T + D.length) (jf n J.length (J.map zCa) M G).1.2.2 →
   HG B (SlC yQ 6 s (D.flatMap dcF)::Sep.stars (D.map dcO)::zLT sd st l n (jf n J.length (J.map zCa) M G).1.2.1 (jf n J.length (J.map zCa) M G).1.2.2 a b c' J' Γ) (q s)) :
  HG B (zLT sd st l n M G a b c J Γ) (xu.call (some ⟨sd,0,none⟩) q):=by
 refine fun w hw=>zIS _ _ _ ?_
 refine hg hw ?_
 clear hw w
 unfold xu
 refine zH fun s1=>?_
 refine fun w hw=>?_
 refine hg (show Holds B (SlC yQ 6 ⟨none,0,0⟩ (([]:List DcX).flatMap dcF)::Sep.stars (([]:List DcX).map dcO)::s1B s1 sd::zLT sd st l n M G a b c J Γ) w from (hw.zCn).zAm _ _) ?_
 clear hw w
 generalize hW:jf n J.length (J.map zCa) M G = W at h
 refine xW (α:=Sl) (ι:=List zBH×zy×(GM×DM)×List DcX×Sl)
  (fun x i=>(∀ j ∈ i.1,j ∈ J)∧i.1.length + i.2.2.2.1.length = J.length∧SzG (T + i.2.2.2.1.length) i.2.2.1∧i.2.1.length ≤ M.length + 32 * i.2.2.2.1.length∧(jf n i.1.length (i.1.map zCa) i.2.1 i.2.2.1).1 = W.1∧i.2.2.2.1.map zGr++(jf n i.1.length (i.1.map zCa) i.2.1 i.2.2.1).2 = W.2)
  (fun x i=>SlC yQ 6 x (i.2.2.2.1.flatMap dcF)::Sep.stars (i.2.2.2.1.map dcO)::s1B s1 sd::zLT sd st l n i.2.1 i.2.2.1 a b i.2.2.2.2 i.1 Γ)
  (fun x i=>i.1.length) (J,M,G,[],c) ⟨fun _ h=>h,by simp,by simpa using hsz,by simp,by rw [hW],by rw [hW]; simp⟩ ?_
 rintro k' o ⟨J1,M1,G1,D1,c1⟩ ⟨i1,i2,i3,i4,i5,i6⟩ hk'
 simp only at i1 i2 i3 i4 i5 i6 hk' ⊢
 refine yS c1 fun a1 a2 a3 a4=>?_
 rw [List.length_map,List.length_map,Nat.mul_one] at a1
 refine yS o fun b1 b2 b3 b4=>?_
 rw [zX _ 6 zJy] at b1
 unfold xu.b1
 refine yB (b:=s1) (l:=[.pointer (some ⟨sd,0,none⟩)]) (x:=some ⟨sd,0,none⟩) ?_
 refine uP ?_
 refine yB (b:=sd) (off:=4) (l:=sdL st l a b c1) (x:=c1) ?_
 refine fun w hw=>jd _ _ _ _ ?_
 refine hg hw ?_
 clear hw w
 show HG B _ (zIb Tryz.prog (zXE Value.pointer) c1 (woJ s1) _)
 refine zJj (vV:=fun e:zBH=>.pointer (zEG e)) (L:=J1) (fun j=>pick G1 (zCa j)) (by omega) (by omega) (fun i x k hx hk=>?_) (fun e q he hq=>?_) ?_
 ·exact zAd (c:=Value.pointer) (fun w hw=>(yP (s:=c1) hw).1) (by rw [List.getElem?_map,hx]; rfl) hk
 ·obtain ⟨A,C,hAC⟩:=List.append_of_mem he
  refine zFC (cs:=[.pointer (some ⟨s1,0,none⟩)]) ?_
  refine ze (Sep.stars (J1.map zFc)) ?_
  refine zw c1 ?_
  refine zO st ?_
  refine zO l ?_
  refine zO sd ?_
  refine zO s1 ?_
  refine zZk (T:=T + D1.length) i3 (by omega) hAC ?_
  exact zB hq
 ·rcases zSB (fun j:zBH=>pick G1 (zCa j)) J1 with hn | ⟨A,e,C,rfl,hA,he⟩
  ·rw [List.findIdx?_eq_none_iff.2 hn]
   refine s_t ?_ (by simp [zGE])
   rw [zTK (fun y hy=>by obtain ⟨z,hz,rfl⟩:=List.mem_map.1 hy; exact hn z hz)] at i5 i6
   simp only [List.append_nil] at i5 i6
   have h1:=h o D1 c1 J1 (by rw [i6]) (by rw [← i5]) i1 i2
   rw [← i5] at h1
   exact zB (h1 i4 i3)
  ·rw [zcd hA he]
   have hlen:(A++e::C).length = A.length + (C.length + 1):=by simp
   have hwf:=zTL (n:=n) (f:=(A++C).length) (A:=A.map zCa) (C:=C.map zCa) (j:=zCa e) (M:=M1) (G:=G1) (fun y hy=>by obtain ⟨z,hz,rfl⟩:=List.mem_map.1 hy; exact hA z hz) he
   rw [← zNL,show (A++C).length + 1 = (A++e::C).length by simp; omega] at hwf
   rw [hwf] at i5 i6
   have hok1:=hok e (i1 e (by simp))
   obtain ⟨e1,e2,e3,e4⟩:=zYB (n:=n) (g:=e.tag) (a:=zEi e.t) (b:=e.t) (M:=M1) (G:=G1) (zH4 e.t)
   simp only [zCa,e1,e2,e3,e4] at i5 i6
   rw [← List.map_append] at i5 i6
   refine s_f ?_ (by simp)
   refine yB (b:=s1) (l:=[.pointer (some ⟨sd,0,none⟩)]) (x:=some ⟨sd,0,none⟩) ?_
   refine uP ?_
   refine yB (b:=sd) (off:=4) (l:=sdL st l a b c1) (x:=c1) ?_
   refine zAd (c:=Value.pointer) (L:=(A++e::C).map zEG) (j:=A.length) (x:=zEG e) (fun w hw=>(yP (s:=c1) hw).1) (by simp) ?_
   refine uP ?_
   refine ze (Sep.stars ((A++e::C).map zFc)) ?_
   refine zFk ?_
   refine zSC ?_
   refine qI (b:=e.b) (l:=zNz e) (l':=orV e.tag e.t e.ms) ?_
   refine zH fun o4=>?_
   refine qA (b:=o4) (l':=orV e.tag e.t e.ms) ?_
   refine vo ?_
   refine zBE [blk s1 (.cells [.pointer (some ⟨sd,0,none⟩)].toArray zD2 (0,0)),blk sd (.cells (sdL st l a b c1).toArray qK (0,0))] ?_
   refine qB ?_
   refine jC (b:=s1) (l:=[.pointer (some ⟨sd,0,none⟩)]) (x:=some ⟨sd,0,none⟩) ?_
   refine jC (b:=s1) (l:=[.pointer (some ⟨sd,0,none⟩)]) (x:=some ⟨sd,0,none⟩) ?_
   refine uP ?_
   refine jC (b:=sd) (off:=4) (l:=sdL st l a b c1) (x:=c1) ?_
   refine fun w hw=>zCN _ _ _ _ _ ?_
   refine hg hw ?_
   clear hw w
   refine (show ∀ (Γ':List zC) (Q':Sl→K),HG B Γ' (zPv Tryz.prog zJ8 0 1 c1 (A.length:Int) ((A.length:Int) + 1) Q')→HG B Γ' (xI c1 (A.length:Int) ((A.length:Int) + 1) Q') from fun _ _ h=>h) _ _ ?_
   refine zOI (s:=c1) (E:=zAD) (i:=A.length) (j:=A.length + 1) (by omega) (by omega) (by omega) (by intro v hv; obtain ⟨y,_,rfl⟩:=List.mem_map.1 hv; rfl) (fun c2 hc2=>?_) (by kernel_rfl)
   rw [show (((A++e::C).map zEG).map Value.pointer).take (A.length * 1)++(((A++e::C).map zEG).map Value.pointer).drop ((A.length + 1) * 1) = ((A++C).map zEG).map Value.pointer by
    rw [Nat.mul_one,Nat.mul_one,← List.map_take,← List.map_take,← List.map_drop,← List.map_drop,List.take_left,show A++e::C = (A++[e])++C by simp,List.drop_left' (by simp)]; simp]
   refine zBC ?_
   refine uP ?_
   refine zCB (b:=sd) (off:=4) (l:=sdL st l a b c1) (l':=sdL st l a b c2) ?_ rfl rfl
   refine vo ?_
   refine zBE [blk s1 (.cells [.pointer (some ⟨sd,0,none⟩)].toArray zD2 (0,0)),blk o4 (.cells (orV e.tag e.t e.ms).toArray zn (0,0))] ?_
   refine zBM (b:=o4) (l:=orV e.tag e.t e.ms) (l':=qO e.tag) ?_
   refine jC (b:=s1) (l:=[.pointer (some ⟨sd,0,none⟩)]) (x:=some ⟨sd,0,none⟩) ?_
   refine zBM (b:=o4) (l:=orV e.tag e.t e.ms) (l':=orV e.tag e.t e.ms) ?_
   refine zO st ?_
   refine zO l ?_
   refine zO sd ?_
   refine zTH (T:=T + D1.length) hok1.ord.1 hok1.nn (fun w hw=>zQV (Γ:=[]) hw.drops) i3 (by omega) (by omega) fun os O hO=>?_
   refine zBC ?_
   refine zP6 (cs:=dcF ⟨e.tag,zFO n e.tag e.t M1 G1,os,O⟩) ?_
   refine zBf (cs:=dcF ⟨e.tag,zFO n e.tag e.t M1 G1,os,O⟩) ?_
   refine zH fun t42=>?_
   refine qN (s:=o) (esz:=6) (us:=dcF ⟨e.tag,zFO n e.tag e.t M1 G1,os,O⟩) (jX rfl) (by simp [yu]) (by simp only; omega) fun o' _=>?_
   rw [show D1.flatMap dcF++dcF ⟨e.tag,zFO n e.tag e.t M1 G1,os,O⟩ = (D1++[(⟨e.tag,zFO n e.tag e.t M1 G1,os,O⟩:DcX)]).flatMap dcF by simp]
   refine zB (Δ:=SlC yC 2 os (O.flatMap oF)::Sep.stars (O.map oB)::Sep.stars (D1.map dcO)::SlC yQ 6 o' ((D1++[(⟨e.tag,zFO n e.tag e.t M1 G1,os,O⟩:DcX)]).flatMap dcF)::s1B s1 sd::zLT sd st l n (zFJ n e.tag e.t M1 G1) (zHU n e.tag e.t M1 G1) a b c2 (A++C) Γ) ?_
   refine zbZ (d:=⟨e.tag,zFO n e.tag e.t M1 G1,os,O⟩) ?_
   refine zH6 ?_
   refine zB (hk' o' (A++C,zFJ n e.tag e.t M1 G1,zHU n e.tag e.t M1 G1,D1++[⟨e.tag,zFO n e.tag e.t M1 G1,os,O⟩],c2) ⟨fun j hj=>i1 j ?_,?_,?_,?_,i5,?_⟩ ?_)
   ·rcases List.mem_append.1 hj with hj | hj
    ·exact List.mem_append_left _ hj
    ·exact List.mem_append_right _ (List.mem_cons_of_mem _ hj)
   ·simp only [List.length_append,List.length_cons,List.length_nil] at i2 ⊢; omega
   ·simp only [List.length_append,List.length_cons,List.length_nil]
    exact zbX i3
   ·have:=zYC (n:=n) (g:=e.tag) (M:=M1) (G:=G1) hok1.ord.1
    simp only [List.length_append,List.length_cons,List.length_nil]; omega
   ·rw [← i6]; simp [zGr,hO]
   ·simp only [List.length_append,List.length_cons]; omega
end
end
end Go.Proofs.YtdemfamgieonbaaGreat
namespace Go.Sep
section
open Go Go.RowKit
section
variable {P:Program} {B:World} {Γ Δ:List zC} {E esz:Nat} {s:Sl} {vs:List Value}
end
end
section
open Go Go.RowKit
section
variable {B:World} {Γ Δ:List zC} {k:K}
theorem zYE (us l:List Value) (off:Nat) (h:off + us.length ≤ l.length):(us.zipIdx off).foldl (fun (c:Array Value) q=>c.setIfInBounds q.2 q.1) l.toArray = (l.take off++us++l.drop (off + us.length)).toArray:=by
 apply Array.ext
 ·rw [fold_size]
  simp; omega
 intro i h1 h2
 rw [fold_size] at h1
 simp only [List.size_toArray] at h1
 have e:∀ (a b:Array Value) (ha:i < a.size) (hb:i < b.size),a[i]? = b[i]?→a[i] = b[i]:=fun a b ha hb hab=>by
  rw [Array.getElem?_eq_getElem ha,Array.getElem?_eq_getElem hb] at hab
  exact Option.some.inj hab
 have e2:∀ L:List Value,L.toArray[i]? = L[i]?:=fun L=>by simp
 apply e
 rw [e2 (l.take off++us++l.drop (off + us.length)),List.append_assoc,List.getElem?_append]
 split
 ·rename_i h3
  simp only [List.length_take] at h3
  rw [zEP _ _ _ _ (by omega),List.getElem?_take,if_pos (by omega),e2 l]
 ·rename_i h3
  simp only [List.length_take] at h3 ⊢
  rw [show min off l.length = off by omega] at h3 ⊢
  rw [List.getElem?_append]
  split
  ·rename_i h4
   have h5:=zLn us off l.toArray (i - off) h4 (by simp only [List.size_toArray]; omega)
   rw [show off + (i - off) = i by omega] at h5
   exact h5
  ·rename_i h4
   rw [zEP _ _ _ _ (by omega),List.getElem?_drop,e2 l,show off + us.length + (i - off - us.length) = i by omega]
theorem zTM {a:Addr} {b off n:Nat} {l us:List Value} {T:TypeId} (l':List Value) (h:HG B (blk b (.cells l'.toArray T (0,0))::Δ) k) [ad:zDa a b off] [p:Own b Γ (blk b (.cells l.toArray T (0,0))) Δ] (hn:us.length = n:=by rfl) (ho:off + n ≤ l.length:=by exact Nat.le_of_ble_eq_true rfl) (hl:l.take off++us++l.drop (off + n) = l':=by rfl)
  (hf:us.all yu = true:=by rfl):HG B Γ (StN a n us.toArray k):=fun w hw=>by
 subst hn
 subst hl
 have h1:=hw.perm p.perm
 have hb:=h1.block
 rw [ad.h]
 refine ⟨_,rfl,by simp,fun i hi=>?_,by simpa using zJR hf,h _ ?_⟩
 ·simp only [List.size_toArray] at hi
  rw [uT]
  have hlt:off + i < l.toArray.size:=by simp only [List.size_toArray]; omega
  exact ⟨⟨_,vE hb (Array.getElem?_eq_getElem hlt)⟩,zA7 hb (by omega)⟩
 ·rw [zBv _ _ _ _ _ hb,Nat.add_zero]
  have:=zYE us l off ho
  simp only at this ⊢
  rw [this]
  exact h1.setBlock rfl
end
end
end Go.Sep
namespace Go.Proofs.YtdemfamgieonbaaGreat
section
open Go Go.Sep Go.Sep.Bt
structure zBS where
 M:zy
 G:GM×DM
 fils:List zNy
 fed:List Int
 jobs:List zCC
def mM (m:MkX):zET:=⟨m.key,m.home,m.cnt⟩
theorem zZm (L:List MkX):(L.map mM).flatMap zRw = L.flatMap mkL:=by
 rw [List.flatMap_map]; rfl
def zHW (tag:y7) (r:Int):List zCC→List zCC
 | []=>[]
 | j::J=>if j.tag = tag then { j with need:=j.need.filter fun h=>!decide (h = r) }::J else j::zHW tag r J
def zFd (n:Nat) (S:zBS):zBS×List DcM :=
 (⟨(jf n S.jobs.length S.jobs S.M S.G).1.2.1,(jf n S.jobs.length S.jobs S.M S.G).1.2.2,S.fils,S.fed,(jf n S.jobs.length S.jobs S.M S.G).1.1⟩,(jf n S.jobs.length S.jobs S.M S.G).2)
def zEJ (kind r:Int) (mks:List MkX):List MkX:=if kind = 2 then mks.filter fun m=>decide (m.home = r) else mks
abbrev zVy (t:TxX) (mks:List MkX):Bool:=decide (t.kind = 1) && decide ((xX mks).length = 1)
abbrev zFV (r kind ix:Int) (tag:y7) (t:TxX) (mks:List MkX) (S:zBS):zNy×Bool:=zDn r (S.fils.getD r.toNat ⟨-1,[]⟩) kind ix tag (xX mks) (zVy t mks)
abbrev zKi (r kind ix:Int) (tag:y7) (t:TxX) (mks:List MkX) (S:zBS):zBS :=
 ⟨S.M,S.G,S.fils.set r.toNat (zFV r kind ix tag t mks S).1,S.fed.set r.toNat (S.fed.getD r.toNat 0 + 1),S.jobs⟩
abbrev zNM (n:Nat) (r kind:Int) (tag:y7) (mks:List MkX) (J:List zCC) (S:zBS):zBS :=
 ⟨S.M,zAh n S.M tag ((zEJ kind r mks).map mM) S.G,S.fils,S.fed,zHW tag r J⟩
def zNN (n:Nat) (r kind ix:Int) (tag:y7) (t:TxX) (mks:List MkX) (S:zBS):zBS×List DcM :=
 if (zFV r kind ix tag t mks S).2 = false then (zKi r kind ix tag t mks S,[]) else
 if (∃ j ∈ S.jobs,j.tag = tag) then
  if kind = 1 then zFd n (zKi r kind ix tag t mks S) else zFd n (zNM n r kind tag mks S.jobs (zKi r kind ix tag t mks S))
 else zFd n (zNM n r kind tag mks (S.jobs++[⟨tag,zEi t,mks,xX mks⟩]) (zKi r kind ix tag t mks S))
abbrev zI2 (n:Nat) (r kind ix:Int) (tag:y7) (t:TxX) (mks:List MkX):Prop:=zGM kind ix∧zDy 3 tag t mks∧(0 ≤ r∧r < n)∧zDy (n:Int) tag t mks
def zBn (n:Nat) (r kind ix:Int) (tag:y7) (t:TxX) (mks:List MkX) (S:zBS):zBS×List DcM :=
 if zI2 n r kind ix tag t mks then zNN n r kind ix tag t mks S else (S,[])
structure FX where
 b:Nat
 rg:Int
 f:zNy
abbrev zKj (x:FX):Option Addr:=some ⟨x.b,0,none⟩
def zGs (N:Nat) (x:FX):zC:=zEw x.b x.rg N x.f
structure zF5 (n T:Nat) (S:zBS) (F:List FX) (J:List zBH):Prop where
 n1:1 ≤ n
 n3:n ≤ 3
 fils:F.map FX.f = S.fils
 rgs:F.map FX.rg = (List.range n).map fun i:Nat=>(i:Int)
 fedl:S.fed.length = n
 fedr:∀ x ∈ S.fed,0 ≤ x∧x ≤ T
 jobs:J.map zCa = S.jobs
 ok:∀ j ∈ J,zal n j
 jl:J.length ≤ T
 gz:∃ K,SzG K S.G∧K + J.length ≤ 40 * T
 ml:S.M.length + 32 * J.length ≤ 40 * T
abbrev zFK (sd st l n T:Nat) (S:zBS) (a b c:Sl) (F:List FX) (J:List zBH) (Γ:List zC):List zC :=
 zLT sd st l n S.M S.G a b c J (SlC jF 1 a ((F.map zKj).map Value.pointer)::Sep.stars (F.map (zGs T))::SlI b S.fed::Γ)
def zA2 (sd n T:Nat) (S:zBS):zC:=ex fun st=>ex fun l=>ex fun a:Sl=>ex fun b:Sl=>ex fun c:Sl=>ex fun F:List FX=>ex fun J:List zBH=>Sep.stars (pur (zF5 n T S F J)::zFK sd st l n T S a b c F J [])
section
variable {B:World} {Γ Δ:List zC} {k:K} {sd st l n T:Nat} {S:zBS} {a b c:Sl} {F:List FX} {J:List zBH} {t:TxX} {mks:List MkX} {ms:Sl} {tag:y7}
instance (priority:=high) zc3:Sep.Own sd (zA2 sd n T S::Γ) (zA2 sd n T S) Γ:=⟨.refl _⟩
theorem zJ0 (h:∀ st l a b c F J,zF5 n T S F J→HG B (zFK sd st l n T S a b c F J Γ) k):HG B (zA2 sd n T S::Γ) k :=
 zDI fun st=>zDI fun l=>zDI fun a=>zDI fun b=>zDI fun c=>zDI fun F=>zDI fun J=>zBr <| zGd fun h1=>h st l a b c F J h1
theorem zDE (h1:zF5 n T S F J) (h:HG B (zA2 sd n T S::Γ) k):HG B (zFK sd st l n T S a b c F J Γ) k:=fun w hw=>by
 refine h w ?_
 have h3:Holds B (Sep.stars (pur (zF5 n T S F J)::zFK sd st l n T S a b c F J [])::Γ) w:=Holds.flat.2 (Holds.pur.2 ⟨h1,hw⟩)
 exact h3.imp fun g hg=>⟨st,l,a,b,c,F,J,hg⟩
theorem zTN {s:Sl} {L:List MkX} {Q:Sl→K} (hr:∀ w,Holds B Γ w→RdC w s 3 (L.flatMap mkL)) (hl:L.length ≤ 20000000) (h:∀ s',HG B (SlC qC 3 s' (L.flatMap mkL)::Γ) (Q s')):HG B Γ (q9.call s Q):=by
 refine fun w hw=>zCy _ _ _ ?_
 refine hg hw ?_
 clear hw w
 unfold q9
 exact zGC (us:=L.flatMap mkL) hr (zX3 _) (by rw [zX _ 3 zCZ]; omega) (by omega) fun s' _=>h s'
theorem zK9 {Q:Array Value→K} (hr:∀ w,Holds B Γ w→zCX w t) (hm:∀ w,Holds B Γ w→RdC w ms 3 (mks.flatMap mkL)) (hl:t.reads.length ≤ 1000∧t.writes.length ≤ 1000∧t.ops.length ≤ 1000∧∀ x ∈ t.ops,x.1.val.length ≤ 1000000) (hml:mks.length ≤ 1000)
  (h:∀ t' ms',zVq t' t→HG B (SlC qC 3 ms' (mks.flatMap mkL)::txC t' Γ) (Q (orV tag t' ms').toArray)):HG B Γ (zDG.call (orV tag t ms).toArray Q):=by
 refine fun w hw=>zNr _ _ _ ?_
 refine hg hw ?_
 clear hw w
 unfold zDG
 refine zH fun o1=>?_
 refine zH fun t2=>?_
 repeat refine zT ?_
 refine zUx (t:=t) (fun w hw=>hr w hw.drops) hl fun t' ht'=>?_
 repeat refine zT ?_
 refine zTN (L:=mks) (fun w hw=>hm w hw.drops) (by omega) fun ms'=>?_
 refine zTM (b:=o1) (off:=4) (us:=txL t') (orV tag t' ms) ?_
 repeat refine zT ?_
 exact zB (h t' ms' ht')
theorem zTO {s:Sl} {L:List Int} {rb:Nat} {r:Int} {Q:Sl→K} (hL:L.length < 1000000000) (h:∀ s',HG B (SlI s' (L.filter fun x=>!decide (x = r))::Γ) (Q s')) [p:Sep.Own rb Γ (blk rb (.cells [.int .i64 r].toArray zBJ (0,0))) Δ] :
  HG B (SlI s L::Γ) (yV.call s (.func (.func 61) #[] #[.pointer (some ⟨rb,0,none⟩)]) Q):=by
 refine fun w hw=>zD9 _ _ _ _ ?_
 refine hg hw ?_
 clear hw w
 show HG B _ (zXG Tryz.prog qx.call zRD 0 (Value.int .i64) s (.func (.func 61) #[] #[.pointer (some ⟨rb,0,none⟩)]) Q)
 refine zZU (R:=fun _=>Γ) (L:=L) (c:=Value.int .i64) (fun (_:Unit) x=>decide (x = r)) (fun _ _=>()) () (fun _ _=>True) trivial (fun _ _ _ _=>trivial) (fun s fv Q w h=>zER _ _ _ _ h) (fun _=>rfl) hL (fun Ξ g x C q _ _ hq=>?_) fun s' _=>?_
 ·refine zFC (cs:=[.pointer (some ⟨rb,0,none⟩)]) ?_
  refine fun w hw=>zGm _ _ _ _ ?_
  refine hg hw ?_
  clear hw w
  unfold zBp
  refine yB (b:=rb) (l:=[.int .i64 r]) (x:=r) ?_
  exact hq
 ·rw [zKJ]
  exact h s'
theorem zZn {r:Int} {Q:Sl→K} (hm:∀ w,Holds B Γ w→RdC w ms 3 (mks.flatMap mkL)) (hml:mks.length ≤ 1000) (h:∀ s,HG B (SlC qC 3 s ((mks.filter fun m=>decide (m.home = r)).flatMap mkL)::Γ) (Q s)):HG B Γ (jH.call (orV tag t ms).toArray r Q):=by
 refine fun w hw=>zNv _ _ _ _ ?_
 have hmn:ms.n = mks.length:=zA3 zCZ (by omega) (hm w hw)
 refine hg (show Holds B (SlC qC 3 ⟨none,0,0⟩ []::Γ) w from hw.zAm _ _) ?_
 clear hw w
 unfold jH
 refine zH fun o2=>?_
 refine yB (b:=o2) (off:=9) (l:=orV tag t ms) (x:=ms) ?_
 refine xW (α:=Sl×Int) (ι:=Nat) (fun x i=>x.2 = (i:Int)∧i ≤ mks.length) (fun x i=>blk o2 (.cells (orV tag t ms).toArray zn (0,0))::SlC qC 3 x.1 (((mks.take i).filter fun m=>decide (m.home = r)).flatMap mkL)::Γ) (fun x i=>mks.length - i) 0 ⟨rfl,Nat.zero_le _⟩ ?_
 rintro k' ⟨o,_⟩ i ⟨rfl,hi⟩ hk'
 simp only at hi hk' ⊢
 unfold jH.b1
 refine zF (fun hb=>?_) fun hb=>?_
 ·have hil:i < mks.length:=by simp only [decide_eq_true_eq] at hb; omega
  have hge:mks[i]? = some mks[i]:=List.getElem?_eq_getElem hil
  have htk:mks.take (i + 1) = mks.take i++[mks[i]]:=List.take_succ_eq_append_getElem hil
  generalize mks[i] = m at hge htk
  refine yS o fun a1 a2 a3 a4=>?_
  rw [zX _ 3 zCZ] at a1
  have hfl:((mks.take i).filter fun m=>decide (m.home = r)).length ≤ 1000:=by
   have:=List.length_filter_le (fun m:MkX=>decide (m.home = r)) (mks.take i)
   rw [List.length_take] at this
   omega
  refine zAc mkL zCZ (fun w hw=>hm w hw.tail.tail) hge ?_
  refine zH fun m6=>?_
  refine qA (b:=m6) (l':=mkL m) ?_
  refine yB (b:=m6) (off:=1) (l:=mkL m) (x:=m.home) ?_
  unfold jH.s2
  refine zF (fun hc=>?_) fun hc=>?_
  ·refine qI (b:=m6) (l:=mkL m) (l':=mkL m) ?_
   refine zBf (cs:=mkL m) ?_
   refine zH fun t20=>?_
   refine qN (s:=o) (esz:=3) (us:=mkL m) (jX rfl) (by simp [yu]) (by simp only; omega) fun o' _=>?_
   refine qB ?_
   rw [show ((mks.take i).filter fun m=>decide (m.home = r)).flatMap mkL++mkL m = ((mks.take (i + 1)).filter fun m=>decide (m.home = r)).flatMap mkL by rw [htk,List.filter_append]; simp [show m.home = r by simpa using hc]]
   exact zB (hk' (o',(i:Int) + 1) (i + 1) ⟨by simp,hil⟩ (by omega))
  ·refine qB ?_
   rw [show (mks.take i).filter (fun m=>decide (m.home = r)) = (mks.take (i + 1)).filter fun m=>decide (m.home = r) by rw [htk,List.filter_append]; simp [show ¬ m.home = r by simpa using hc]]
   exact zB (hk' (o,(i:Int) + 1) (i + 1) ⟨by simp,hil⟩ (by omega))
 ·have hil:i = mks.length:=by simp only [decide_eq_false_iff_not] at hb; omega
  rw [hil,List.take_length]
  exact zB (h o)
theorem zSD {r:Int} {L:List Int} {q:Bool→K} (hL:L.length = n) (h:HG B (blk sd (.cells (sdL st l a b c).toArray qK (0,0))::SlI b L::Γ) (q (decide (0 ≤ r∧r < n)))):HG B (blk sd (.cells (sdL st l a b c).toArray qK (0,0))::SlI b L::Γ) (xS.call (some ⟨sd,0,none⟩) r q):=by
 refine fun w hw=>zHS _ _ _ _ ?_
 refine hg hw ?_
 clear hw w
 refine yS b fun a1 a2 a3 a4=>?_
 rw [List.length_map,Nat.mul_one] at a1
 unfold xS xS.s1
 refine zF (fun h1=>?_) fun h1=>?_
 ·have h1':0 ≤ r:=by simpa using h1
  refine uP ?_
  refine yB (b:=sd) (off:=3) (l:=sdL st l a b c) (x:=b) ?_
  rw [← a1,hL,show decide (r < (n:Int)) = decide (0 ≤ r∧r < n) by simp [h1']]
  exact h
 ·have h1':¬ 0 ≤ r:=by simpa using h1
  rw [show decide (0 ≤ r∧r < n) = false by simp [h1']] at h
  exact h
theorem zOr {α:Type} {F G:α→zC}:∀ {L:List α} {Γ:List zC} {k:K},(∀ x ∈ L,∀ (Γ':List zC) (k':K),HG B (G x::Γ') k'→HG B (F x::Γ') k')→HG B (Sep.stars (L.map G)::Γ) k→HG B (Sep.stars (L.map F)::Γ) k
 | [],Γ,k,_,h=>h
 | x::L,Γ,k,h1,h=>by
  refine zBr (Δ:=F x::L.map F) ?_
  refine h1 x List.mem_cons_self _ _ ?_
  refine fun w hw=>?_
  refine (zOr (F:=F) (G:=G) (L:=L) (Γ:=G x::Γ) (fun y hy=>h1 y (List.mem_cons_of_mem _ hy)) ?_) w (Holds.flat.2 (hw.perm List.perm_middle.symm))
  exact fun w hw=>h w (Holds.flat.2 ((Holds.flat.1 hw).perm List.perm_middle))
theorem zU2 {L:List FX} {N N':Nat} (hN:N ≤ N') (h:HG B (Sep.stars (L.map (zGs N'))::Γ) k):HG B (Sep.stars (L.map (zGs N))::Γ) k :=
 zOr (fun x _ Γ' k' h=>zQb hN h) h
end
end
section
open Go Go.Sep Go.Sep.Bt
theorem zGS {L:List MkX} (h:L ≠ []) {x:Int}:x ∈ xX L ↔ ∃ m ∈ L,m.home = x:=by
 unfold xX
 rw [zHv,(List.mergeSort_perm _ _).mem_iff,if_neg (by simpa using h)]
 exact List.mem_map
theorem zNO:xX [] = [0]:=by unfold xX zEU; simp [uR]
theorem zVz (L:List MkX):xX L ≠ []:=by
 by_cases h:L = []
 ·rw [h,zNO]; simp
 ·obtain ⟨m,hm⟩:=List.exists_mem_of_ne_nil _ h
  exact List.ne_nil_of_mem ((zGS h).2 ⟨m,hm,rfl⟩)
def GOk (g:y7) (G:GM×DM):Prop:=(∀ p ∈ G.1,(∀ c ∈ p.2.1,c.1 = g)∧p.2.2 = [])∧G.2 g = false
theorem zSE {g:y7} {k:TX} {M:GM} (h:∀ p ∈ M,(∀ c ∈ p.2.1,c.1 = g)∧p.2.2 = []):∀ p ∈ zAz k M,(∀ c ∈ p.2.1,c.1 = g)∧p.2.2 = []:=fun p hp=>by
 unfold zAz at hp
 split at hp
 ·rcases List.mem_append.1 hp with hp | hp
  ·exact h p hp
  ·rw [List.mem_singleton.1 hp]; simp
 ·exact h p hp
theorem zba {g:y7} {k:TX} {M:GM} (h:∀ p ∈ M,(∀ c ∈ p.2.1,c.1 = g)∧p.2.2 = []):(∀ c ∈ (atM k M).1,c.1 = g)∧(atM k M).2 = []:=by
 unfold atM
 rcases zFs k M with ⟨h1,_⟩ | ⟨j,v,_,h0,_,h1,_⟩
 ·rw [h1]; simp
 ·rw [h1]; exact h _ (List.mem_of_getElem? h0)
theorem zTP {n:Nat} {R:zy} {g:y7} {x:GM×DM} {m:zET} (h:GOk g x) (h0:q8 n R m = 0):GOk g (zBP n R g x m):=by
 obtain ⟨h1,h2⟩:=h
 unfold zBP
 split
 ·exact ⟨zSE h1,h2⟩
 ·try rw [if_pos h0]
  refine ⟨fun p hp=>?_,h2⟩
  rcases zNB hp with rfl | hp
  ·obtain ⟨a1,a2⟩:=zba (k:=m.key) h1
   refine ⟨fun c hc=>?_,a2⟩
   rcases List.mem_append.1 hc with hc | hc
   ·exact a1 c hc
   ·rw [List.mem_singleton.1 hc]
  ·exact zSE h1 p hp
theorem zNP {n:Nat} {R:zy} {g:y7}:∀ (L:List zET) {x:GM×DM},(∀ m ∈ L,q8 n R m = 0)→GOk g x→GOk g (zAh n R g L x)
 | [],x,_,h=>h
 | m::L,x,h0,h=>zNP L (fun m hm=>h0 m (List.mem_cons_of_mem _ hm)) (zTP h (h0 m List.mem_cons_self))
theorem zV0 {g:y7} {G:GM×DM} (h:GOk g G):zFb g G.1 = true:=by
 unfold zFb
 rw [List.all_eq_true]
 intro p hp
 obtain ⟨h1,h2⟩:=h.1 p hp
 unfold zGL
 rw [h2]
 cases hl:p.2.1 with
 | nil=>simp [zHP,zGE]
 | cons c L=>
  have hc:c.1 = g:=h1 c (by rw [hl]; exact List.mem_cons_self)
  simp [zHP,List.findIdx?_cons,hc,zGE]
theorem zV1 {n:Nat} {j:zCC} {M:zy} {G:GM×DM} (h:pick G j = true):jf n 1 [j] M G = (([],zFJ n j.tag j.tx M G,zHU n j.tag j.tx M G),[⟨j.tag,zFO n j.tag j.tx M G,zLS n j.tag j.tx M G⟩]):=by
 simp [jf,zIe,h]
theorem zTQ {n:Nat} {j:zCC} {M:zy} {G:GM×DM} (h:pick G j = false):jf n 1 [j] M G = (([j],M,G),[]):=by
 simp [jf,zIe,h]
structure PW (n:Nat) (ix:Int) (g:y7) (t:TxX) (mks:List MkX) (rest:List Int) (S:zBS):Prop where
 M:S.M = []
 G:GOk g S.G
 fl:S.fils.length = n
 fils:∀ r ∈ rest,(S.fils.getD r.toNat ⟨-1,[]⟩).last < ix
 sub:∀ r ∈ rest,r ∈ xX mks
 jobs:S.jobs = []∧rest = xX mks∨S.jobs = [⟨g,zEi t,mks,rest⟩]
theorem zNQ {n:Nat} {ix:Int} {g:y7} {t:TxX} {mks:List MkX} {rest:List Int} {S:zBS} {r:Int} (hok:∀ r ∈ xX mks,zI2 n r 2 ix g t mks) (hs:zVy t mks = false) (hfit:∀ m ∈ mks,q8 n [] (mM m) = 0) (hp:PW n ix g t mks rest S) (hr:r ∈ rest) :
  ((rest.filter fun h=>!decide (h = r)) ≠ []→(zBn n r 2 ix g t mks S).2 = []∧PW n ix g t mks (rest.filter fun h=>!decide (h = r)) (zBn n r 2 ix g t mks S).1∧(zBn n r 2 ix g t mks S).1.jobs.length = 1) ∧
  ((rest.filter fun h=>!decide (h = r)) = []→∃ G',GOk g G'∧(zBn n r 2 ix g t mks S).2 = [⟨g,zFO n g (zEi t) [] G',zLS n g (zEi t) [] G'⟩]∧(zBn n r 2 ix g t mks S).1.jobs = []):=by
 have hrh:=hp.sub r hr
 have hin:zFV r 2 ix g t mks S = ({ (S.fils.getD r.toNat ⟨-1,[]⟩) with last:=ix },true):=by
  unfold zFV zDn
  rw [if_neg (by simpa using hrh),if_neg (by simp),if_pos ⟨rfl,hs,hp.fils r hr⟩]
 have hS:zBn n r 2 ix g t mks S = zFd n ⟨[],zAh n [] g ((mks.filter fun m=>decide (m.home = r)).map mM) S.G,S.fils.set r.toNat { (S.fils.getD r.toNat ⟨-1,[]⟩) with last:=ix },S.fed.set r.toNat (S.fed.getD r.toNat 0 + 1),[⟨g,zEi t,mks,rest.filter fun h=>!decide (h = r)⟩]⟩:=by
  unfold zBn
  rw [if_pos (hok r hrh)]
  unfold zNN
  rw [hin,if_neg (by simp)]
  rcases hp.jobs with ⟨h1,h2⟩ | h1
  ·rw [if_neg (by rw [h1]; simp)]
   simp only [zNM,zKi,hin,h1,List.nil_append,zHW,if_true,zEJ,hp.M,← h2]
  ·rw [if_pos (by rw [h1]; exact ⟨_,List.mem_cons_self,rfl⟩),if_neg (by omega)]
   simp only [zNM,zKi,hin,h1,zHW,if_true,zEJ,hp.M]
 rw [hS]
 have hG':GOk g (zAh n [] g ((mks.filter fun m=>decide (m.home = r)).map mM) S.G):=zNP _ (fun m hm=>by
  obtain ⟨x,hx,rfl⟩:=List.mem_map.1 hm
  exact hfit x (List.mem_filter.1 hx).1) hp.G
 have hrn:=(hok r hrh).2.2.1
 refine ⟨fun hne=>?_,fun he=>?_⟩
 ·unfold zFd
  simp only [List.length_cons,List.length_nil]
  rw [show (0 + 1:Nat) = 1 from rfl,zTQ (by unfold pick; simp only; rw [decide_eq_false hne]; rfl)]
  refine ⟨rfl,⟨rfl,hG',by simpa using hp.fl,fun r' hr'=>?_,fun r' hr'=>hp.sub r' (List.mem_filter.1 hr').1,.inr rfl⟩,rfl⟩
  obtain ⟨h1,h2⟩:=List.mem_filter.1 hr'
  have h3:r' ≠ r:=by simpa using h2
  have hrn':=(hok r' (hp.sub r' h1)).2.2.1
  have h4:=hp.fils r' h1
  simp only
  rw [List.getD_eq_getElem?_getD,List.getElem?_set_ne (by omega),← List.getD_eq_getElem?_getD]
  exact h4
 ·unfold zFd
  simp only [List.length_cons,List.length_nil]
  rw [he,show (0 + 1:Nat) = 1 from rfl,zV1 (by unfold pick; simp only; rw [zV0 hG']; simp)]
  exact ⟨_,hG',rfl,rfl⟩
theorem zZo {n:Nat} {ks:List TX}:∀ m ∈ zCS n [] ks,q8 n [] (mM m) = 0:=fun m hm=>by
 obtain ⟨k,_,rfl⟩:=List.mem_map.1 hm
 unfold q8 mM zC5
 simp
end
section
open Go Go.Sep Go.Sep.Bt
theorem zOs {α β:Type} {f:α→β}:∀ {L:List α},(L.map f).Nodup→∀ {a b:α},a ∈ L→b ∈ L→f a = f b→a = b
 | [],_,a,b,h,_,_=>by cases h
 | x::L,hn,a,b,ha,hb,e=>by
  have h1:=List.nodup_cons.1 (show (f x::L.map f).Nodup from hn)
  rcases List.mem_cons.1 ha with e1 | ha1
  ·rcases List.mem_cons.1 hb with e2 | hb1
   ·rw [e1,e2]
   ·exact absurd (List.mem_map.2 ⟨b,hb1,by rw [← e,e1]⟩) h1.1
  ·rcases List.mem_cons.1 hb with e2 | hb1
   ·exact absurd (List.mem_map.2 ⟨a,ha1,by rw [e,e2]⟩) h1.1
   ·exact zOs h1.2 ha1 hb1 e
theorem zAY {k k':List UInt8} {X:GM}:atM k' (zAz k X) = atM k' X:=by
 unfold zAz
 split
 ·rename_i h
  have h':y8 k X = none:=by simpa using h
  rw [← zFv (v:=([],[])) h']
  unfold atM
  rw [zBh]
  split
  ·rename_i e; subst e; rw [h']; rfl
  ·rfl
 ·rfl
theorem zCT {k k':List UInt8} {v:List Claim×List Claim} {X:GM}:atM k' (vS k v X) = if k' = k then v else atM k' X:=by
 unfold atM
 rw [zBh]
 split <;> rfl
theorem zOt {ν μ:Type} {f:ν→μ} {k:List UInt8}:∀ {X:List (List UInt8×ν)},y8 k (X.map fun p=>(p.1,f p.2)) = (y8 k X).map f
 | []=>rfl
 | p::X=>by
  simp only [List.map_cons,y8]
  split
  ·rfl
  ·exact zOt
theorem zKk {g:y7} {k:List UInt8} {G:GM×DM}:atM k (vW g G).1 = (noT g (atM k G.1).1,noT g (atM k G.1).2):=by
 unfold vW atM
 simp only
 rw [zOt (f:=fun v:List Claim×List Claim=>(noT g v.1,noT g v.2))]
 cases y8 k G.1 <;> rfl
structure zIU (mk:y7→List MkX) (M:zy) (G:GM×DM):Prop where
 line:∀ k,∀ c ∈ (atM k G.1).1,c.2.key = k∧(∃ m ∈ mk c.1,mM m = c.2)∧(G.2 c.1 = true∨q8 3 M c.2 = 0)
 park:∀ k,∀ c ∈ (atM k G.1).2,c.2.key = k∧(∃ m ∈ mk c.1,mM m = c.2)∧(G.2 c.1 = true∨q8 3 M c.2 = 1)
 doom:∀ g,G.2 g = true→∃ m ∈ mk g,q8 3 M (mM m) = 2
def Plc (G:GM×DM) (g:y7) (m:MkX):Prop:=G.2 g = true∨(g,mM m) ∈ (atM m.key G.1).1∨(g,mM m) ∈ (atM m.key G.1).2
theorem zIU.start {mk:y7→List MkX} {M:zy} {d:DM} (h:∀ g,d g = false):zIU mk M ([],d):=⟨fun k c hc=>by simp [atM,y8] at hc,fun k c hc=>by simp [atM,y8] at hc,fun g hg=>by have h1:d g = true:=hg; rw [h g] at h1; cases h1⟩
section
variable {mk:y7→List MkX} {M M':zy} {G:GM×DM} {g:y7}
theorem zNR {L:List Claim}:zHP g L = true ↔ ∃ c ∈ L,c.1 = g:=by simp [zHP]
theorem zTR (hk:∀ g,((mk g).map MkX.key).Nodup) {m:MkX} (hm:m ∈ mk g) (h:zIU mk M G) :
  zIU mk M (zBP 3 M g G (mM m))∧Plc (zBP 3 M g G (mM m)) g m∧∀ g' m',Plc G g' m'→Plc (zBP 3 M g G (mM m)) g' m':=by
 obtain ⟨X,d⟩:=G
 unfold zBP
 by_cases h1:(zHP g (atM (mM m).key X).1 || zHP g (atM (mM m).key X).2) = true
 ·rw [if_pos h1]
  refine ⟨⟨fun k c hc=>?_,fun k c hc=>?_,h.doom⟩,?_,fun g' m' hp=>?_⟩
  ·rw [zAY] at hc; exact h.line k c hc
  ·rw [zAY] at hc; exact h.park k c hc
  ·rw [Bool.or_eq_true] at h1
   unfold Plc
   simp only [zAY]
   have same:∀ {c:Claim},c.2.key = m.key→(∃ m' ∈ mk c.1,mM m' = c.2)→c.1 = g→c = (g,mM m):=fun {c} h2 h3 h4=>by
    obtain ⟨m',h5,h6⟩:=h3
    obtain ⟨c1,c2⟩:=c
    simp only at h2 h5 h6 h4
    subst h4 h6
    rw [zOs (hk c1) h5 hm h2]
   rcases h1 with h1 | h1
   ·obtain ⟨c,hc,e⟩:=zNR.1 h1
    obtain ⟨h2,h3,_⟩:=h.line _ c hc
    rw [same h2 h3 e] at hc
    exact .inr (.inl hc)
   ·obtain ⟨c,hc,e⟩:=zNR.1 h1
    obtain ⟨h2,h3,_⟩:=h.park _ c hc
    rw [same h2 h3 e] at hc
    exact .inr (.inr hc)
  ·unfold Plc at hp ⊢
   simp only [zAY]; exact hp
 rw [if_neg h1]
 by_cases h2:q8 3 M (mM m) = 0
 ·rw [if_pos h2]
  refine ⟨⟨fun k c hc=>?_,fun k c hc=>?_,h.doom⟩,?_,fun g' m' hp=>?_⟩
  ·simp only [zCT,zAY] at hc
   split at hc
   ·rename_i e; subst e
    rcases List.mem_append.1 hc with hc | hc
    ·exact h.line _ c hc
    ·rw [List.mem_singleton.1 hc]; exact ⟨rfl,⟨m,hm,rfl⟩,.inr h2⟩
   ·exact h.line k c hc
  ·simp only [zCT,zAY] at hc
   split at hc
   ·rename_i e; subst e; exact h.park _ c hc
   ·exact h.park k c hc
  ·refine .inr (.inl ?_)
   simp only [zCT]
   rw [if_pos (show m.key = (mM m).key from rfl)]
   simp
  ·unfold Plc at hp ⊢
   simp only [zCT,zAY]
   rcases hp with hp | hp | hp
   ·exact .inl hp
   ·refine .inr (.inl ?_)
    split
    ·rename_i e; rw [← e]; exact List.mem_append_left _ hp
    ·exact hp
   ·refine .inr (.inr ?_)
    split
    ·rename_i e; rw [← e]; exact hp
    ·exact hp
 rw [if_neg h2]
 by_cases h3:q8 3 M (mM m) = 1
 ·rw [if_pos h3]
  refine ⟨⟨fun k c hc=>?_,fun k c hc=>?_,h.doom⟩,?_,fun g' m' hp=>?_⟩
  ·simp only [zCT,zAY] at hc
   split at hc
   ·rename_i e; subst e; exact h.line _ c hc
   ·exact h.line k c hc
  ·simp only [zCT,zAY] at hc
   split at hc
   ·rename_i e; subst e
    rcases List.mem_append.1 hc with hc | hc
    ·exact h.park _ c hc
    ·rw [List.mem_singleton.1 hc]; exact ⟨rfl,⟨m,hm,rfl⟩,.inr h3⟩
   ·exact h.park k c hc
  ·refine .inr (.inr ?_)
   simp only [zCT]
   rw [if_pos (show m.key = (mM m).key from rfl)]
   simp
  ·unfold Plc at hp ⊢
   simp only [zCT,zAY]
   rcases hp with hp | hp | hp
   ·exact .inl hp
   ·refine .inr (.inl ?_)
    split
    ·rename_i e; rw [← e]; exact hp
    ·exact hp
   ·refine .inr (.inr ?_)
    split
    ·rename_i e; rw [← e]; exact List.mem_append_left _ hp
    ·exact hp
 rw [if_neg h3]
 have h4:q8 3 M (mM m) = 2:=by
  rcases zQS (zx 3 M (bs (mM m).key)).cnt (mM m).cnt (zx 3 M (bs (mM m).key)).home (mM m).home with e | e | e
  ·exact absurd e h2
  ·exact absurd e h3
  ·exact e
 have hd:∀ t,d t = true→zEh d g true t = true:=fun t ht=>by unfold zEh; split <;> simp_all
 refine ⟨⟨fun k c hc=>?_,fun k c hc=>?_,fun t ht=>?_⟩,.inl (by simp [zEh]),fun g' m' hp=>?_⟩
 ·rw [zAY] at hc
  obtain ⟨a1,a2,a3⟩:=h.line k c hc
  exact ⟨a1,a2,a3.imp (hd _) id⟩
 ·rw [zAY] at hc
  obtain ⟨a1,a2,a3⟩:=h.park k c hc
  exact ⟨a1,a2,a3.imp (hd _) id⟩
 ·by_cases e:t = g
  ·subst e; exact ⟨m,hm,h4⟩
  ·refine h.doom t ?_
   simpa [zEh,e] using ht
 ·unfold Plc at hp ⊢
  simp only [zAY]
  exact hp.imp (hd _) id
theorem zNS (hk:∀ g,((mk g).map MkX.key).Nodup):∀ {ms:List MkX} {G:GM×DM},(∀ m ∈ ms,m ∈ mk g)→zIU mk M G →
  zIU mk M (zAh 3 M g (ms.map mM) G)∧(∀ m ∈ ms,Plc (zAh 3 M g (ms.map mM) G) g m)∧∀ g' m',Plc G g' m'→Plc (zAh 3 M g (ms.map mM) G) g' m'
 | [],G,_,h=>⟨h,fun m hm=>(by cases hm),fun _ _ hp=>hp⟩
 | m::ms,G,hm,h=>by
  obtain ⟨a1,a2,a3⟩:=zTR hk (hm m List.mem_cons_self) h
  obtain ⟨b1,b2,b3⟩:=zNS hk (fun y hy=>hm y (List.mem_cons_of_mem _ hy)) a1
  refine ⟨b1,fun y hy=>?_,fun g' m' hp=>b3 _ _ (a3 _ _ hp)⟩
  rcases List.mem_cons.1 hy with rfl | hy
  ·exact b3 _ _ a2
  ·exact b2 y hy
theorem zKl (h:zIU mk M G):zIU mk M (vW g G)∧∀ g' m',g' ≠ g→Plc G g' m'→Plc (vW g G) g' m':=by
 have no:∀ {c:Claim} {L:List Claim},c ∈ noT g L ↔ c ∈ L∧c.1 ≠ g:=fun {c L}=>by simp [noT]
 have hd:∀ t,t ≠ g→(vW g G).2 t = G.2 t:=fun t ht=>by simp [vW,zEh,ht]
 refine ⟨⟨fun k c hc=>?_,fun k c hc=>?_,fun t ht=>?_⟩,fun g' m' hn hp=>?_⟩
 ·rw [zKk] at hc
  obtain ⟨h1,h2⟩:=no.1 hc
  rw [hd _ h2]; exact h.line k c h1
 ·rw [zKk] at hc
  obtain ⟨h1,h2⟩:=no.1 hc
  rw [hd _ h2]; exact h.park k c h1
 ·by_cases e:t = g
  ·subst e; simp [vW,zEh] at ht
  ·rw [hd _ e] at ht; exact h.doom t ht
 ·unfold Plc at hp ⊢
  rw [hd _ hn,zKk]
  exact hp.imp id fun hp=>hp.imp (fun h=>no.2 ⟨h,hn⟩) fun h=>no.2 ⟨h,hn⟩
def zKm (M M':zy):Prop:=∀ k:List UInt8,(zx 3 M' (bs k)).home = (zx 3 M (bs k)).home∧(zx 3 M' (bs k)).cnt = (zx 3 M (bs k)).cnt
theorem zKm.look (h:zKm M M') (m:zET):q8 3 M' m = q8 3 M m:=by
 obtain ⟨h1,h2⟩:=h m.key
 unfold q8
 rw [h1,h2]
theorem zIU.same (h:zIU mk M G) (hs:zKm M M'):zIU mk M' G :=
 ⟨fun k c hc=>by rw [hs.look]; exact h.line k c hc,fun k c hc=>by rw [hs.look]; exact h.park k c hc,fun t ht=>by obtain ⟨m,h1,h2⟩:=h.doom t ht; exact ⟨m,h1,by rw [hs.look]; exact h2⟩⟩
theorem zH7 {r:Rec}:∀ {L:List Claim} {d:DM} {t:y7},zCb r L d t = true ↔ d t = true∨∃ c ∈ L,zAV r c ≠ 0∧c.1 = t
 | [],d,t=>by simp [zCb]
 | c::L,d,t=>by
  have ih:=zH7 (r:=r) (L:=L) (d:=if zAV r c ≠ 0 then zEh d c.1 true else d) (t:=t)
  rw [show zCb r (c::L) d = zCb r L (if zAV r c ≠ 0 then zEh d c.1 true else d) by rfl,ih]
  by_cases h:zAV r c ≠ 0
  ·rw [if_pos h]
   by_cases e:t = c.1
   ·subst e; simp [zEh,h]
   ·have e':¬ c.1 = t:=fun h=>e h.symm
    simp [zEh,e,e']
  ·rw [if_neg h]
   simp [h]
theorem zL2 {r:Rec}:∀ {L:List Claim} {A:List Claim} {d:DM},
  (zBi (mvP r) (mvS r) (A,d) L).1.1 = A++L.filter (fun c=>decide (zAV r c = 0))∧(zBi (mvP r) (mvS r) (A,d) L).2 = L.filter (fun c=>decide (zAV r c = 1)) ∧
  ∀ t,(zBi (mvP r) (mvS r) (A,d) L).1.2 t = true ↔ d t = true∨∃ c ∈ L,zAV r c = 2∧c.1 = t
 | [],A,d=>by simp [zBi]
 | c::L,A,d=>by
  rw [zEB]
  unfold mvP
  rcases zQS r.cnt c.2.cnt r.home c.2.home with e | e | e
  ·have e':zAV r c = 0:=e
   rw [show mvS r (A,d) c = (A++[c],d) by unfold mvS; rw [if_pos e']]
   obtain ⟨h1,h2,h3⟩:=zL2 (r:=r) (L:=L) (A:=A++[c]) (d:=d)
   unfold mvP at h1 h2 h3
   refine ⟨by simp only; rw [h1]; simp [e'],by simp only; rw [if_pos (by simp [e']),h2]; simp [e'],fun t=>?_⟩
   simp only; rw [h3]; simp [e']
  ·have e':zAV r c = 1:=e
   rw [show mvS r (A,d) c = (A,d) by unfold mvS; rw [if_neg (by omega),if_neg (by omega)]]
   obtain ⟨h1,h2,h3⟩:=zL2 (r:=r) (L:=L) (A:=A) (d:=d)
   unfold mvP at h1 h2 h3
   refine ⟨by simp only; rw [h1]; simp [e'],by simp only; rw [if_neg (by simp [e']),h2]; simp [e'],fun t=>?_⟩
   simp only; rw [h3]; simp [e']
  ·have e':zAV r c = 2:=e
   rw [show mvS r (A,d) c = (A,zEh d c.1 true) by unfold mvS; rw [if_neg (by omega),if_pos e']]
   obtain ⟨h1,h2,h3⟩:=zL2 (r:=r) (L:=L) (A:=A) (d:=zEh d c.1 true)
   unfold mvP at h1 h2 h3
   refine ⟨by simp only; rw [h1]; simp [e'],by simp only; rw [if_pos (by simp [e']),h2]; simp [e'],fun t=>?_⟩
   simp only; rw [h3]
   by_cases e2:t = c.1
   ·subst e2; simp [zEh,e']
   ·have e3:¬ c.1 = t:=fun h=>e2 h.symm
    simp [zEh,e2,e3]
theorem zV2 {key:List UInt8} (h:zIU mk M G) (ho:∀ k:List UInt8,k ≠ key→(zx 3 M' (bs k)).home = (zx 3 M (bs k)).home∧(zx 3 M' (bs k)).cnt = (zx 3 M (bs k)).cnt) (hc:(zx 3 M' (bs key)).cnt = (zx 3 M (bs key)).cnt + 1) :
  zIU mk M' (zCR 3 M' key G)∧∀ g' m',Plc G g' m'→Plc (zCR 3 M' key G) g' m':=by
 obtain ⟨X,d⟩:=G
 have look:∀ m:zET,m.key ≠ key→q8 3 M' m = q8 3 M m:=fun m hm=>by
  obtain ⟨h1,h2⟩:=ho m.key hm
  unfold q8
  rw [h1,h2]
 have cl:∀ c:Claim,c.2.key = key→q8 3 M' c.2 = zAV (zx 3 M' (bs key)) c:=fun c e=>by unfold q8 zAV; rw [e]
 have gone:∀ m:zET,(q8 3 M m = 2∨q8 3 M m = 0∧m.key = key)→q8 3 M' m = 2:=fun m hm=>by
  by_cases e:m.key = key
  ·have h0:q8 3 M m ≠ 1:=by omega
   unfold q8 at h0 ⊢
   rw [e] at h0 ⊢
   rw [hc]
   unfold zC5 at h0 ⊢
   split at h0
   ·exact absurd rfl h0
   ·rename_i hlt
    rw [if_neg (by omega),if_neg (by omega)]
  ·rw [look m e]
   rcases hm with hm | hm
   ·exact hm
   ·exact absurd hm.2 e
 obtain ⟨d1,d2,d3⟩:=zL2 (r:=zx 3 M' (bs key)) (L:=(atM key X).2) (A:=(atM key X).1) (d:=zCb (zx 3 M' (bs key)) (atM key X).1 d)
 unfold zCR
 generalize zBi (mvP (zx 3 M' (bs key))) (mvS (zx 3 M' (bs key))) ((atM key X).1,zCb (zx 3 M' (bs key)) (atM key X).1 d) (atM key X).2 = R at d1 d2 d3
 obtain ⟨⟨R1,R2⟩,R3⟩:=R
 simp only at d1 d2 d3 ⊢
 have grow:∀ t,d t = true→R2 t = true:=fun t ht=>(d3 t).2 (.inl (zH7.2 (.inl ht)))
 refine ⟨⟨fun k c hcm=>?_,fun k c hcm=>?_,fun t ht=>?_⟩,fun g' m' hp=>?_⟩
 ·simp only [zCT,zAY] at hcm
  split at hcm
  ·rename_i e; subst e
   simp only [d1] at hcm
   rcases List.mem_append.1 hcm with hcm | hcm
   ·obtain ⟨a1,a2,a3⟩:=h.line _ c hcm
    refine ⟨a1,a2,?_⟩
    by_cases hl:zAV (zx 3 M' (bs k)) c = 0
    ·exact .inr (by rw [cl c a1]; exact hl)
    ·exact .inl ((d3 _).2 (.inl (zH7.2 (.inr ⟨c,hcm,hl,rfl⟩))))
   ·obtain ⟨b1,b2⟩:=List.mem_filter.1 hcm
    obtain ⟨a1,a2,a3⟩:=h.park _ c b1
    exact ⟨a1,a2,.inr (by rw [cl c a1]; simpa using b2)⟩
  ·rename_i e
   obtain ⟨a1,a2,a3⟩:=h.line _ c hcm
   refine ⟨a1,a2,a3.imp (grow _) fun a3=>?_⟩
   rw [look _ (by rw [a1]; exact e)]; exact a3
 ·simp only [zCT,zAY] at hcm
  split at hcm
  ·rename_i e; subst e
   simp only [d2] at hcm
   obtain ⟨b1,b2⟩:=List.mem_filter.1 hcm
   obtain ⟨a1,a2,a3⟩:=h.park _ c b1
   exact ⟨a1,a2,.inr (by rw [cl c a1]; simpa using b2)⟩
  ·rename_i e
   obtain ⟨a1,a2,a3⟩:=h.park _ c hcm
   refine ⟨a1,a2,a3.imp (grow _) fun a3=>?_⟩
   rw [look _ (by rw [a1]; exact e)]; exact a3
 ·have old:d t = true→∃ m ∈ mk t,q8 3 M' (mM m) = 2:=fun hd=>by
   obtain ⟨m,h1,h2⟩:=h.doom t hd
   exact ⟨m,h1,gone _ (.inl h2)⟩
  rcases (d3 t).1 ht with h1 | ⟨c,h1,h2,rfl⟩
  ·rcases zH7.1 h1 with g0 | ⟨c,g1,g2,rfl⟩
   ·exact old g0
   ·obtain ⟨a1,⟨m,a2,a3⟩,a4⟩:=h.line _ c g1
    rcases a4 with a4 | a4
    ·exact old a4
    ·exact ⟨m,a2,by rw [a3]; exact gone _ (.inr ⟨a4,a1⟩)⟩
  ·obtain ⟨a1,⟨m,a2,a3⟩,a4⟩:=h.park _ c h1
   exact ⟨m,a2,by rw [a3,cl c a1]; exact h2⟩
 ·unfold Plc at hp ⊢
  simp only [zCT,zAY]
  rcases hp with hp | hp | hp
  ·exact .inl (grow _ hp)
  ·refine .inr (.inl ?_)
   split
   ·rename_i e
    simp only [d1]
    rw [← e]
    exact List.mem_append_left _ hp
   ·exact hp
  ·split
   ·rename_i e
    simp only [d1,d2]
    rw [← e]
    rcases zQS (zx 3 M' (bs m'.key)).cnt (mM m').cnt (zx 3 M' (bs m'.key)).home (mM m').home with h1 | h1 | h1
    ·exact .inr (.inl (List.mem_append_right _ (List.mem_filter.2 ⟨hp,by rw [decide_eq_true_eq]; exact h1⟩)))
    ·exact .inr (.inr (List.mem_filter.2 ⟨hp,by rw [decide_eq_true_eq]; exact h1⟩))
    ·exact .inl ((d3 _).2 (.inr ⟨_,by rw [← e]; exact hp,by rw [← e]; exact h1,rfl⟩))
   ·exact .inr (.inr hp)
end
end
section
open Go Go.Sep Go.Sep.Bt
abbrev itV (kind ix:Int) (tag:y7) (t:TxX) (ms:Sl):List Value:=.int .i64 kind::.int .i64 ix::orV tag t ms
abbrev tgB (tb:Nat) (tag:y7):zC:=blk tb (.cells (qO tag).toArray vF (0,0))
abbrev rgB (rb:Nat) (r:Int):zC:=blk rb (.cells [.int .i64 r].toArray zBJ (0,0))
abbrev itB (ib:Nat) (kind ix:Int) (tag:y7) (t:TxX) (ms:Sl):zC:=blk ib (.cells (itV kind ix tag t ms).toArray qc (0,0))
theorem zSF {tag:y7} {r:Int} {j:zCC} {C:List zCC} (hj:j.tag = tag):∀ {A:List zCC},(∀ y ∈ A,y.tag ≠ tag)→zHW tag r (A++j::C) = A++{ j with need:=j.need.filter fun h=>!decide (h = r) }::C
 | [],_=>by simp [zHW,hj]
 | x::A,h=>by
  rw [List.cons_append]
  unfold zHW
  rw [if_neg (h x List.mem_cons_self),zSF hj fun y hy=>h y (List.mem_cons_of_mem _ hy)]
  rfl
section
variable {B:World} {Γ Δ:List zC} {k:K} {sd st l n T:Nat} {S:zBS} {a b c:Sl} {F:List FX} {J:List zBH} {t:TxX} {mks:List MkX} {ms:Sl} {tag:y7} {r kind ix:Int}
theorem zYF {q:Sl→K} (ho:zF5 n T S F J) (hT:T ≤ 20000) (h:∀ (s:Sl) (D:List DcX),D.map zGr = (zFd n S).2→D.length ≤ T→HG B (SlC yQ 6 s (D.flatMap dcF)::Sep.stars (D.map dcO)::zA2 sd n T (zFd n S).1::Γ) (q s)) :
  HG B (zFK sd st l n T S a b c F J Γ) (xu.call (some ⟨sd,0,none⟩) q):=by
 obtain ⟨K,hK,hKl⟩:=ho.gz
 have hjl:=ho.jl
 have hml:=ho.ml
 have hsj:=ho.jobs
 refine zZl (T:=K) ho.ok hK (by omega) (by omega) fun s D c' J' hD hJ' hmem hlen hM hG=>?_
 unfold zFd at h
 rw [← hsj] at h
 have hjl2:(J.map zCa).length = J.length:=List.length_map _
 rw [hjl2] at h
 refine zB (Δ:=zFK sd st l n T (⟨(jf n J.length (J.map zCa) S.M S.G).1.2.1,(jf n J.length (J.map zCa) S.M S.G).1.2.2,S.fils,S.fed,(jf n J.length (J.map zCa) S.M S.G).1.1⟩:zBS) a b c' F J' (SlC yQ 6 s (D.flatMap dcF)::Sep.stars (D.map dcO)::Γ)) ?_
 refine zDE ⟨ho.n1,ho.n3,ho.fils,ho.rgs,ho.fedl,ho.fedr,hJ',fun j hj=>ho.ok j (hmem j hj),by omega,⟨K + D.length,hG,by omega⟩,by simp only; omega⟩ ?_
 exact zB (h s D hD (by omega))
theorem zam {A C:List zBH} {j:zBH} {K rb tb:Nat} {ms2:Sl} {mk2:List MkX} {q:Sl→Sep.K} (hT:T ≤ 20000) (hJ:J = A++j::C) (hA:∀ y ∈ A,y.tag ≠ tag) (hj:j.tag = tag) (ho:zF5 n T S F J) (hK:SzG K S.G) (hKl:K + J.length + mk2.length ≤ 40 * T)
  (hm:∀ w,Holds B Γ w→RdC w ms2 3 (mk2.flatMap mkL)) (hk:∀ m ∈ mk2,m.key.length < 1000000000)
  (h:∀ (s:Sl) (D:List DcX),D.map zGr = (zFd n ⟨S.M,zAh n S.M tag (mk2.map mM) S.G,S.fils,S.fed,zHW tag r S.jobs⟩).2→D.length ≤ T→HG B (SlC yQ 6 s (D.flatMap dcF)::Sep.stars (D.map dcO)::zA2 sd n T (zFd n ⟨S.M,zAh n S.M tag (mk2.map mM) S.G,S.fils,S.fed,zHW tag r S.jobs⟩).1::Γ) (q s)) :
  HG B (zFK sd st l n T S a b c F J (rgB rb r::tgB tb tag::Γ)) (zU.s3 q ⟨sd,0,none⟩ ⟨rb,0,none⟩ ⟨tb,0,none⟩ ms2 (zEG j)):=by
 subst hJ
 have hoj:=ho.ok j (by simp)
 have hlen:(A++j::C).length = A.length + (C.length + 1):=by simp
 unfold zU.s3
 refine uP ?_
 refine ze (Sep.stars ((A++j::C).map zFc)) ?_
 refine zFk ?_
 refine zSC ?_
 refine yB (b:=j.b) (off:=10) (l:=zNz j) (x:=j.ns) ?_
 refine zw j.ns ?_
 refine zTO (L:=j.need) (by have:=hoj.nl; omega) fun ns'=>?_
 refine zCB (b:=j.b) (off:=10) (l:=zNz j) (l':=zNz { j with ns:=ns',need:=j.need.filter fun x=>!decide (x = r) }) ?_ rfl rfl
 refine zB (Δ:=zTJ { j with ns:=ns',need:=j.need.filter fun x=>!decide (x = r) } (Sep.stars ((A++C).map zFc)::blk sd (.cells (sdL st l a b c).toArray qK (0,0))::vX l S.G.1 S.G.2::zk st n S.M::SlC zAD 1 c (((A++j::C).map zEG).map Value.pointer)::SlC jF 1 a ((F.map zKj).map Value.pointer)::Sep.stars (F.map (zGs T))::SlI b S.fed::tgB tb tag::Γ)) ?_
 refine zJz ?_
 refine zAb ?_
 rw [show ((A++j::C).map zEG).map Value.pointer = ((A++{ j with ns:=ns',need:=j.need.filter fun x=>!decide (x = r) }::C).map zEG).map Value.pointer by simp]
 refine vo ?_
 refine yB (b:=sd) (off:=1) (l:=sdL st l a b c) (x:=some ⟨l,0,none⟩) ?_
 refine yB (b:=sd) (l:=sdL st l a b c) (x:=some ⟨st,0,none⟩) ?_
 refine qI (b:=tb) (l:=qO tag) (l':=qO tag) ?_
 refine zO st ?_
 refine zO l ?_
 refine zXr (L:=mk2.map mM) (N:=K) (fun w hw=>by rw [zZm]; exact hm w (hw.drops (Δ:=Γ))) (fun m hm=>by obtain ⟨x,hx,rfl⟩:=List.mem_map.1 hm; exact hk x hx) hK.gsz (by rw [List.length_map]; omega) ?_
 show HG B (vX l (zAh n S.M tag (mk2.map mM) S.G).1 (zAh n S.M tag (mk2.map mM) S.G).2::_) _
 generalize hj':({ j with ns:=ns',need:=j.need.filter fun x=>!decide (x = r) }:zBH) = j'
 have hje:zCa j' = { zCa j with need:=(zCa j).need.filter fun h=>!decide (h = r) }:=by rw [← hj']; rfl
 have hup:(A++j'::C).map zCa = zHW tag r S.jobs:=by
  rw [← ho.jobs,zNL,zNL,hje,zSF (by exact hj) (fun y hy=>by obtain ⟨z,hz,rfl⟩:=List.mem_map.1 hy; exact hA z hz)]
 refine zB (Δ:=zFK sd st l n T (⟨S.M,zAh n S.M tag (mk2.map mM) S.G,S.fils,S.fed,zHW tag r S.jobs⟩:zBS) a b c F (A++j'::C) Γ) ?_
 refine zYF ⟨ho.n1,ho.n3,ho.fils,ho.rgs,ho.fedl,ho.fedr,hup,fun y hy=>?_,?_,⟨K + mk2.length,?_,?_⟩,?_⟩ hT h
 ·rcases List.mem_append.1 hy with hy | hy
  ·exact ho.ok y (List.mem_append_left _ hy)
  rcases List.mem_cons.1 hy with rfl | hy
  ·rw [← hj']
   exact ⟨hoj.ord,hoj.nn,by have:=hoj.nl; have:=List.length_filter_le (fun x=>!decide (x = r)) j.need; simp only; omega⟩
  ·exact ho.ok y (List.mem_append_right _ (List.mem_cons_of_mem _ hy))
 ·have:=ho.jl; simpa using this
 ·have:=hK.enters (n:=n) (S:=S.M) (tag:=tag) (L:=mk2.map mM)
  rwa [List.length_map] at this
 ·simp only [List.length_append,List.length_cons] at hKl ⊢; omega
 ·have:=ho.ml; simpa using this
theorem zce {A C:List zBH} {j:zBH} {K rb tb ib:Nat} {q:Sl→Sep.K} (hT:T ≤ 20000) (hJ:J = A++j::C) (hA:∀ y ∈ A,y.tag ≠ tag) (hj:j.tag = tag) (ho:zF5 n T S F J) (hK:SzG K S.G) (hKl:K + J.length + mks.length ≤ 40 * T) (hml:mks.length ≤ 1000)
  (hm:∀ w,Holds B Γ w→RdC w ms 3 (mks.flatMap mkL)) (hk:∀ m ∈ mks,m.key.length < 1000000000)
  (h:∀ (s:Sl) (D:List DcX),D.map zGr = (zFd n (zNM n r kind tag mks S.jobs S)).2→D.length ≤ T→HG B (SlC yQ 6 s (D.flatMap dcF)::Sep.stars (D.map dcO)::zA2 sd n T (zFd n (zNM n r kind tag mks S.jobs S)).1::Γ) (q s)) :
  HG B (zFK sd st l n T S a b c F J (rgB rb r::tgB tb tag::itB ib kind ix tag t ms::Γ)) (zU.s2 q ⟨sd,0,none⟩ ⟨rb,0,none⟩ ⟨ib,0,none⟩ ⟨tb,0,none⟩ ms (zEG j)):=by
 unfold zU.s2
 unfold zNM zEJ at h
 refine yB (b:=ib) (l:=itV kind ix tag t ms) (x:=kind) ?_
 refine zF (fun h1=>?_) fun h1=>?_
 ·have h1':kind = 2:=by simpa using h1
  simp only [h1',if_true] at h
  refine qI (b:=ib) (off:=2) (l:=itV kind ix tag t ms) (l':=orV tag t ms) ?_
  refine yB (b:=rb) (l:=[.int .i64 r]) (x:=r) ?_
  refine zZn (mks:=mks) (fun w hw=>hm w (hw.drops (Δ:=Γ))) hml fun s=>?_
  have hfl:=List.length_filter_le (fun m:MkX=>decide (m.home = r)) mks
  refine zB (Δ:=zFK sd st l n T S a b c F J (rgB rb r::tgB tb tag::SlC qC 3 s ((mks.filter fun m=>decide (m.home = r)).flatMap mkL)::Γ)) ?_
  refine zam (mk2:=mks.filter fun m=>decide (m.home = r)) hT hJ hA hj ho hK (by omega) (fun w hw=>(yP (s:=s) hw).1) (fun m hm=>hk m (List.mem_filter.1 hm).1) fun s2 D hD hDl=>?_
  exact zB (h s2 D hD hDl)
 ·have h1':¬ kind = 2:=by simpa using h1
  simp only [h1',if_false] at h
  refine zB (Δ:=zFK sd st l n T S a b c F J (rgB rb r::tgB tb tag::Γ)) ?_
  exact zam (mk2:=mks) hT hJ hA hj ho hK hKl hm hk h
theorem zF5.up (ho:zF5 n T S F J):zF5 n (T + 1) S F J:=by
 obtain ⟨K,hK,hKl⟩:=ho.gz
 have:=ho.jl
 have:=ho.ml
 exact ⟨ho.n1,ho.n3,ho.fils,ho.rgs,ho.fedl,fun x hx=>by have:=ho.fedr x hx; omega,ho.jobs,ho.ok,by omega,⟨K,hK,by omega⟩,by omega⟩
theorem zbb (h:HG B (zA2 sd n (T + 1) S::Γ) k):HG B (zA2 sd n T S::Γ) k:=zJ0 fun st l a b c F J ho=>by
 refine ze (Sep.stars (F.map (zGs T))) ?_
 refine zU2 (N':=T + 1) (by omega) ?_
 refine zB (Δ:=zFK sd st l n (T + 1) S a b c F J Γ) ?_
 exact zDE ho.up h
theorem zYG (h:HG B (SlC yQ 6 ⟨none,0,0⟩ (([]:List DcX).flatMap dcF)::Sep.stars (([]:List DcX).map dcO)::Γ) k):HG B Γ k:=fun w hw=>h w ((hw.zCn).zAm _ _)
theorem zbc (ho:zF5 n T S F J) (h:0 ≤ r∧r < n):∃ FA xb xf FC,F = FA++⟨xb,r,xf⟩::FC∧FA.length = r.toNat∧S.fils.getD r.toNat ⟨-1,[]⟩ = xf∧∀ f',(FA++⟨xb,r,f'⟩::FC).map FX.f = S.fils.set r.toNat f'∧(FA++(⟨xb,r,f'⟩:FX)::FC).map FX.rg = F.map FX.rg:=by
 have hl:F.length = n:=by have:=congrArg List.length ho.rgs; simpa using this
 have hi:r.toNat < F.length:=by omega
 have e:=List.take_append_drop r.toNat F
 rw [List.drop_eq_getElem_cons hi] at e
 have hrg:F[r.toNat].rg = r:=by
  have h1:(F.map FX.rg)[r.toNat]? = some F[r.toNat].rg:=by rw [List.getElem?_map,List.getElem?_eq_getElem hi]; rfl
  rw [ho.rgs,List.getElem?_map,List.getElem?_range (by omega)] at h1
  simp only [Option.map_some,Option.some.injEq] at h1
  omega
 generalize F[r.toNat] = x at e hrg
 obtain ⟨xb,xr,xf⟩:=x
 simp only at hrg
 subst hrg
 have hl2:(F.take xr.toNat).length = xr.toNat:=by rw [List.length_take]; omega
 generalize F.take xr.toNat = FA at e hl2
 generalize F.drop (xr.toNat + 1) = FC at e
 refine ⟨FA,xb,xf,FC,e.symm,hl2,?_,fun f'=>⟨?_,by rw [← e]; simp⟩⟩
 ·rw [← ho.fils,← e,List.map_append,List.getD_eq_getElem?_getD,List.getElem?_append_right (by simp [hl2])]
  simp [hl2]
 ·rw [← ho.fils,← e,List.map_append,List.map_append,List.map_cons,List.map_cons,show xr.toNat = (FA.map FX.f).length by simp [hl2]]
  simp
theorem zL3 {q:Sl→Sep.K} (hT:T + 1 ≤ 20000) (hr:∀ w,Holds B Γ w→zCX w t) (hm:∀ w,Holds B Γ w→RdC w ms 3 (mks.flatMap mkL)) (hnn:∀ x ∈ t.ops,-9223372036854775808 ≤ x.1.n∧x.1.n ≤ 9223372036854775807)
  (hg0:0 ≤ tag.epoch∧tag.epoch < 18446744073709551616) (hg1:0 ≤ tag.seq∧tag.seq < 18446744073709551616) (hmk:∀ m ∈ mks,0 ≤ m.cnt∧m.cnt < 18446744073709551616)
  (hl:t.reads.length ≤ 1000∧t.writes.length ≤ 1000∧t.ops.length ≤ 1000) (hml:mks.length ≤ 1000)
  (h:∀ (s:Sl) (D:List DcX),D.map zGr = (zBn n r kind ix tag t mks S).2→D.length ≤ T + 1→HG B (SlC yQ 6 s (D.flatMap dcF)::Sep.stars (D.map dcO)::zA2 sd n (T + 1) (zBn n r kind ix tag t mks S).1::Γ) (q s)) :
  HG B (zA2 sd n T S::Γ) (zU.call (some ⟨sd,0,none⟩) r (itV kind ix tag t ms).toArray q):=by
 refine fun w hw=>zIP _ _ _ _ _ ?_
 refine hg hw ?_
 clear hw w
 refine zJ0 fun st l a b c F J ho=>?_
 unfold zU
 refine zH fun rb=>?_
 refine zH fun ib=>?_
 refine qI (b:=ib) (l:=itV kind ix tag t ms) (l':=itV kind ix tag t ms) ?_
 have bad:¬ zI2 n r kind ix tag t mks→HG B (itB ib kind ix tag t ms::rgB rb r::zFK sd st l n T S a b c F J Γ) (zU.s1 q (some ⟨sd,0,none⟩) ⟨rb,0,none⟩ ⟨ib,0,none⟩ true):=fun hb=>by
  unfold zU.s1
  refine s_t ?_
  unfold zBn at h
  rw [if_neg hb] at h
  refine zB (Δ:=zFK sd st l n T S a b c F J Γ) ?_
  refine zDE ho ?_
  refine zbb ?_
  refine zYG ?_
  exact h ⟨none,0,0⟩ [] rfl (by simp)
 refine zQZ (mks:=mks) hg0 hg1 hmk (fun w hw=>hr w (hw.drops (Δ:=Γ))) (fun w hw=>hm w (hw.drops (Δ:=Γ))) hl hml (fun hb=>?_) fun hi h3 s0=>?_
 ·refine vo ?_
  refine zBE [itB ib kind ix tag t ms,rgB rb r] ?_
  refine s_t ?_
  exact bad fun hh=>hb ⟨hh.1,hh.2.1⟩
 refine vo ?_
 refine zBE [itB ib kind ix tag t ms,rgB rb r,blk sd (.cells (sdL st l a b c).toArray qK (0,0))] ?_
 refine s_f ?_
 refine jC (b:=rb) (l:=[.int .i64 r]) (x:=r) ?_
 refine zw b ?_
 refine zO sd ?_
 refine zSD (n:=n) ho.fedl ?_
 refine zBC ?_
 by_cases hrn:0 ≤ r∧r < n
 rotate_left
 ·rw [decide_eq_false hrn]
  refine s_t ?_
  exact zB (bad fun hh=>hrn hh.2.2.1)
 rw [decide_eq_true hrn]
 refine s_f ?_
 refine uP ?_
 refine zBM (b:=ib) (off:=2) (l:=itV kind ix tag t ms) (l':=orV tag t ms) ?_
 refine jC (b:=sd) (off:=3) (l:=sdL st l a b c) (x:=b) ?_
 refine yS b fun a1 a2 a3 a4=>?_
 rw [List.length_map,Nat.mul_one,ho.fedl] at a1
 rw [← a1]
 refine zK8 (mks:=mks) (fun w hw=>hr w (hw.drops (Δ:=Γ))) (fun w hw=>hm w (hw.drops (Δ:=Γ))) hl (by omega) ?_
 by_cases hon:zDy (n:Int) tag t mks
 rotate_left
 ·rw [if_neg hon]
  exact zB (bad fun hh=>hon hh.2.2.2)
 rw [if_pos hon]
 have hok:zI2 n r kind ix tag t mks:=⟨hi,h3,hrn,hon⟩
 unfold zBn at h
 rw [if_pos hok] at h
 obtain ⟨k1,k2,k3,k4⟩:=zEF hon.1
 have hmks:=hon.2.2.1
 have hkl:=zF0 (t.reads++t.writes)
 have hml8:mks.length ≤ 8:=by
  have:=congrArg List.length hmks
  rw [List.length_map] at this
  rw [List.length_append] at hkl
  omega
 have hkk:∀ m ∈ mks,m.key.length < 1000000000:=fun m hm=>by
  have h1:m.key ∈ xq (t.reads++t.writes):=by rw [← hmks]; exact List.mem_map.2 ⟨m,hm,rfl⟩
  have:=k1 _ (zE3.1 h1)
  omega
 obtain ⟨FA,xb,xf,FC,rfl,hFl,hgf,hset⟩:=zbc ho hrn
 obtain ⟨K,hK,hKl⟩:=ho.gz
 have hjl:=ho.jl
 have hmlM:=ho.ml
 show HG B _ (zU.s1 q (some ⟨sd,0,none⟩) ⟨rb,0,none⟩ ⟨ib,0,none⟩ false)
 unfold zU.s1
 refine s_f ?_
 refine vo ?_
 refine uP ?_
 refine yB (b:=sd) (off:=3) (l:=sdL st l a b c) (x:=b) ?_
 refine yB (b:=rb) (l:=[.int .i64 r]) (x:=r) ?_
 have hri:r.toNat < S.fed.length:=by rw [ho.fedl]; omega
 have hge:S.fed[r.toNat]? = some (S.fed.getD r.toNat 0):=by rw [List.getD_eq_getElem?_getD,List.getElem?_eq_getElem hri]; rfl
 have hfx:=ho.fedr (S.fed.getD r.toNat 0) (List.mem_of_getElem? hge)
 refine zAd (L:=S.fed) (c:=Value.int .i64) (j:=r.toNat) (x:=S.fed.getD r.toNat 0) (fun w hw=>(yP (s:=b) hw).1) hge ?_ (by omega)
 refine qB ?_
 refine vg (s:=b) (i:=r.toNat) ?_ (by omega) (by omega)
 rw [← add0 (elA b r.toNat 1)]
 refine zMV (s:=b) ?_ (by simp only [List.length_map]; omega)
 rw [show r.toNat * 1 + 0 = r.toNat by omega,← List.map_set]
 refine vo ?_
 refine yB (b:=sd) (off:=2) (l:=sdL st l a b c) (x:=a) ?_
 refine yB (b:=rb) (l:=[.int .i64 r]) (x:=r) ?_
 refine zAd (c:=Value.pointer) (L:=(FA++⟨xb,r,xf⟩::FC).map zKj) (j:=r.toNat) (x:=zKj ⟨xb,r,xf⟩) (fun w hw=>(yP (s:=a) hw).1) (by rw [← hFl]; simp) ?_ (by omega)
 refine qI (b:=ib) (l:=itV kind ix tag t ms) (l':=itV kind ix tag t ms) ?_
 refine ze (Sep.stars ((FA++(⟨xb,r,xf⟩:FX)::FC).map (zGs T))) ?_
 refine zFk ?_
 refine zTI (fb:=xb) (rg:=r) (f:=xf) (N:=T) (t:=t) (mks:=mks) (fun w hw=>hm w (hw.drops (Δ:=Γ))) hml (by omega) ?_
 have hin:zFV r kind ix tag t mks S = zDn r xf kind ix tag (xX mks) (zVy t mks):=by unfold zFV; rw [hgf]
 rw [← hin]
 have ho1:zF5 n (T + 1) (zKi r kind ix tag t mks S) (FA++⟨xb,r,(zFV r kind ix tag t mks S).1⟩::FC) J:=by
  refine ⟨ho.n1,ho.n3,(hset _).1,by rw [(hset _).2]; exact ho.rgs,by simp [zKi,ho.fedl],fun x hx=>?_,ho.jobs,ho.ok,by omega,⟨K,hK,by omega⟩,by show S.M.length + _ ≤ _; omega⟩
  rcases List.mem_or_eq_of_mem_set hx with hx | rfl
  ·have:=ho.fedr x hx; omega
  ·omega
 refine ze (Sep.stars ((FA++FC).map (zGs T))) ?_
 refine zU2 (N':=T + 1) (by omega) ?_
 refine zB (Δ:=zEw xb r (T + 1) (zFV r kind ix tag t mks S).1::Sep.stars ((FA++FC).map (zGs (T + 1)))::itB ib kind ix tag t ms::rgB rb r::blk sd (.cells (sdL st l a b c).toArray qK (0,0))::vX l S.G.1 S.G.2::zk st n S.M::SlC zAD 1 c ((J.map zEG).map Value.pointer)::Sep.stars (J.map zFc)::SlC jF 1 a (((FA++⟨xb,r,xf⟩::FC).map zKj).map Value.pointer)::SlI b (S.fed.set r.toNat (S.fed.getD r.toNat 0 + 1))::Γ) ?_
 show HG B (zGs (T + 1) ⟨xb,r,(zFV r kind ix tag t mks S).1⟩::_) _
 refine zAb ?_
 rw [show ((FA++(⟨xb,r,xf⟩:FX)::FC).map zKj).map Value.pointer = ((FA++(⟨xb,r,(zFV r kind ix tag t mks S).1⟩:FX)::FC).map zKj).map Value.pointer by simp]
 generalize hF':FA++(⟨xb,r,(zFV r kind ix tag t mks S).1⟩:FX)::FC = F' at ho1
 unfold zNN at h
 by_cases hin2:(zFV r kind ix tag t mks S).2 = false
 ·rw [if_pos hin2] at h
  rw [hin2]
  refine s_t ?_
  refine zB (Δ:=zFK sd st l n (T + 1) (zKi r kind ix tag t mks S) a b c F' J Γ) ?_
  refine zDE ho1 ?_
  refine zYG ?_
  exact h ⟨none,0,0⟩ [] rfl (by simp)
 rw [if_neg hin2] at h
 rw [Bool.not_eq_false] at hin2
 rw [hin2]
 refine s_f ?_
 refine vo ?_
 refine zBE [itB ib kind ix tag t ms] ?_
 refine zBM (b:=ib) (off:=2) (l:=itV kind ix tag t ms) (l':=qO tag) ?_
 refine jC (b:=ib) (off:=11) (l:=itV kind ix tag t ms) (x:=ms) ?_
 refine zH fun tb=>?_
 refine zBC ?_
 refine qA (b:=tb) (l':=qO tag) ?_
 refine zBC ?_
 refine qI (b:=tb) (l:=qO tag) (l':=qO tag) ?_
 have S2:∀ {J2 A:List zBH} {j:zBH} {C:List zBH} {c2:Sl} {S2:zBS},J2 = A++j::C→(∀ y ∈ A,y.tag ≠ tag)→j.tag = tag→S2.G = S.G→zF5 n (T + 1) S2 F' J2→K + J2.length + mks.length ≤ 40 * (T + 1) →
   (∀ (s:Sl) (D:List DcX),D.map zGr = (zFd n (zNM n r kind tag mks S2.jobs S2)).2→D.length ≤ T + 1→HG B (SlC yQ 6 s (D.flatMap dcF)::Sep.stars (D.map dcO)::zA2 sd n (T + 1) (zFd n (zNM n r kind tag mks S2.jobs S2)).1::Γ) (q s)) →
   HG B (zFK sd st l n (T + 1) S2 a b c2 F' J2 (rgB rb r::tgB tb tag::itB ib kind ix tag t ms::Γ)) (zU.s2 q ⟨sd,0,none⟩ ⟨rb,0,none⟩ ⟨ib,0,none⟩ ⟨tb,0,none⟩ ms (zEG j)):=fun {J2 A j C c2 S2} hJ2 hA hj hG ho2 hKl2 hq=>
  zce hT hJ2 hA hj ho2 (by rw [hG]; exact hK) hKl2 hml hm hkk hq
 have hjm:(∃ j ∈ S.jobs,j.tag = tag) ↔ ∃ j ∈ J,j.tag = tag:=by
  rw [← ho.jobs]
  constructor
  ·rintro ⟨x,hx,e⟩
   obtain ⟨y,hy,rfl⟩:=List.mem_map.1 hx
   exact ⟨y,hy,e⟩
  ·rintro ⟨y,hy,e⟩
   exact ⟨zCa y,List.mem_map.2 ⟨y,hy,rfl⟩,e⟩
 refine zB (Δ:=zLT sd st l n S.M S.G a b c J (SlC jF 1 a ((F'.map zKj).map Value.pointer)::Sep.stars (F'.map (zGs (T + 1)))::SlI b (S.fed.set r.toNat (S.fed.getD r.toNat 0 + 1))::rgB rb r::tgB tb tag::itB ib kind ix tag t ms::Γ)) ?_
 refine zYD (by omega) (fun hno=>?_) fun A j C hJ hA hj=>?_
 ·have hno':¬ ∃ j ∈ S.jobs,j.tag = tag:=fun hh=>by obtain ⟨j,hj,e⟩:=hjm.1 hh; exact hno j hj e
  rw [if_neg hno'] at h
  refine s_f ?_ (by rfl)
  unfold zU.s4
  refine s_f ?_
  refine s_t ?_ (by rfl)
  refine vo ?_
  refine zBE [itB ib kind ix tag t ms] ?_
  refine zBM (b:=ib) (off:=2) (l:=itV kind ix tag t ms) (l':=orV tag t ms) ?_
  refine zBM (b:=ib) (off:=2) (l:=itV kind ix tag t ms) (l':=orV tag t ms) ?_
  refine zK9 (t:=t) (mks:=mks) (fun w hw=>hr w (hw.drops (Δ:=Γ))) (fun w hw=>hm w (hw.drops (Δ:=Γ))) ⟨hl.1,hl.2.1,hl.2.2,fun x hx=>by have:=(k4 x hx).2; omega⟩ hml fun t' ms' ht'=>?_
  refine zBC ?_
  refine zHV (pre:=qO tag++txL t) (L:=mks) rfl (fun w hw=>hm w (hw.drops (Δ:=Γ))) (by omega) fun ns=>?_
  refine zT ?_
  refine zH fun jb=>?_
  refine yB (b:=sd) (off:=4) (l:=sdL st l a b c) (x:=c) ?_
  refine yS c fun a1 a2 a3 a4=>?_
  rw [List.length_map,List.length_map,Nat.mul_one] at a1
  refine zPq (s:=c) (esz:=1) (m:=1) (us:=[.pointer (some ⟨jb,0,none⟩)]) (fun c2 _=>?_)
  rw [show (J.map zEG).map Value.pointer++[.pointer (some ⟨jb,0,none⟩)] = ((J++[(⟨jb,tag,t',ms',mks,ns,xX mks⟩:zBH)]).map zEG).map Value.pointer by simp]
  refine zCB (b:=sd) (off:=4) (l:=sdL st l a b c) (l':=sdL st l a b c2) ?_ rfl rfl
  refine zB (Δ:=zTJ ⟨jb,tag,t',ms',mks,ns,xX mks⟩ (Sep.stars (J.map zFc)::blk sd (.cells (sdL st l a b c2).toArray qK (0,0))::vX l S.G.1 S.G.2::zk st n S.M::SlC zAD 1 c2 (((J++[(⟨jb,tag,t',ms',mks,ns,xX mks⟩:zBH)]).map zEG).map Value.pointer)::SlC jF 1 a ((F'.map zKj).map Value.pointer)::Sep.stars (F'.map (zGs (T + 1)))::SlI b (S.fed.set r.toNat (S.fed.getD r.toNat 0 + 1))::rgB rb r::tgB tb tag::itB ib kind ix tag t ms::Γ)) ?_
  refine zJz ?_
  refine zH6 ?_
  refine zB (Δ:=zFK sd st l n (T + 1) (⟨S.M,S.G,S.fils.set r.toNat (zFV r kind ix tag t mks S).1,S.fed.set r.toNat (S.fed.getD r.toNat 0 + 1),S.jobs++[⟨tag,zEi t,mks,xX mks⟩]⟩:zBS) a b c2 F' (J++[(⟨jb,tag,t',ms',mks,ns,xX mks⟩:zBH)]) (rgB rb r::tgB tb tag::itB ib kind ix tag t ms::Γ)) ?_
  have hhl:(xX mks).length ≤ 1000:=by
   have h1:=zFz (zEU (if mks.length = 0 then [0] else mks.map MkX.home))
   rw [zH3] at h1
   have h2:(if mks.length = 0 then [0] else mks.map MkX.home).length ≤ 1000:=by split <;> simp <;> omega
   unfold xX
   omega
  refine S2 (A:=J) (j:=⟨jb,tag,t',ms',mks,ns,xX mks⟩) (C:=[]) rfl hno rfl rfl ⟨ho1.n1,ho1.n3,ho1.fils,ho1.rgs,ho1.fedl,ho1.fedr,?_,fun y hy=>?_,by simp; omega,⟨K,hK,by simp; omega⟩,by simp; omega⟩ (by simp; omega) h
  ·rw [List.map_append,ho.jobs]
   simp only [List.map_cons,List.map_nil,zCa]
   rw [zOq ht']
  ·rcases List.mem_append.1 hy with hy | hy
   ·exact ho.ok y hy
   ·rw [List.mem_singleton.1 hy]
    obtain ⟨g1,g2,g3,g4,g5⟩:=ht'
    refine ⟨⟨by rw [zFH ⟨g1,g2,g3,g4,g5⟩]; exact hon.1,hon.2.1,by simp only; rw [g3,g4]; exact hon.2.2⟩,fun x hx=>?_,hhl⟩
    have h1:x.1 ∈ t.ops.map Prod.fst:=by rw [← g5]; exact List.mem_map.2 ⟨x,hx,rfl⟩
    obtain ⟨y,hy2,e⟩:=List.mem_map.1 h1
    rw [← e]; exact hnn y hy2
 ·have hye:∃ j ∈ S.jobs,j.tag = tag:=hjm.2 ⟨j,by rw [hJ]; simp,hj⟩
  rw [if_pos hye] at h
  refine s_t ?_ (by rfl)
  refine yB (b:=ib) (l:=itV kind ix tag t ms) (x:=kind) ?_
  unfold zU.s4
  refine zF (fun h1=>?_) fun h1=>?_
  ·have h1':kind = 1:=by simpa using h1
   simp only [h1',if_true] at h
   refine zB (Δ:=zFK sd st l n (T + 1) (zKi r kind ix tag t mks S) a b c F' J Γ) ?_
   rw [h1'] at ho1 ⊢
   exact zYF ho1 hT h
  ·have h1':¬ kind = 1:=by simpa using h1
   simp only [h1',if_false] at h
   refine s_f ?_ (by rfl)
   refine zB (Δ:=zFK sd st l n (T + 1) (zKi r kind ix tag t mks S) a b c F' J (rgB rb r::tgB tb tag::itB ib kind ix tag t ms::Γ)) ?_
   exact S2 hJ hA hj rfl ho1 (by omega) h
end
end
end Go.Proofs.YtdemfamgieonbaaGreat
namespace Go.Sep
section
open Go Go.RowKit
abbrev zHX (r:Loop):Loop:={ r with state:=.busy }
abbrev zSG (r:Loop) (J:Exit):Loop:={ r with state:=.done,pending:=some (zRB J) }
abbrev zbd (r:Loop):Prop:=r.state = .ready∧r.pending = none
def Aft (B:World) (l:Nat) (r:Loop) (J:Exit) (a j:K):K:=fun w=>(∃ Δ,Holds B (blk l (.loop r)::Δ) w∧HG B Δ a)∨(∃ Δ,Holds B (blk l (.loop (zSG r J))::Δ) w∧HG B Δ j)
section
variable {P:Program} {B:World} {Γ Δ:List zC} {l:Nat} {r:Loop} {J:Exit} {k a j:K}
theorem zYH (h:HG B Δ a) [p:Own l Γ (blk l (.loop r)) Δ]:HG B Γ (Aft B l r J a j):=fun w hw=>.inl ⟨Δ,hw.perm p.perm,h⟩
theorem zYI (h:HG B Δ j) [p:Own l Γ (blk l (.loop (zSG r J))) Δ]:HG B Γ (Aft B l r J a j):=fun w hw=>.inr ⟨Δ,hw.perm p.perm,h⟩
theorem zSH (h:HG B (blk l (.loop (zHX r))::Δ) k) [p:Own l Γ (blk l (.loop r)) Δ]:HG B Γ (zMM l r k):=fun w hw=>
 ⟨(hw.perm p.perm).block,h _ (j3 (hw.perm p.perm))⟩
theorem zYJ (hr:zbd r) (h:HG B (blk l (.loop r)::Δ) k) [p:Own l Γ (blk l (.loop (zHX r))) Δ]:HG B Γ (zO7 l (zHX r) k):=fun w hw=>by
 refine ⟨(hw.perm p.perm).block,h _ ?_⟩
 have h1:=j3 (o':=.loop { zHX r with state:=.ready,pending:=none }) (hw.perm p.perm)
 have e:({ zHX r with state:=.ready,pending:=none }:Loop) = r:=by
  obtain ⟨h1,h2⟩:=hr
  cases r; simp only at h1 h2; subst h1; subst h2; rfl
 rw [e] at h1 ⊢
 exact h1
theorem zZp (h:HG B (blk l (.loop (zSG r J))::Δ) k) [p:Own l Γ (blk l (.loop (zHX r))) Δ]:HG B Γ (zRC l (zHX r) J k):=fun w hw=>
 ⟨(hw.perm p.perm).block,h _ (j3 (hw.perm p.perm))⟩
theorem zQc {D:Nat} (h:HG B Δ k) [p:Own D Γ (blk D (.deferred (some []))) Δ]:HG B Γ (jm D k):=fun w hw=>
 zTh (hw.perm p.perm) fun w hw=>h w hw
theorem zU3 {f:Value} {args:List Value} {kk:Value→K} (h:HG B Γ (jk P f args (YN (kk (.bool true)) (kk (.bool false))))):HG B Γ (jk P f args kk):=fun w hw=>
 zMG (h w hw) fun v w hv=>by
  rcases hv with ⟨rfl,h⟩ | ⟨rfl,h⟩ <;> exact h
theorem zKn {α:Type} {c:α→Value} {x:α} {k:α→K} (h:HG B Γ (k x)):HG B Γ (yO c k (c x)):=fun w hw=>⟨x,rfl,h w hw⟩
theorem zSI {α:Type} {g:FuncId} {cs:List Value} {cX:α→List Value} {body:(K→K)→K→K→α→K} {after afterJ:Nat→K} (hc:callable P g = true)
  (h:∀ D l r,zbd r→(∀ (x:α) (kN kJ:K) (Δ:List zC),HG B (blk l (.loop r)::Δ) (body (zMM l r) (zO7 l (zHX r) kN) (zRC l (zHX r) J kJ) x)→HG B (blk l (.loop r)::Δ) (jk P (yv l) (cX x) (YN kN kJ))) →
   HG B (blk l (.loop r)::blk D (.deferred (some []))::Γ) (zL P g (yv l::cs).toArray fun _=>Aft B l r J (after D) (afterJ D))) :
  HG B Γ (jO P (.func (.func g) #[] cs.toArray) J cX body after afterJ):=fun w hw=>by
 refine ⟨g,cs.toArray,rfl,hc,fun r w1 h1 h2 h3 hw1 hy=>?_⟩
 have h4:=hw.alloc (.deferred (some []))
 have h5:=h4.alloc (.loop r)
 have e:({ w with heap:=w.heap.push (.deferred (some [])) }:World).heap.size = w.heap.size + 1:=by simp
 rw [e] at h5
 subst hw1
 have h6:=h w.heap.size (w.heap.size + 1) r ⟨h1,h2⟩ (fun x kN kJ Δ hb w hw=>⟨_,rfl,hy x kN kJ w hw.block (hb w hw)⟩) _ h5
 refine (show Calls P g (yv (w.heap.size + 1)::cs).toArray _ (Ret _) from h6).mono fun e w3 he=>?_
 cases e with
 | returned v=>
  rcases he with ⟨Δ,h7,h8⟩ | ⟨Δ,h7,h8⟩
  ·exact .inl ⟨h7.block,h8 _ (j3 (o':=.loop { r with state:=.exhausted }) h7).tail⟩
  ·exact .inr ⟨h7.block,h8 _ (j3 (o':=.loop { r with state:=.exhausted,pending:=some (zRB J) }) h7).tail⟩
 | panicked c=>exact he.elim
 | outgrown=>exact he.elim
end
end
section
open Go Go.RowKit
namespace Bt
structure BtW (κ:Type) extends BtT κ where
 fAll:Nat
 tPT:Nat
 nwalkC:Option Addr→Option Addr→Value→(Bool→K)→K
section
variable {κ:Type}
def zEV (G:BtW κ) (Q:Bool→K) (X2:(Option Addr)→Int→K) (i7_4:Int) (t74_4:Bool):K :=
 Ite t74_4
  (Q false)
  (Ar (IntKind.wrap .i64 (i7_4 + 1)) fun t26=>
  X2 none t26)
def zHY (G:BtW κ) (Q:Bool→K) (X2:(Option Addr)→Int→K) (n0_3:Addr) (yield2_3:Value) (i7_3:Int) (t46_3:Bool):K :=
 Ite t46_3
  (Q false)
  (Dr<|
  Ld n0_3 Sl.val fun t51=>
  Ite (decide (i7_3 < (t51.n:Int)))
   (Ld n0_3 Sl.val fun t59=>
   Idx t59 i7_3 (G.nv + 1) fun t61=>
   Ld t61 G.kV fun t63=>
   Ld n0_3 Sl.val fun t67=>
   Idx t67 i7_3 (G.nv + 1) fun t69=>
   LdN (t69.add 1) G.nv fun t71=>
   jk G.P yield2_3 [(G.kV t63),(.agg t71)] <| yO (fun (t72:Bool)=>Value.bool t72) fun t72=>
   zEV G Q X2 i7_3 (!t72))
   (zEV G Q X2 i7_3 false))
def zNT (G:BtW κ) (Q:Bool→K)  (X2:(Option Addr)→Int→K) (n0_2:(Option Addr)) (yield2_2:Value) (from1_2:(Option Addr)) (i7_2:Int):K :=
 Nn n0_2 fun t20=>
 Ld t20 Sl.val fun t22=>
 Ite (decide (i7_2 ≤ (t22.n:Int)))
  (Ld (t20.add 1) Sl.val fun t31=>
  Ite (decide (i7_2 < (t31.n:Int)))
   (Ld (t20.add 1) Sl.val fun t38=>
   Idx t38 i7_2 1 fun t40=>
   Ld t40 Value.pointer fun t41=>
   G.nwalkC t41 from1_2 yield2_2 fun t44=>
   zHY G Q X2 t20 yield2_2 i7_2 (!t44))
   (zHY G Q X2 t20 yield2_2 i7_2 false))
  (Q true)
def zJ1 (G:BtW κ) (Q:Bool→K)  (n0_1:(Option Addr)) (from1_1:(Option Addr)) (yield2_1:Value) (i7_1:Int):K :=
 yJ (α:=(Option Addr)×Int) (fun X x=>zNT G Q (fun from1_2 i7_2=>X (from1_2,i7_2)) n0_1 yield2_1 x.1 x.2) (from1_1,i7_1)
def zU4 (G:BtW κ) (n0:(Option Addr)) (from1:(Option Addr)) (yield2:Value) (Q:Bool→K):K :=
 Ite (!(from1).isNone)
  (Nn from1 fun t13=>
  Ld t13 G.kV fun t14=>
  G.nsearchC n0 t14 fun t15x0 t15x1=>
  zJ1 G Q n0 (some t13) yield2 t15x0)
  (zJ1 G Q n0 from1 yield2 0)
def zan (G:BtW κ) (yield0:Value) (t1:Addr) (Q:K):K :=
 Ld t1 Value.pointer fun t3=>
 Nn t3 fun t4=>
 Ld t4 Value.pointer fun t6=>
 G.nwalkC t6 none yield0 fun t8=>
 Q
end
structure zYK {κ:Type} (G:BtW κ) (c:κ→κ→Int):Prop extends BtOk G.toBtT c where
 walk:∀ n f y Q w,zU4 G n f y Q w→G.nwalkC n f y Q w
 cAll:callable G.P G.fAll = true
 all1:∀ y t Q w,zan G y t Q w→zL G.P G.fAll #[y,.pointer (some t)] (fun _=>Q) w
section
variable {κ:Type} {G:BtW κ} {c:κ→κ→Int} {B:World} {Γ Δ:List zC}
theorem zNU (ok:zYK G c) {F:Nat→zC} {E:zC} {L0:List G.It} {y:Value}
  (step:∀ i x,L0[i]? = some x→∀ (Δ:List zC) (kk:Value→K),HG B (F (i + 1)::Δ) (kk (.bool true))→HG B (E::Δ) (kk (.bool false))→HG B (F i::Δ) (jk G.P y [G.kV x.1,.agg x.2.1.toArray] kk)) :
  ∀ (d:Nat) {m b:Nat} {A L C:List G.It} {Γ:List zC} {Q:Bool→K},L0 = A++L++C→HG B (F (A.length + L.length)::yL G.toBtT d m b L::Γ) (Q true)→HG B (E::yL G.toBtT d m b L::Γ) (Q false) →
   HG B (F A.length::yL G.toBtT d m b L::Γ) (zU4 G (some ⟨b,0,none⟩) none y Q)
 | 0,m,b,A,L,C,Γ,Q,hL0,ht,hf=>by
  unfold zU4 zJ1
  refine s_f ?_
  refine zO b ?_
  refine zHs fun s kd hm hl=>?_
  refine yS s fun l1 l2 l3 l4=>?_
  refine yS kd fun m1 m2 m3 m4=>?_
  rw [zX G.f _ G.qy] at l1
  have hn:s.n = L.length:=(Nat.eq_of_mul_eq_mul_right (by omega) l1).symm
  have hkn:kd.n = 0:=by simpa using m1.symm
  have ht':HG B (F (A.length + L.length)::qG G.toBtT b s kd::vQ G.toBtT s L::vR G.toBtT kd []::Γ) (Q true):=by
   refine zO b ?_
   refine zB (Δ:=qG G.toBtT b s kd::vQ G.toBtT s L::vR G.toBtT kd []::F (A.length + L.length)::Γ) ?_
   exact zFm hm hl (zDZ ht)
  have hf':HG B (E::qG G.toBtT b s kd::vQ G.toBtT s L::vR G.toBtT kd []::Γ) (Q false):=by
   refine zO b ?_
   refine zB (Δ:=qG G.toBtT b s kd::vQ G.toBtT s L::vR G.toBtT kd []::E::Γ) ?_
   exact zFm hm hl (zDZ hf)
  refine zB (Δ:=F (A.length + min 0 L.length)::qG G.toBtT b s kd::vQ G.toBtT s L::vR G.toBtT kd []::Γ) ?_ (d:=by simpa using (inferInstance:Drops (qG G.toBtT b s kd::vQ G.toBtT s L::vR G.toBtT kd []::F A.length::Γ) (F A.length::qG G.toBtT b s kd::vQ G.toBtT s L::vR G.toBtT kd []::Γ)))
  refine xW (α:=Option Addr×Int) (ι:=Nat) (fun x i=>x = (none,(i:Int))∧i ≤ L.length + 1) (fun x i=>F (A.length + min i L.length)::qG G.toBtT b s kd::vQ G.toBtT s L::vR G.toBtT kd []::Γ) (fun x i=>L.length + 1 - i) 0 ⟨rfl,Nat.zero_le _⟩ ?_
  rintro k' _ i ⟨rfl,hi⟩ hk'
  simp only at hk' ⊢
  unfold zNT
  refine uP ?_
  refine yB (b:=b) (x:=s) ?_
  refine zF (fun hb=>?_) fun hb=>?_
  ·have hiL:i ≤ L.length:=by simp only [decide_eq_true_eq] at hb; omega
   rw [Nat.min_eq_left hiL]
   refine yB (b:=b) (x:=kd) ?_
   refine s_f ?_
   unfold zHY
   refine s_f ?_
   refine vo ?_
   refine yB (b:=b) (x:=s) ?_
   refine zF (fun hb2=>?_) fun hb2=>?_
   ·have hil:i < L.length:=by simp only [decide_eq_true_eq] at hb2; omega
    have hge:L[i]? = some L[i]:=List.getElem?_eq_getElem hil
    generalize L[i] = x at hge
    have hge0:L0[A.length + i]? = some x:=by
     rw [hL0,List.append_assoc,List.getElem?_append_right (by omega),Nat.add_sub_cancel_left,List.getElem?_append_left hil,hge]
    refine yB (b:=b) (x:=s) ?_
    refine vg (s:=s) (i:=i) ?_
    refine zCi (s:=s) (x:=x.1) (by exact (zKz (off:=0) G.qy hge (by omega)).trans rfl) ?_
    refine yB (b:=b) (x:=s) ?_
    refine vg (s:=s) (i:=i) ?_
    refine zFB (s:=s) (off:=1) (l':=x.2.1) ?_ x.2.2.1 ?_
    ·have h1:=zDJ G.qy hge
     have e:((L.flatMap G.f).drop (i * (G.nv + 1) + 1)).take G.nv = (((L.flatMap G.f).drop (i * (G.nv + 1))).take (G.nv + 1)).drop 1:=by rw [← List.drop_drop,List.drop_take]; rfl
     rw [e,h1]; rfl
    refine step _ x hge0 _ _ ?_ ?_
    ·refine zKn ?_
     unfold zEV
     refine s_f ?_
     refine qB ?_
     have:=hk' (none,(i:Int) + 1) (i + 1) ⟨by simp,by omega⟩ (by omega)
     rw [Nat.min_eq_left (show i + 1 ≤ L.length from hil)] at this
     exact this
    ·refine zKn ?_
     unfold zEV
     exact s_t hf'
   ·have hil:i = L.length:=by simp only [decide_eq_false_iff_not] at hb2; omega
    unfold zEV
    refine s_f ?_
    refine qB ?_
    have:=hk' (none,(i:Int) + 1) (i + 1) ⟨by simp,by omega⟩ (by omega)
    rw [Nat.min_eq_right (by omega)] at this
    rw [hil]
    rw [hil] at this
    exact this
  ·have hil:¬ i ≤ L.length:=by simp only [decide_eq_false_iff_not] at hb; omega
   rw [Nat.min_eq_right (by omega)]
   exact ht'
 | d + 1,m,b,A,L,C,Γ,Q,hL0,ht,hf=>by
  unfold zU4 zJ1
  refine s_f ?_
  refine zO b ?_
  refine zJX fun s kd q0 ps hne hl hM=>?_
  subst hM
  refine yS s fun l1 l2 l3 l4=>?_
  refine yS kd fun m1 m2 m3 m4=>?_
  rw [zX G.f _ G.qy] at l1
  have hn:s.n = ps.length:=by
   have:=Nat.eq_of_mul_eq_mul_right (by omega) l1
   simpa using this.symm
  have hkn:kd.n = ps.length + 1:=by simpa using m1.symm
  have ht':HG B (F (A.length + (psL q0 ps).length)::qG G.toBtT b s kd::vQ G.toBtT s (ps.map Prod.fst)::vR G.toBtT kd ((q0::ps.map Prod.snd).map ptr)::qY G.toBtT d (q0::ps.map Prod.snd)::Γ) (Q true):=by
   refine zO b ?_
   refine zB (Δ:=qG G.toBtT b s kd::vQ G.toBtT s (ps.map Prod.fst)::vR G.toBtT kd ((q0::ps.map Prod.snd).map ptr)::qY G.toBtT d (q0::ps.map Prod.snd)::F (A.length + (psL q0 ps).length)::Γ) ?_
   exact zG6 hne hl (zDZ ht)
  have hf':HG B (E::qG G.toBtT b s kd::vQ G.toBtT s (ps.map Prod.fst)::vR G.toBtT kd ((q0::ps.map Prod.snd).map ptr)::qY G.toBtT d (q0::ps.map Prod.snd)::Γ) (Q false):=by
   refine zO b ?_
   refine zB (Δ:=qG G.toBtT b s kd::vQ G.toBtT s (ps.map Prod.fst)::vR G.toBtT kd ((q0::ps.map Prod.snd).map ptr)::qY G.toBtT d (q0::ps.map Prod.snd)::E::Γ) ?_
   exact zG6 hne hl (zDZ hf)
  let pos:Option (List (Kid G.toBtT×G.It)×Kid G.toBtT×List (G.It×Kid G.toBtT))→Nat:=fun i=>match i with
   | none=>A.length + (psL q0 ps).length
   | some (l,_,_)=>A.length + (zCt l).length
  let num:Option (List (Kid G.toBtT×G.It)×Kid G.toBtT×List (G.It×Kid G.toBtT))→Nat:=fun i=>match i with
   | none=>ps.length + 1
   | some (l,_,_)=>l.length
  let Gd:Option (List (Kid G.toBtT×G.It)×Kid G.toBtT×List (G.It×Kid G.toBtT))→Prop:=fun i=>match i with
   | none=>True
   | some (l,q,r)=>ps.map Prod.fst = l.map Prod.snd++r.map Prod.fst∧q0::ps.map Prod.snd = l.map Prod.fst++q::r.map Prod.snd∧psL q0 ps = zCt l++q.2++zBg r
  refine zB (Δ:=F (pos (some ([],q0,ps)))::qG G.toBtT b s kd::vQ G.toBtT s (ps.map Prod.fst)::vR G.toBtT kd ((q0::ps.map Prod.snd).map ptr)::qY G.toBtT d (q0::ps.map Prod.snd)::Γ) ?_ (d:=by
   show Drops _ (F A.length::_)
   infer_instance)
  refine xW (α:=Option Addr×Int) (ι:=Option (List (Kid G.toBtT×G.It)×Kid G.toBtT×List (G.It×Kid G.toBtT))) (fun x i=>x = (none,(num i:Int))∧Gd i)
   (fun x i=>F (pos i)::qG G.toBtT b s kd::vQ G.toBtT s (ps.map Prod.fst)::vR G.toBtT kd ((q0::ps.map Prod.snd).map ptr)::qY G.toBtT d (q0::ps.map Prod.snd)::Γ) (fun x i=>ps.length + 1 - num i) (some ([],q0,ps)) ⟨rfl,rfl,rfl,rfl⟩ ?_
  rintro k' _ i ⟨rfl,hg1⟩ hk'
  simp only at hk' ⊢
  unfold zNT
  refine uP ?_
  refine yB (b:=b) (x:=s) ?_
  match i,hg1,hk' with
  | none,_,hk'=>
   refine s_f ?_ (by simp only [num,decide_eq_false_iff_not]; omega)
   exact ht'
  | some (l,q,r),⟨g1,g2,g3⟩,hk'=>
   simp only [pos,num] at hk' ⊢
   have hlen:ps.length = l.length + r.length:=by have:=congrArg List.length g1; simpa using this
   refine s_t ?_ (by simp only [decide_eq_true_eq]; omega)
   refine yB (b:=b) (x:=kd) ?_
   refine s_t ?_ (by simp only [decide_eq_true_eq]; omega)
   refine yB (b:=b) (x:=kd) ?_
   refine vg (s:=kd) (i:=l.length) ?_
   rw [g2]
   refine zCi (s:=kd) (x:=ptr q) (by simp) ?_
   refine ze (qY G.toBtT d (l.map Prod.fst++q::r.map Prod.snd)) ?_
   refine zIY ?_
   refine fun w hw=>ok.walk _ _ _ _ _ ?_
   refine hg hw ?_
   clear hw w
   have hbk:∀ {X:zC} {kk:K},HG B (X::qG G.toBtT b s kd::vQ G.toBtT s (ps.map Prod.fst)::vR G.toBtT kd ((q0::ps.map Prod.snd).map ptr)::qY G.toBtT d (q0::ps.map Prod.snd)::Γ) kk →
     HG B (X::yL G.toBtT d 2 q.1 q.2::qY G.toBtT d (l.map Prod.fst++r.map Prod.snd)::qG G.toBtT b s kd::vQ G.toBtT s (ps.map Prod.fst)::vR G.toBtT kd ((l.map Prod.fst++q::r.map Prod.snd).map ptr)::Γ) kk:=fun {X kk} h=>by
    refine zO q.1 ?_
    refine zB (Δ:=yL G.toBtT d 2 q.1 q.2::qY G.toBtT d (l.map Prod.fst++r.map Prod.snd)::X::qG G.toBtT b s kd::vQ G.toBtT s (ps.map Prod.fst)::vR G.toBtT kd ((l.map Prod.fst++q::r.map Prod.snd).map ptr)::Γ) ?_
    refine zDe ?_
    rw [← g2]
    exact zB h
   have eA:A.length + (zCt l).length = (A++zCt l).length:=by simp
   rw [eA]
   refine zB (Δ:=F (A++zCt l).length::yL G.toBtT d 2 q.1 q.2::qY G.toBtT d (l.map Prod.fst++r.map Prod.snd)::qG G.toBtT b s kd::vQ G.toBtT s (ps.map Prod.fst)::vR G.toBtT kd ((l.map Prod.fst++q::r.map Prod.snd).map ptr)::Γ) ?_
   have hL0':L0 = (A++zCt l)++q.2++(zBg r++C):=by rw [hL0,g3]; simp
   refine zNU ok step d (C:=zBg r++C) hL0' (hbk ?_) (hbk ?_)
   ·unfold zHY
    refine s_f ?_
    refine vo ?_
    refine yB (b:=b) (x:=s) ?_
    cases r with
    | nil=>
     refine s_f ?_ (by simp only [List.length_nil] at hlen; simp only [decide_eq_false_iff_not]; omega)
     unfold zEV
     refine s_f ?_
     refine qB ?_
     have:=hk' (none,(l.length:Int) + 1) none ⟨by simp only [num]; simp only [List.length_nil] at hlen; rw [hlen]; simp,trivial⟩ (by simp only [num]; omega)
     simp only [pos] at this
     have e2:(A++zCt l).length + q.2.length = A.length + (psL q0 ps).length:=by rw [g3]; simp [zBg]; omega
     rw [e2]; exact this
    | cons p r=>
     obtain ⟨x,q'⟩:=p
     refine s_t ?_ (by simp only [List.length_cons] at hlen; simp only [decide_eq_true_eq]; omega)
     have hge:(ps.map Prod.fst)[l.length]? = some x:=by rw [g1]; simp
     have hge0:L0[(A++zCt l).length + q.2.length]? = some x:=by
      rw [hL0',show A++zCt l++q.2++(zBg ((x,q')::r)++C) = (A++zCt l++q.2)++x::(q'.2++zBg r++C) by simp [zBg]]
      rw [List.getElem?_append_right (by simp; omega)]
      have e9:(A++zCt l).length + q.2.length - (A++zCt l++q.2).length = 0:=by simp only [List.length_append]; omega
      rw [e9]; rfl
     refine yB (b:=b) (x:=s) ?_
     refine vg (s:=s) (i:=l.length) ?_ rfl (by simp only [List.length_cons] at hlen; omega)
     refine zCi (s:=s) (x:=x.1) (by exact (zKz (off:=0) G.qy hge (by omega)).trans rfl) ?_
     refine yB (b:=b) (x:=s) ?_
     refine vg (s:=s) (i:=l.length) ?_ rfl (by simp only [List.length_cons] at hlen; omega)
     refine zFB (s:=s) (off:=1) (l':=x.2.1) ?_ x.2.2.1 ?_
     ·have h1:=zDJ G.qy hge
      have e:(((ps.map Prod.fst).flatMap G.f).drop (l.length * (G.nv + 1) + 1)).take G.nv = ((((ps.map Prod.fst).flatMap G.f).drop (l.length * (G.nv + 1))).take (G.nv + 1)).drop 1:=by rw [← List.drop_drop,List.drop_take]; rfl
      rw [e,h1]; rfl
     refine step _ x hge0 _ _ ?_ ?_
     ·refine zKn ?_
      unfold zEV
      refine s_f ?_
      refine qB ?_
      have:=hk' (none,(l.length:Int) + 1) (some (l++[(q,x)],q',r)) ⟨by simp [num],by rw [g1]; simp,by rw [g2]; simp,by rw [g3]; simp [zCt,zBg]⟩ (by simp only [num,List.length_append,List.length_cons,List.length_nil]; simp only [List.length_cons] at hlen; omega)
      simp only [pos] at this
      have e2:A.length + (zCt (l++[(q,x)])).length = (A++zCt l).length + q.2.length + 1:=by simp [zCt]; omega
      rw [e2] at this; exact this
     ·refine zKn ?_
      unfold zEV
      exact s_t hf'
   ·unfold zHY
    exact s_t hf'
theorem zTS (ok:zYK G c) {t cb:Nat} {J:Exit} {F:Nat→zC} {E:zC} {L:List G.It} {body:(K→K)→K→K→κ×Array Value→K} {after afterJ:Nat→K}
  (step:∀ i x,L[i]? = some x→∀ l r kN kJ (Δ:List zC),zbd r→HG B (F (i + 1)::blk l (.loop r)::Δ) kN→HG B (E::blk l (.loop (zSG r J))::Δ) kJ →
   HG B (F i::blk l (.loop r)::Δ) (body (zMM l r) (zO7 l (zHX r) kN) (zRC l (zHX r) J kJ) (x.1,x.2.1.toArray)))
  (ht:∀ D,HG B (F L.length::blk D (.deferred (some []))::blk cb (.cells [.pointer (some ⟨t,0,none⟩)].toArray G.tPT (0,0))::vv G.toBtT c t L::Γ) (after D))
  (hj:∀ D,HG B (E::blk D (.deferred (some []))::blk cb (.cells [.pointer (some ⟨t,0,none⟩)].toArray G.tPT (0,0))::vv G.toBtT c t L::Γ) (afterJ D)) :
  HG B (F 0::blk cb (.cells [.pointer (some ⟨t,0,none⟩)].toArray G.tPT (0,0))::vv G.toBtT c t L::Γ) (jO G.P (.func (.func G.fAll) #[] #[.pointer (some ⟨cb,0,none⟩)]) J (fun x:κ×Array Value=>[G.kV x.1,.agg x.2]) body after afterJ):=by
 refine zSI (cs:=[.pointer (some ⟨cb,0,none⟩)]) ok.cAll fun D l r hr hy=>?_
 refine fun w hw=>ok.all1 _ _ _ _ ?_
 refine hg hw ?_
 clear hw w
 unfold zan
 refine yB (b:=cb) (x:=some ⟨t,0,none⟩) ?_
 refine uP ?_
 refine zO t ?_
 refine zMY fun d b hs=>?_
 refine yB (b:=t) (x:=some ⟨b,0,none⟩) ?_
 refine fun w hw=>ok.walk _ _ _ _ _ ?_
 refine hg hw ?_
 clear hw w
 let F':Nat→zC:=fun i=>Sep.stars [F i,blk l (.loop r)]
 let E':zC:=Sep.stars [E,blk l (.loop (zSG r J))]
 have hin:∀ {X Y:zC} {Δ:List zC} {k:K},HG B (X::Y::Δ) k→HG B (Sep.stars [X,Y]::Δ) k:=fun h=>zBr h
 have hout:∀ {X Y:zC} {Δ:List zC} {k:K},HG B (Sep.stars [X,Y]::Δ) k→HG B (X::Y::Δ) k:=fun {X Y Δ k} h=>zEQ (Δ:=[X,Y]) h
 refine zB (Δ:=F 0::blk l (.loop r)::yL G.toBtT d 1 b L::blk t (.cells [.pointer (some ⟨b,0,none⟩),.int .i64 L.length].toArray G.tT (0,0))::blk D (.deferred (some []))::blk cb (.cells [.pointer (some ⟨t,0,none⟩)].toArray G.tPT (0,0))::Γ) ?_
 refine hout ?_
 refine zNU ok (F:=F') (E:=E') (L0:=L) (fun i x hx Δ kk h1 h2=>?_) d (A:=[]) (C:=[]) (by simp) ?_ ?_
 ·refine zU3 ?_
  refine hin ?_
  refine zDZ ?_
  refine hy (x.1,x.2.1.toArray) _ _ _ ?_
  refine zDZ ?_
  exact step i x hx l r _ _ _ hr (hout h1) (hout h2)
 ·refine hin ?_
  refine zYH ?_
  simp only [List.length_nil,Nat.zero_add]
  refine zO t ?_
  refine zO b ?_
  refine zDZ ?_
  refine zDf hs ?_
  exact zB (ht D)
 ·refine hin ?_
  refine zYI ?_
  refine zO t ?_
  refine zO b ?_
  refine zDZ ?_
  refine zDf hs ?_
  exact zB (hj D)
end
end Bt
end
end Go.Sep
namespace Go.Proofs.YtdemfamgieonbaaGreat
section
open Go Go.Sep Go.Sep.Bt
noncomputable def zdZ:BtW ByteArray where
 toBtT:=btS
 fAll:=163
 tPT:=jP
 nwalkC:=zG.call
theorem zZq:zYK zdZ vN where
 toBtOk:=zFE
 walk:=fun n f y Q w h=>zCj _ _ _ _ _ h
 cAll:=by kernel_rfl
 all1:=fun y t Q w h=>by
  have h1:=zCW y t Q w h
  exact zMF h1 fun v w h=>h.2
def zOu (o:Nat) (X:List zAG) (i:Nat):zC:=ex fun s=>ex fun Y:List zAG=>Sep.stars [pur (Y.map zAw = (X.take i).map zAw),blk o (.cells [s.val].toArray zBo (0,0)),SlC yY 5 s (Y.flatMap xL),Sep.stars (Y.map zAS),Sep.stars (X.map zAS)]
section
variable {B:World} {Γ Δ:List zC} {o i st n:Nat} {M:zy} {X:List zAG} {k:K}
theorem zU5 (h:∀ s (Y:List zAG),Y.map zAw = (X.take i).map zAw→HG B (blk o (.cells [s.val].toArray zBo (0,0))::SlC yY 5 s (Y.flatMap xL)::Sep.stars (Y.map zAS)::Sep.stars (X.map zAS)::Γ) k):HG B (zOu o X i::Γ) k :=
 zDI fun s=>zDI fun Y=>zBr <| zGd fun h1=>h s Y h1
theorem zOv {s:Sl} {Y:List zAG} (h1:Y.map zAw = (X.take i).map zAw) (h:HG B (zOu o X i::Γ) k):HG B (blk o (.cells [s.val].toArray zBo (0,0))::SlC yY 5 s (Y.flatMap xL)::Sep.stars (Y.map zAS)::Sep.stars (X.map zAS)::Γ) k:=fun w hw=>by
 refine h w ?_
 have h3:Holds B (Sep.stars [pur (Y.map zAw = (X.take i).map zAw),blk o (.cells [s.val].toArray zBo (0,0)),SlC yY 5 s (Y.flatMap xL),Sep.stars (Y.map zAS),Sep.stars (X.map zAS)]::Γ) w:=Holds.flat.2 (Holds.pur.2 ⟨h1,hw⟩)
 exact h3.imp fun g hg=>⟨s,Y,hg⟩
instance (priority:=high) zbq:Sep.Own o (zOu o X i::Γ) (zOu o X i) Γ:=⟨.refl _⟩
theorem zZr {Y:List zAG} {y:zAG} (h:HG B (Sep.stars ((Y++[y]).map zAS)::Γ) k):HG B (zAS y::Sep.stars (Y.map zAS)::Γ) k:=by
 have:=zAb (F:=zAS) (A:=Y) (C:=[]) (x:=y) h
 rwa [List.append_nil] at this
theorem zZs {Q:Sl→K} (hL:M.length < 10000000) (h:∀ s (Y:List zAG),Y.map zAw = M→HG B (SlC yY 5 s (Y.flatMap xL)::Sep.stars (Y.map zAS)::zk st n M::Γ) (Q s)):HG B (zk st n M::Γ) (zAu.call (some ⟨st,0,none⟩) Q):=by
 refine fun w hw=>zIG _ _ _ ?_
 refine hg hw ?_
 clear hw w
 refine zHt fun t X hM hok h1 h3=>?_
 have hXl:X.length = M.length:=by rw [hM]; simp
 unfold zAu
 refine zH fun o=>?_
 refine uP ?_
 repeat refine zT ?_
 refine fun w hw=>zCu _ _ _ ?_
 refine hg hw ?_
 clear hw w
 unfold vC
 refine zH fun cb=>?_
 refine fun w hw=>hg (show Holds B (SlC yY 5 ⟨none,0,0⟩ (([]:List zAG).flatMap xL)::_) w from hw.zAm _ _) ?_
 clear hw w
 refine fun w hw=>hg (show Holds B (Sep.stars (([]:List zAG).map zAS)::_) w from Holds.flat.2 hw) ?_
 clear hw w
 refine zB (Δ:=blk o (.cells [(⟨none,0,0⟩:Sl).val].toArray zBo (0,0))::SlC yY 5 ⟨none,0,0⟩ (([]:List zAG).flatMap xL)::Sep.stars (([]:List zAG).map zAS)::Sep.stars (X.map zAS)::blk cb (.cells [.pointer (some ⟨t,0,none⟩)].toArray jP (0,0))::vv btS vN t (X.map zAH)::blk st (.cells [.int .i64 n,.pointer (some ⟨t,0,none⟩)].toArray qQ (0,0))::Γ) ?_
 refine zOv (i:=0) (by simp) ?_
 refine zTS zZq (F:=zOu o X) (E:=pur False) (fun i x hx l r kN kJ Δ hr hN hJ=>?_) (fun D=>?_) fun D=>zGd fun hf=>hf.elim
 ·obtain ⟨y,hy,hxy⟩:∃ y,X[i]? = some y∧zAH y = x:=by
   have h0:(X.map zAH)[i]? = some (x:btS.It):=hx
   rw [List.getElem?_map] at h0
   exact Option.map_eq_some_iff.1 h0
  subst hxy
  have hil:i < X.length:=(List.getElem?_eq_some_iff.1 hy).1
  have hmem:y ∈ X:=List.mem_of_getElem? hy
  have htk:X.take (i + 1) = X.take i++[y]:=by
   rw [List.take_succ_eq_append_getElem hil,(List.getElem?_eq_some_iff.1 hy).2]
  have hyok:y.2.1.ok:=hok (zAw y) (by rw [hM]; exact List.mem_map.2 ⟨y,hmem,rfl⟩)
  refine zH fun r4=>?_
  refine qA (b:=r4) (l':=jh y.2.1 y.2.2) ?_
  refine zSH ?_
  refine zO o ?_
  refine zU5 fun s Y hY=>?_
  have hYl:Y.length = i:=by have:=congrArg List.length hY; simpa [Nat.min_eq_left (Nat.le_of_lt hil)] using this
  refine yS s fun a1 a2 a3 a4=>?_
  rw [zX _ 5 uo] at a1
  repeat refine zT ?_
  refine zBz (xs:=y.2.1.val) (fun w hw=>?_) hyok.2.2 fun s' hs'=>?_
  ·obtain ⟨Δ,h1⟩:=zIw hmem (hw.drops (Δ:=[Sep.stars (X.map zAS)]))
   exact h1.rdC List.mem_cons_self
  repeat refine zT ?_
  refine zH fun t20=>?_
  refine qN (s:=s) (esz:=5) (us:=xL (y.1,(y.2.1,s'))) (jX rfl) (by intro v hv; exact zHK [(y.1,(y.2.1,s'))] v (by simpa using hv)) (by simp only; omega) fun s2 hs2=>?_
  rw [show Y.flatMap xL++xL (y.1,(y.2.1,s')) = (Y++[(y.1,(y.2.1,s'))]).flatMap xL by simp only [List.flatMap_append,List.flatMap_cons,List.flatMap_nil,List.append_nil]]
  repeat refine zT ?_
  refine zYJ hr ?_
  refine zB (Δ:=zAS (y.1,(y.2.1,s'))::Sep.stars (Y.map zAS)::blk o (.cells [s2.val].toArray zBo (0,0))::SlC yY 5 s2 ((Y++[(y.1,(y.2.1,s'))]).flatMap xL)::Sep.stars (X.map zAS)::blk l (.loop r)::Δ) ?_
  refine zZr ?_
  refine zB (Δ:=blk o (.cells [s2.val].toArray zBo (0,0))::SlC yY 5 s2 ((Y++[(y.1,(y.2.1,s'))]).flatMap xL)::Sep.stars ((Y++[(y.1,(y.2.1,s'))]).map zAS)::Sep.stars (X.map zAS)::blk l (.loop r)::Δ) ?_
  exact zOv (by rw [htk,List.map_append,hY,List.map_append]; rfl) hN
 ·show HG B (zOu o X (X.map zAH:List btS.It).length::blk D (.deferred (some []))::blk cb (.cells [.pointer (some ⟨t,0,none⟩)].toArray jP (0,0))::vv btS vN t (X.map zAH)::blk st (.cells [.int .i64 n,.pointer (some ⟨t,0,none⟩)].toArray qQ (0,0))::Γ) _
  refine zU5 fun s Y hY=>?_
  repeat refine zT ?_
  refine zQc ?_
  repeat refine zT ?_
  have hY2:Y.map zAw = M:=hY.trans (by
   show ((X.take (X.map zAH:List btS.It).length).map zAw) = _
   rw [List.length_map,List.take_length,hM])
  refine ze (Sep.stars (X.map zAS)) ?_
  refine zO t ?_
  refine zO st ?_
  rw [hM] at h
  refine zBy (by rw [← hM]; exact hok) h1 h3 ?_
  exact zB (h s Y (by rw [hY2,hM]))
end
end
section
open Go Go.Sep Go.Sep.Bt
abbrev zFL (n:Nat):zBS:=⟨[],([],fun _=>false),List.replicate n ⟨-1,[]⟩,List.replicate n 0,[]⟩
section
variable {B:World} {Γ Δ:List zC} {k:K} {sd n T:Nat} {S:zBS} {t:TxX} {tag:y7}
theorem zYL {z:Value} {m:Nat} {Q:Sl→K} {T E by':Nat} (hT:Tryz.prog.underlying T = some (.slice E)) (hE:(Tryz.prog.info? E).map (fun i=>(i.zero,i.size,i.bytes)) = some (some z,1,by')) (hz:z.cells = #[z]) (hb:by' * m ≤ 281474976710656) (hm:m ≤ 9223372036854775807)
  (h:∀ s,s.n = m→HG B (SlC E 1 s (List.replicate m z)::Γ) (Q s)):HG B Γ (Do Tryz.prog (Instr.makeSlice T (.int .i64 (m:Int)) (.int .i64 (m:Int))) Sl.val Q):=fun w hw=>by
 have h1:=Go.run_make_row' (P:=Tryz.prog) T E z by' hT hE hz .i64 .i64 m hb hm w
 refine ⟨⟨some ⟨w.heap.size,0,none⟩,m,m⟩,_,h1,h ⟨some ⟨w.heap.size,0,none⟩,m,m⟩ rfl _ ?_⟩
 have h2:=hw.alloc (.cells (madeCells #[z] m) E (0,0))
 exact h2.imp (zAB (by
  apply List.ext_getElem?
  intro i
  by_cases hi:i < m <;> simp [madeCells,List.getElem?_range,List.getElem?_replicate,hi,Nat.mod_one]) (by simp))
theorem zKo {Q:Option Addr→Int→K} (h1:1 ≤ n) (h3:n ≤ 3) (h:∀ sd,HG B (zA2 sd n 0 (zFL n)::Γ) (Q (some ⟨sd,0,none⟩) 0)):HG B Γ (uh.call (n:Int) Q):=by
 refine fun w hw=>zQa _ _ _ ?_
 refine hg hw ?_
 clear hw w
 unfold uh
 refine zNg h1 h3 fun st=>?_
 refine s_f ?_
 refine vo ?_
 have rest:∀ (l:Nat) (fd:Sl),HG B (vX l [] (fun _=>false)::SlI fd (List.replicate n 0)::zk st n []::Γ) (New qK [.pointer (some ⟨st,0,none⟩),.pointer (some ⟨l,0,none⟩),Sl.val ⟨none,0,0⟩,fd.val,Sl.val ⟨none,0,0⟩].toArray fun t21=>uh.s1 Q (n:Int) (some t21)):=fun l fd=>by
  refine zH fun sd=>?_
  unfold uh.s1
  refine fun w hw=>hg (show Holds B (SlC jF 1 ⟨none,0,0⟩ ((([]:List FX).map zKj).map Value.pointer)::Sep.stars (([]:List FX).map (zGs 0))::SlC zAD 1 ⟨none,0,0⟩ ((([]:List zBH).map zEG).map Value.pointer)::Sep.stars (([]:List zBH).map zFc)::_) w from (((hw.zCn).zAm _ _).zCn).zAm _ _) ?_
  clear hw w
  refine zB (Δ:=zFK sd st l n 0 (zFL n) ⟨none,0,0⟩ fd ⟨none,0,0⟩ [] [] Γ) ?_
  refine xW (α:=Int) (ι:=Sl×List FX) (fun x i=>x = (i.2.length:Int)∧i.2.length ≤ n∧i.2.map FX.f = List.replicate i.2.length ⟨-1,[]⟩∧i.2.map FX.rg = (List.range i.2.length).map fun j:Nat=>(j:Int)) (fun x i=>zFK sd st l n 0 (zFL n) i.1 fd ⟨none,0,0⟩ i.2 [] Γ) (fun x i=>n - i.2.length) (⟨none,0,0⟩,[]) ⟨rfl,Nat.zero_le _,rfl,rfl⟩ ?_
  rintro k' _ ⟨fs,F⟩ ⟨rfl,hi,hF1,hF2⟩ hk'
  simp only at hi hF1 hF2 hk' ⊢
  unfold uh.b2
  refine zF (fun hb=>?_) fun hb=>?_
  ·have hin:F.length < n:=by simp only [decide_eq_true_eq] at hb; omega
   refine yS fs fun a1 a2 a3 a4=>?_
   rw [List.length_map,List.length_map,Nat.mul_one] at a1
   refine vo ?_
   refine zBE [blk sd (.cells (sdL st l fs fd ⟨none,0,0⟩).toArray qK (0,0))] ?_
   refine uP ?_
   refine jC (b:=sd) (off:=2) (l:=sdL st l fs fd ⟨none,0,0⟩) (x:=fs) ?_
   refine zOn fun fp=>?_
   refine zBC ?_
   refine zH fun t33=>?_
   refine zBC ?_
   refine qN (s:=fs) (us:=[.pointer (some ⟨fp,0,none⟩)]) (jX rfl) (by intro v hv; rw [List.mem_singleton.1 hv]; rfl) (by simp only; omega) fun fs2 hfs2=>?_
   refine zCB (b:=sd) (off:=2) (l:=sdL st l fs fd ⟨none,0,0⟩) (l':=sdL st l fs2 fd ⟨none,0,0⟩) ?_ rfl rfl
   refine qB ?_
   rw [show (F.map zKj).map Value.pointer++[.pointer (some ⟨fp,0,none⟩)] = ((F++[(⟨fp,(F.length:Int),⟨-1,[]⟩⟩:FX)]).map zKj).map Value.pointer by simp]
   refine zB (Δ:=zEw fp (F.length:Int) 0 ⟨-1,[]⟩::Sep.stars (F.map (zGs 0))::blk sd (.cells (sdL st l fs2 fd ⟨none,0,0⟩).toArray qK (0,0))::vX l [] (fun _=>false)::zk st n []::SlC zAD 1 ⟨none,0,0⟩ ((([]:List zBH).map zEG).map Value.pointer)::Sep.stars (([]:List zBH).map zFc)::SlC jF 1 fs2 (((F++[(⟨fp,(F.length:Int),⟨-1,[]⟩⟩:FX)]).map zKj).map Value.pointer)::SlI fd (List.replicate n 0)::Γ) ?_
   show HG B (zGs 0 ⟨fp,(F.length:Int),⟨-1,[]⟩⟩::_) _
   refine zH6 ?_
   refine zB (hk' ((F.length:Int) + 1) (fs2,F++[⟨fp,(F.length:Int),⟨-1,[]⟩⟩]) ⟨by simp,by simp; omega,?_,?_⟩ (by simp; omega))
   ·simp only [List.map_append,hF1,List.map_cons,List.map_nil,List.length_append,List.length_cons,List.length_nil]
    rw [List.replicate_succ']
   ·simp only [List.map_append,hF2,List.map_cons,List.map_nil,List.length_append,List.length_cons,List.length_nil]
    rw [List.range_succ,List.map_append]; rfl
  ·have hil:F.length = n:=by simp only [decide_eq_false_iff_not] at hb; omega
   rw [hil] at hF1 hF2
   refine zDE ⟨h1,h3,hF1,hF2,by simp [zFL],fun x hx=>?_,rfl,by simp,by simp,⟨0,⟨by simp [zFL],by simp [zFL]⟩,by simp⟩,by simp [zFL]⟩ (h sd)
   have:=List.eq_of_mem_replicate hx
   omega
 have mk:∀ {Δ:List zC} {Q':Sl→K},(∀ s,HG B (SlI s (List.replicate n 0)::Δ) (Q' s))→HG B Δ (Do Tryz.prog (Instr.makeSlice zRD (.int .i64 (n:Int)) (.int .i64 (n:Int))) Sl.val Q'):=fun {Δ Q'} hq=>
  zYL (by':=8) (z:=.int .i64 0) (by kernel_rfl) (by kernel_rfl) rfl (by omega) (by omega) fun s _=>by
   have:=hq s
   rw [SlI,List.map_replicate] at this
   exact this
 refine zIl ?_ ?_
 ·refine zK6 fun l=>?_
  refine mk fun fd=>?_
  exact zB (rest l fd)
 ·refine mk fun fd=>?_
  refine zK6 fun l=>?_
  exact zB (rest l fd)
theorem zNV {Q:Sl→K} (hT:T ≤ 20000) (h:∀ s,HG B (SlC vF 4 s ((S.jobs.map zCC.tag).flatMap qO)::zA2 sd n T S::Γ) (Q s)):HG B (zA2 sd n T S::Γ) (xC.call (some ⟨sd,0,none⟩) Q):=by
 refine fun w hw=>zGO _ _ _ ?_
 refine hg hw ?_
 clear hw w
 refine zJ0 fun st l a b c F J ho=>?_
 refine yS c fun a1 a2 a3 a4=>?_
 rw [List.length_map,List.length_map,Nat.mul_one] at a1
 have hjl:=ho.jl
 unfold xC
 refine uP ?_
 refine yB (b:=sd) (off:=4) (l:=sdL st l a b c) (x:=c) ?_
 refine fun w hw=>hg (show Holds B (SlC vF 4 ⟨none,0,0⟩ []::_) w from hw.zAm _ _) ?_
 clear hw w
 refine xW (α:=Sl×Int) (ι:=Nat) (fun x i=>x.2 = (i:Int)∧i ≤ J.length) (fun x i=>SlC vF 4 x.1 (((J.take i).map zBH.tag).flatMap qO)::zFK sd st l n T S a b c F J Γ) (fun x i=>J.length - i) 0 ⟨rfl,Nat.zero_le _⟩ ?_
 rintro k' ⟨o,_⟩ i ⟨rfl,hi⟩ hk'
 simp only at hi hk' ⊢
 unfold xC.b1
 refine zF (fun hb=>?_) fun hb=>?_
 ·have hil:i < J.length:=by simp only [decide_eq_true_eq] at hb; omega
  have hge:J[i]? = some J[i]:=List.getElem?_eq_getElem hil
  have hmem:J[i] ∈ J:=List.getElem_mem hil
  have htk:J.take (i + 1) = J.take i++[J[i]]:=List.take_succ_eq_append_getElem hil
  generalize J[i] = e at hge htk hmem
  refine yS o fun b1 b2 b3 b4=>?_
  rw [zX _ 4 zRv,List.length_map,List.length_take,Nat.min_eq_left hi] at b1
  refine zAd (c:=Value.pointer) (L:=J.map zEG) (j:=i) (x:=zEG e) (fun w hw=>(yP (s:=c) hw).1) (by rw [List.getElem?_map,hge]; rfl) ?_
  refine uP ?_
  obtain ⟨A,C,hAC⟩:=List.append_of_mem hmem
  have hJ2:Sep.stars (J.map zFc) = Sep.stars ((A++e::C).map zFc):=by rw [hAC]
  refine ze (Sep.stars (J.map zFc)) ?_
  rw [hJ2]
  refine zFk ?_
  refine zSC ?_
  refine qI (b:=e.b) (l:=zNz e) (l':=qO e.tag) ?_
  refine zJz ?_
  refine zAb ?_
  rw [← hJ2]
  refine zBf (cs:=qO e.tag) ?_
  refine zH fun t20=>?_
  refine qN (s:=o) (esz:=4) (us:=qO e.tag) (jX rfl) (by simp [yu]) (by simp only; omega) fun o' _=>?_
  refine qB ?_
  rw [show ((J.take i).map zBH.tag).flatMap qO++qO e.tag = ((J.take (i + 1)).map zBH.tag).flatMap qO by rw [htk]; simp]
  exact zB (hk' (o',(i:Int) + 1) (i + 1) ⟨by simp,hil⟩ (by omega))
 ·have hil:i = J.length:=by simp only [decide_eq_false_iff_not] at hb; omega
  rw [hil,List.take_length]
  have hjt:J.map zBH.tag = S.jobs.map zCC.tag:=by rw [← ho.jobs,List.map_map]; rfl
  rw [hjt]
  refine zw b ?_
  refine ze (Sep.stars (F.map (zGs T))) ?_
  refine zw a ?_
  refine ze (Sep.stars (J.map zFc)) ?_
  refine zw c ?_
  refine zO st ?_
  refine zO l ?_
  refine zO sd ?_
  refine zDE ho ?_
  exact zB (h o)
theorem zYM {Q:Sl→K} (hT:T ≤ 20000) (h:∀ s (Y:List zAG),Y.map zAw = S.M→HG B (SlC yY 5 s (Y.flatMap xL)::Sep.stars (Y.map zAS)::zA2 sd n T S::Γ) (Q s)):HG B (zA2 sd n T S::Γ) (zAs.call (some ⟨sd,0,none⟩) Q):=by
 refine fun w hw=>zIQ _ _ _ ?_
 refine hg hw ?_
 clear hw w
 refine zJ0 fun st l a b c F J ho=>?_
 have:=ho.ml
 unfold zAs
 refine uP ?_
 refine yB (b:=sd) (l:=sdL st l a b c) (x:=some ⟨st,0,none⟩) ?_
 refine zO st ?_
 refine zZs (by omega) fun s Y hY=>?_
 refine zw b ?_
 refine ze (Sep.stars (F.map (zGs T))) ?_
 refine zw a ?_
 refine ze (Sep.stars (J.map zFc)) ?_
 refine zw c ?_
 refine zO st ?_
 refine zO l ?_
 refine zO sd ?_
 refine zDE ho ?_
 exact zB (h s Y hY)
theorem zSJ {Q:Array Value→K} (hr:∀ w,Holds B Γ w→zCX w t) (hl:t.reads.length ≤ 1000∧t.writes.length ≤ 1000∧t.ops.length ≤ 1000∧∀ x ∈ t.ops,x.1.val.length ≤ 1000000) (hk:∀ x ∈ t.reads++t.writes,x.length ≤ 1000)
  (h:∀ t' ms,zVq t' t→HG B (SlC qC 3 ms ((zCS n S.M (xq (t.reads++t.writes))).flatMap mkL)::zA2 sd n T S::txC t' Γ) (Q (orV tag t' ms).toArray)) :
  HG B (zA2 sd n T S::Γ) (jq.call (some ⟨sd,0,none⟩) (qO tag).toArray (txL t).toArray Q):=by
 refine fun w hw=>zIO _ _ _ _ _ ?_
 refine hg hw ?_
 clear hw w
 refine zJ0 fun st l a b c F J ho=>?_
 unfold jq
 refine zH fun tag4=>?_
 refine zH fun t5=>?_
 refine zH fun t6=>?_
 refine vo ?_
 refine uP ?_
 refine yB (b:=sd) (l:=sdL st l a b c) (x:=some ⟨st,0,none⟩) ?_
 refine qI (b:=tag4) (l:=qO tag) (l':=qO tag) ?_
 refine qI (b:=t5) (l:=txL t) (l':=txL t) ?_
 refine zO st ?_
 refine zZi (t:=t) (fun w hw=>hr w (hw.drops (Δ:=Γ))) hl hk fun t' ms ht'=>?_
 refine qA (b:=t6) (l':=orV tag t' ms) ?_
 refine qI (b:=t6) (l:=orV tag t' ms) (l':=orV tag t' ms) ?_
 refine zw b ?_
 refine ze (Sep.stars (F.map (zGs T))) ?_
 refine zw a ?_
 refine ze (Sep.stars (J.map zFc)) ?_
 refine zw c ?_
 refine zO st ?_
 refine zO l ?_
 refine zO sd ?_
 refine zDE ho ?_
 exact zB (h t' ms ht')
end
end
section
open Go Go.Sep Go.Sep.Bt
structure JInv (mk:y7→List MkX) (tx:y7→TxX) (T:y7→Prop) (G:GM×DM) (J:List zCC):Prop where
 nd:(J.map zCC.tag).Nodup
 ok:∀ j ∈ J,T j.tag∧j.mks = mk j.tag∧j.tx = tx j.tag∧xR 3 j.tx = true
 pl:∀ j ∈ J,∀ m ∈ j.mks,m.home ∈ j.need∨Plc G j.tag m
def Fits (M:zy) (L:List MkX):Prop:=∀ m ∈ L,q8 3 M (mM m) = 0
def Ser (mk:y7→List MkX) (tx:y7→TxX) (T:y7→Prop):zy→List DcM→zy→Prop
 | M,[],M'=>M' = M
 | M,d::ds,M'=>T d.tag∧xR 3 (tx d.tag) = true ∧
  ((¬ Fits M (mk d.tag)∧d.code = 112∧Ser mk tx T M ds M') ∨
   (Fits M (mk d.tag)∧d.code = (vT 3 M (tx d.tag)).2.2∧d.code ≠ 112∧d.out = (if d.code = 0 then (vT 3 M (tx d.tag)).2.1 else [])∧Ser mk tx T (jZ 3 M (wrU 3 M (tx d.tag))) ds M'))
structure zJ2 (mk:y7→List MkX) (tx:y7→TxX) (T:y7→Prop) (M:zy) (G:GM×DM) (J:List zCC):Prop where
 wf:Wf 3 M
 g:zIU mk M G
 j:JInv mk tx T G J
theorem zU6 {t:TxX} {M0:zy}:∀ {W:WM} {M:zy},Wf 3 M→zKm M0 M→(∀ p ∈ W,p.2.home = (zx 3 M0 (bs p.1)).home∧p.2.cnt = (zx 3 M0 (bs p.1)).cnt)→(∀ x ∈ W,zZd 3 x.1 x.2)→zKm M0 (zEl M W)
 | [],M,_,h,_,_=>h
 | p::W,M,hw,h,hp,hr=>by
  obtain ⟨r1,r2,r3⟩:=hr p List.mem_cons_self
  refine zU6 (t:=t) (W:=W) (M:=zB3 M (bs p.1) p.2) (hw.set (by rw [xY]; exact r1) r2 r3) (fun k=>?_) (fun q hq=>hp q (List.mem_cons_of_mem _ hq)) fun q hq=>hr q (List.mem_cons_of_mem _ hq)
  obtain ⟨h1,h2⟩:=hp p List.mem_cons_self
  rw [zES]
  by_cases e:bs k = bs p.1
  ·rw [if_pos e]
   by_cases e2:p.2.has = false∧p.2.cnt = 0
   ·rw [if_pos e2,e]
    have:=r1 e2.2
    simp only
    rw [xY]
    exact ⟨by rw [← this,h1],by rw [← h2,e2.2]⟩
   ·rw [if_neg e2,e]; exact ⟨h1,h2⟩
  ·rw [if_neg e]; exact h k
theorem zV3 {M:zy} {to:Int} {k:TX} {W:WM} (h:(zDk 3 M to [k] []).2 = 0):(zDk 3 M to [k] []).1 = [(k,{ zx 3 M (bs k) with home:=to,cnt:=(zx 3 M (bs k)).cnt + 1 })]:=by
 rw [zEC] at h ⊢
 split
 ·rename_i hc
  rw [if_pos hc] at h
  cases h
 ·rw [zHz]; rfl
theorem zZt {M:zy} {t:TxX} (h:xR 3 t = true) (hw:Wf 3 M) (hk:¬ t.kind = 2) (h0:(vT 3 M t).2.2 = 0):∀ p ∈ (vT 3 M t).1,zZd 3 p.1 p.2:=by
 have ho:=zM1 (n:=3) (M:=M) (t:=t)
 have hW:vT 3 M t = zCY 3 M t.ops [] []:=by unfold vT; rw [if_neg hk]
 have hops:=zH1 h hk
 obtain ⟨h1,h2⟩:=zM9 (n:=3) (O:=[]) (fun x hx=>zUo (hops x hx)) (zFI.start hw)
 obtain ⟨h3,h4⟩:=h2 (by rw [← h1,← hW]; exact h0)
 rw [hW] at ho ⊢
 intro p hp
 have hm:(p.1,p.2) ∈ (zCY 3 M t.ops [] []).1:=hp
 have e:p.2 = qz 3 M (zCY 3 M t.ops [] []).1 p.1:=by unfold qz; rw [zJp ho hm]; rfl
 rw [e]; exact h4.rcd p.1
section
variable {mk:y7→List MkX} {tx:y7→TxX} {T:y7→Prop}
theorem zYN {M:zy} {G:GM×DM} {J:List zCC} {g:y7} (hG:zIU mk M G) (h:JInv mk tx T G J) (hn:∀ j ∈ J,j.tag ≠ g):JInv mk tx T (vW g G) J :=
 ⟨h.nd,h.ok,fun j hj m hm=>(h.pl j hj m hm).imp id fun hp=>(zKl hG).2 _ _ (hn j hj) hp⟩
theorem zYO {G:GM×DM} {A C:List zCC} {j:zCC} (h:JInv mk tx T G (A++j::C)):JInv mk tx T G (A++C)∧∀ x ∈ A++C,x.tag ≠ j.tag:=by
 have hsub:∀ x ∈ A++C,x ∈ A++j::C:=fun x hx=>by rcases List.mem_append.1 hx with hx | hx <;> simp [hx]
 have hnd:=h.nd
 rw [List.map_append,List.map_cons] at hnd
 obtain ⟨h1,h2,h3⟩:=List.nodup_append.1 hnd
 obtain ⟨h4,h5⟩:=List.nodup_cons.1 h2
 refine ⟨⟨?_,fun x hx=>h.ok x (hsub x hx),fun x hx=>h.pl x (hsub x hx)⟩,fun x hx=>?_⟩
 ·rw [List.map_append]
  exact List.nodup_append.2 ⟨h1,h5,fun a ha b hb=>h3 a ha b (List.mem_cons_of_mem _ hb)⟩
 ·rcases List.mem_append.1 hx with hx | hx
  ·exact fun e=>h3 x.tag (List.mem_map.2 ⟨x,hx,rfl⟩) j.tag List.mem_cons_self e
  ·exact fun e=>h4 (by rw [← e]; exact List.mem_map.2 ⟨x,hx,rfl⟩)
theorem zZu {M:zy} {G:GM×DM} {A C:List zCC} {j:zCC} (h:zJ2 mk tx T M G (A++j::C)) (hp:pick G j = true) {ds:List DcM} {M':zy}
  (hS:Ser mk tx T (zFJ 3 j.tag j.tx M G) ds M') :
  Ser mk tx T M (⟨j.tag,zFO 3 j.tag j.tx M G,zLS 3 j.tag j.tx M G⟩::ds) M':=by
 obtain ⟨k1,k2,k3,k4⟩:=h.j.ok j (by simp)
 refine ⟨k1,by simp only; rw [← k3]; exact k4,?_⟩
 simp only
 rw [← k2,← k3]
 by_cases hd:G.2 j.tag = true
 ·left
  obtain ⟨m,hm,h2⟩:=h.g.doom j.tag hd
  refine ⟨fun hf=>?_,by unfold zFO; rw [if_pos hd],?_⟩
  ·have:=hf m (by rw [k2]; exact hm)
   omega
  ·unfold zFJ at hS; rw [if_pos hd] at hS; exact hS
 ·right
  unfold pick at hp
  simp only [Bool.and_eq_true,decide_eq_true_eq,Bool.or_eq_true] at hp
  obtain ⟨hn,hp⟩:=hp
  have hrd:zFb j.tag G.1 = true:=hp.resolve_left hd
  have hfit:Fits M j.mks:=fun m hm=>by
   rcases h.j.pl j (by simp) m hm with h1 | h1 | h1 | h1
   ·rw [hn] at h1; cases h1
   ·exact absurd h1 hd
   ·obtain ⟨_,_,h2⟩:=h.g.line _ _ h1
    exact h2.resolve_left hd
   ·exfalso
    unfold atM at h1
    cases hg:y8 m.key G.1 with
    | none=>rw [hg] at h1; simp at h1
    | some v=>
     rw [hg] at h1
     have h2:=List.all_eq_true.1 hrd (m.key,v) (zE2 hg)
     unfold zGL at h2
     simp only [Bool.and_eq_true,Bool.not_eq_true'] at h2
     have h3:zHP j.tag v.2 = true:=zNR.2 ⟨_,h1,rfl⟩
     rw [h2.1] at h3; cases h3
  have hc:zFO 3 j.tag j.tx M G = (vT 3 M j.tx).2.2:=by unfold zFO; rw [if_neg hd]
  obtain ⟨c1,_⟩:=zL0 (n:=3) (M:=M) k4
  refine ⟨hfit,hc,by rw [hc]; omega,?_,?_⟩
  ·rw [hc]; unfold zLS; rw [if_neg hd]
  ·unfold zFJ at hS; rw [if_neg hd] at hS; exact hS
theorem zZv {M:zy} {G:GM×DM} {A C:List zCC} {j:zCC} (h:zJ2 mk tx T M G (A++j::C)):zJ2 mk tx T (zFJ 3 j.tag j.tx M G) (zHU 3 j.tag j.tx M G) (A++C):=by
 obtain ⟨k1,k2,k3,k4⟩:=h.j.ok j (by simp)
 obtain ⟨hj,hne⟩:=zYO h.j
 obtain ⟨l1,l2⟩:=zKl (g:=j.tag) h.g
 have jl:=zYN h.g hj hne
 unfold zFJ zHU
 by_cases hd:G.2 j.tag = true
 ·rw [if_pos hd,if_pos hd]
  exact ⟨h.wf,l1,jl⟩
 rw [if_neg hd,if_neg hd]
 have ri:=zXm k4 h.wf
 by_cases h0:(vT 3 M j.tx).2.2 = 0
 rotate_left
 ·have hw:wrU 3 M j.tx = []:=by unfold wrU; rw [if_neg h0]
  rw [hw,if_neg (fun hh=>h0 hh.2)]
  exact ⟨h.wf,l1,jl⟩
 have hC0:(zDm 3 M j.tx).2.1 = 0:=by rw [← ri.code]; exact h0
 have hw:wrU 3 M j.tx = zBu (vT 3 M j.tx).1:=by unfold wrU; rw [if_pos h0]
 have hap:jZ 3 M (wrU 3 M j.tx) = zEl M (zDm 3 M j.tx).2.2:=by rw [hw,ri.rows hC0]; exact ri.app hC0
 have hwf:Wf 3 (jZ 3 M (wrU 3 M j.tx)):=by rw [hap]; exact ri.wf
 obtain ⟨_,hgood⟩:=zL0 (n:=3) (M:=M) k4
 have hrow:=(hgood h0).1
 by_cases hk:j.tx.kind = 2
 ·rw [if_pos ⟨hk,h0⟩]
  obtain ⟨_,key,hkey⟩:=zED k4 hk
  have hW:(vT 3 M j.tx).1 = [(key,{ zx 3 M (bs key) with home:=j.tx.to,cnt:=(zx 3 M (bs key)).cnt + 1 })]:=by
   have h1:(vT 3 M j.tx).2.2 = (zDk 3 M j.tx.to [key] []).2:=by unfold vT; rw [if_pos hk,hkey]
   have h2:(vT 3 M j.tx).1 = (zDk 3 M j.tx.to [key] []).1:=by unfold vT; rw [if_pos hk,hkey]
   rw [h2]
   exact zV3 (W:=[]) (by rw [← h1]; exact h0)
  have hs1:∀ x:List UInt8×Rec,zBu [x] = [x]:=fun x=>List.mergeSort_singleton _
  have hM':jZ 3 M (wrU 3 M j.tx) = zB3 M (bs key) { zx 3 M (bs key) with home:=j.tx.to,cnt:=(zx 3 M (bs key)).cnt + 1 }:=by
   rw [hap,← ri.rows hC0,hW]
   rw [hs1]
   rfl
  rw [show j.tx.writes.headD [] = key by rw [hkey]; rfl]
  have hcn:=h.wf.cnt (bs key)
  obtain ⟨m1,m2⟩:=zV2 (M':=jZ 3 M (wrU 3 M j.tx)) (key:=key) l1 (fun k hk=>by
   rw [hM',zES,if_neg fun e=>hk (zS6 e)]
   exact ⟨rfl,rfl⟩) (by
   rw [hM',zES,if_pos rfl,if_neg (by simp only; omega)])
  obtain ⟨n1,n2⟩:=zKl (g:=j.tag) m1
  exact ⟨hwf,n1,⟨jl.nd,jl.ok,fun x hx m hm=>(jl.pl x hx m hm).imp id fun hp=>n2 _ _ (hne x hx) (m2 _ _ hp)⟩⟩
 ·rw [if_neg fun hh=>hk hh.1]
  have hmem:∀ x ∈ zBu (vT 3 M j.tx).1,x ∈ (vT 3 M j.tx).1:=fun x hx=>(zAU _).subset hx
  have hsame:zKm M (jZ 3 M (wrU 3 M j.tx)):=by
   rw [hap,← ri.rows hC0]
   refine zU6 (t:=j.tx) h.wf (fun k=>⟨rfl,rfl⟩) (fun p hp=>?_) fun p hp=>?_
   ·have:=(hrow p (hmem p hp)).2
    rwa [if_neg hk] at this
   ·have h1:=(hrow p (hmem p hp)).2
    exact zZt k4 h.wf hk h0 p (hmem p hp)
  exact ⟨hwf,l1.same hsame,jl⟩
theorem zSK:∀ {f:Nat} {J:List zCC} {M:zy} {G:GM×DM},zJ2 mk tx T M G J→Ser mk tx T M (jf 3 f J M G).2 (jf 3 f J M G).1.2.1∧zJ2 mk tx T (jf 3 f J M G).1.2.1 (jf 3 f J M G).1.2.2 (jf 3 f J M G).1.1
 | 0,J,M,G,h=>⟨rfl,h⟩
 | f + 1,J,M,G,h=>by
  unfold jf
  rcases zSB (pick G) J with h1 | ⟨A,j,C,rfl,h2,h3⟩
  ·rw [zGR h1]; exact ⟨rfl,h⟩
  ·rw [zH5 h2 h3]
   obtain ⟨a1,a2⟩:=zSK (f:=f) (zZv h)
   exact ⟨zZu h h3 a1,a2⟩
theorem zQd {S:zBS} (h:zJ2 mk tx T S.M S.G S.jobs):Ser mk tx T S.M (zFd 3 S).2 (zFd 3 S).1.M∧zJ2 mk tx T (zFd 3 S).1.M (zFd 3 S).1.G (zFd 3 S).1.jobs:=zSK h
theorem zSL {tag:y7} {r:Int}:∀ {J:List zCC},(zHW tag r J).map zCC.tag = J.map zCC.tag∧∀ x ∈ zHW tag r J,∃ j ∈ J,x.tag = j.tag∧x.mks = j.mks∧x.tx = j.tx∧(x.need = j.need∨j.tag = tag∧x.need = j.need.filter fun h=>!decide (h = r))
 | []=>⟨rfl,fun x hx=>(by cases hx)⟩
 | j::J=>by
  obtain ⟨h1,h2⟩:=zSL (tag:=tag) (r:=r) (J:=J)
  unfold zHW
  split
  ·rename_i e
   refine ⟨rfl,fun x hx=>?_⟩
   rcases List.mem_cons.1 hx with rfl | hx
   ·exact ⟨j,by simp,rfl,rfl,rfl,.inr ⟨e,rfl⟩⟩
   ·exact ⟨x,by simp [hx],rfl,rfl,rfl,.inl rfl⟩
  ·refine ⟨by rw [List.map_cons,List.map_cons,h1],fun x hx=>?_⟩
   rcases List.mem_cons.1 hx with rfl | hx
   ·exact ⟨_,by simp,rfl,rfl,rfl,.inl rfl⟩
   ·obtain ⟨y,hy,h3⟩:=h2 x hx
    exact ⟨y,by simp [hy],h3⟩
theorem zU7 {kind r:Int} {tag:y7} {M:zy} {G:GM×DM} {J:List zCC} (hk:∀ g,((mk g).map MkX.key).Nodup) (h:zJ2 mk tx T M G J) (hin:∀ m ∈ mk tag,m.home = r→m ∈ zEJ kind r (mk tag)) :
  zJ2 mk tx T M (zAh 3 M tag ((zEJ kind r (mk tag)).map mM) G) (zHW tag r J):=by
 obtain ⟨e1,e2,e3⟩:=zNS (g:=tag) hk (ms:=zEJ kind r (mk tag)) (fun m hm=>by
  unfold zEJ at hm
  split at hm
  ·exact (List.mem_filter.1 hm).1
  ·exact hm) h.g
 obtain ⟨u1,u2⟩:=zSL (tag:=tag) (r:=r) (J:=J)
 refine ⟨h.wf,e1,⟨by rw [u1]; exact h.j.nd,fun x hx=>?_,fun x hx m hm=>?_⟩⟩
 ·obtain ⟨j,hj,a1,a2,a3,_⟩:=u2 x hx
  rw [a1,a2,a3]; exact h.j.ok j hj
 ·obtain ⟨j,hj,a1,a2,a3,a4⟩:=u2 x hx
  rw [a2] at hm
  rw [a1]
  rcases h.j.pl j hj m hm with hp | hp
  ·rcases a4 with a4 | ⟨a4,a5⟩
   ·rw [a4]; exact .inl hp
   ·by_cases e:m.home = r
    ·right
     rw [a4]
     refine e2 m (hin m ?_ e)
     rw [← a4,← (h.j.ok j hj).2.1]; exact hm
    ·left
     rw [a5]
     exact List.mem_filter.2 ⟨hp,by simpa using e⟩
  ·exact .inr (e3 _ _ hp)
theorem zYP {r kind ix:Int} {tag:y7} {t:TxX} {mks:List MkX} {S:zBS} (hk:∀ g,((mk g).map MkX.key).Nodup) (hT:T tag) (hmk:mk tag = mks) (htx:tx tag = zEi t) (h:zJ2 mk tx T S.M S.G S.jobs) :
  Ser mk tx T S.M (zBn 3 r kind ix tag t mks S).2 (zBn 3 r kind ix tag t mks S).1.M∧zJ2 mk tx T (zBn 3 r kind ix tag t mks S).1.M (zBn 3 r kind ix tag t mks S).1.G (zBn 3 r kind ix tag t mks S).1.jobs:=by
 subst hmk
 unfold zBn
 split
 rotate_left
 ·exact ⟨rfl,h⟩
 rename_i hok
 unfold zNN
 split
 ·exact ⟨rfl,h⟩
 rename_i hin
 have hin':kind = 2∨kind = 1∧xX (mk tag) = [r]:=by
  rcases hok.1 with h1 | h1
  ·right
   refine ⟨h1.1,?_⟩
   unfold zFV zDn at hin
   split at hin
   ·exact absurd rfl hin
   rename_i hr
   split at hin
   ·rename_i h2
    have h3:=h2.2
    unfold zVy at h3
    simp only [Bool.and_eq_true,decide_eq_true_eq] at h3
    obtain ⟨y,hy⟩:=List.length_eq_one_iff.1 h3.2
    rw [hy] at hr ⊢
    simp only [List.mem_singleton,Decidable.not_not] at hr
    rw [hr]
   split at hin
   ·rename_i h2; omega
   ·exact absurd rfl hin
  ·exact .inl h1.1
 have hmarks:∀ m ∈ mk tag,m.home = r→m ∈ zEJ kind r (mk tag):=fun m hm e=>by
  unfold zEJ
  split
  ·exact List.mem_filter.2 ⟨hm,by simpa using e⟩
  ·exact hm
 have hrt:xR 3 (zEi t) = true:=by rw [zFH (zH4 t)]; exact hok.2.2.2.1
 split
 ·split
  ·exact zQd h
  ·exact zQd (S:=zNM 3 r kind tag (mk tag) S.jobs (zKi r kind ix tag t (mk tag) S)) (zU7 hk h hmarks)
 ·rename_i hno
  refine zQd (S:=zNM 3 r kind tag (mk tag) (S.jobs++[⟨tag,zEi t,mk tag,xX (mk tag)⟩]) (zKi r kind ix tag t (mk tag) S)) (zU7 hk ⟨h.wf,h.g,⟨?_,fun j hj=>?_,fun j hj m hm=>?_⟩⟩ hmarks)
  ·rw [List.map_append]
   refine List.nodup_append.2 ⟨h.j.nd,by simp,fun a ha b hb=>?_⟩
   rw [List.map_cons,List.map_nil,List.mem_singleton] at hb
   subst hb
   obtain ⟨j,hj,rfl⟩:=List.mem_map.1 ha
   exact fun e=>hno ⟨j,hj,e⟩
  ·rcases List.mem_append.1 hj with hj | hj
   ·exact h.j.ok j hj
   ·rw [List.mem_singleton.1 hj]
    exact ⟨hT,rfl,htx.symm,hrt⟩
  ·rcases List.mem_append.1 hj with hj | hj
   ·exact h.j.pl j hj m hm
   ·rw [List.mem_singleton.1 hj] at hm ⊢
    left
    simp only at hm ⊢
    exact (zGS (List.ne_nil_of_mem hm)).2 ⟨m,hm,rfl⟩
theorem zV4 {n:Nat}:zJ2 mk tx T (zFL n).M (zFL n).G (zFL n).jobs:=⟨Wf.nil,zIU.start fun _=>rfl,⟨by simp,fun j hj=>(by cases hj),fun j hj=>(by cases hj)⟩⟩
end
end
section
open Go Go.Sep Go.Sep.Bt Go.RowKit
structure OrG where
 tag:y7
 t:TxX
 ms:Sl
 mks:List MkX
abbrev zAI (x:OrG):List Value:=orV x.tag x.t x.ms
theorem zNW (x:OrG):(zAI x).length = 10:=rfl
abbrev itN (kind ix:Int) (tag:y7) (t:TxX) (ms:Sl):List Value:=.int .i64 kind::.int .i64 ix::orV tag t ms
abbrev itZ:List Value:=[.int .i64 0,.int .i64 0,.int .i64 0,.int .u64 0,.int .u64 0,.int .i64 0,.int .i64 0,Sl.val ⟨none,0,0⟩,Sl.val ⟨none,0,0⟩,Sl.val ⟨none,0,0⟩,.int .i64 0,Sl.val ⟨none,0,0⟩]
def zNX (x:OrG):Prop:=(x.t.reads.length ≤ 1000∧x.t.writes.length ≤ 1000∧x.t.ops.length ≤ 1000∧∀ y ∈ x.t.ops,y.1.val.length ≤ 1000000)∧x.mks.length ≤ 1000
section
variable {B:World} {Γ Δ:List zC} {k:K}
theorem zSM {fb N:Nat} {rg:Int} {f:zNy} {x:OrG} {q:Bool→K} (hm:∀ w,Holds B Γ w→RdC w x.ms 3 (x.mks.flatMap mkL)) (hml:x.mks.length ≤ 1000) (hN:N ≤ 1000000000) (h:∀ f' b,HG B (zEw fb rg (N + 1) f'::Γ) (q b)) :
  HG B (zEw fb rg N f::Γ) (xD.call (some ⟨fb,0,none⟩) (zAI x).toArray q):=by
 refine fun w hw=>zGQ _ _ _ _ ?_
 refine hg hw ?_
 clear hw w
 unfold xD xD.s1
 refine zH fun o3=>?_
 refine qI (b:=o3) (l:=zAI x) (l':=zAI x) ?_
 refine zKg (L:=x.mks) (fun w hw=>hm w (hw.drops (Δ:=Γ))) hml ?_
 generalize (decide (x.t.kind = 1) && decide ((xX x.mks).length = 1)) = sg
 cases sg
 ·refine s_t ?_ (by rfl)
  refine qI (b:=o3) (l:=zAI x) (l':=qO x.tag) ?_
  refine zB (Δ:=zEw fb rg N f::Γ) ?_
  exact zSA hN (h _ _)
 ·refine s_f ?_ (by rfl)
  refine zB (Δ:=zEw fb rg N f::Γ) ?_
  exact zQb (by omega) (h f false)
theorem zU8 {G:List OrG} {gs:Sl} {region last:Int} {Q:Array Value→Bool→K} (hG:∀ w,Holds B Γ w→RdC w gs 10 (G.flatMap zAI)) (hGr:∀ x ∈ G,∀ w,Holds B Γ w→zCX w x.t∧RdC w x.ms 3 (x.mks.flatMap mkL)) (hs:∀ x ∈ G,zNX x) (hl:G.length ≤ 1000)
  (hno:HG B Γ (Q itZ.toArray false)) (hyes:∀ (i:Nat) x t' ms',G[i]? = some x→last < (i:Int)→zVq t' x.t→HG B (SlC qC 3 ms' (x.mks.flatMap mkL)::txC t' Γ) (Q (itN 2 (i:Int) x.tag t' ms').toArray true)) :
  HG B Γ (zDH.call gs region last Q):=by
 refine fun w hw=>zNw _ _ _ _ _ ?_
 have hgn:gs.n = G.length:=zA3 zNW (by omega) (hG w hw)
 refine hg hw ?_
 clear hw w
 unfold zDH
 refine zH fun last5=>?_
 refine zH fun t6=>?_
 refine zH fun t7=>?_
 refine fun w hw=>zLQ _ _ _ _ ?_
 refine hg hw ?_
 clear hw w
 unfold zDY
 refine zH fun g2=>?_
 refine zH fun r3=>?_
 refine zSI (cs:=[.pointer (some ⟨g2,0,none⟩),.pointer (some ⟨r3,0,none⟩)]) (by kernel_rfl) fun D l r hr hy=>?_
 refine fun w hw=>zMF (zJu _ _ _ _ w ?_) fun v w h=>h.2
 refine hg hw ?_
 clear hw w
 unfold yw
 refine fun w hw=>zKf _ _ ?_
 refine hg hw ?_
 clear hw w
 unfold zCr
 refine zOn (rg:=-1) fun fb=>?_
 refine yB (b:=g2) (l:=[gs.val]) (x:=gs) ?_
 refine zB (Δ:=zEw fb (-1) 0 ⟨-1,[]⟩::blk r3 (.cells [.int .i64 region].toArray zBJ (0,0))::blk l (.loop r)::blk D (.deferred (some []))::blk t7 (.cells [.bool false].toArray zLm (0,0))::blk t6 (.cells itZ.toArray qc (0,0))::blk last5 (.cells [.int .i64 last].toArray zBJ (0,0))::Γ) ?_
 refine xW (α:=Int) (ι:=Nat×zNy) (fun x i=>x = (i.1:Int)∧i.1 ≤ G.length) (fun x i=>zEw fb (-1) i.1 i.2::blk r3 (.cells [.int .i64 region].toArray zBJ (0,0))::blk l (.loop r)::blk D (.deferred (some []))::blk t7 (.cells [.bool false].toArray zLm (0,0))::blk t6 (.cells itZ.toArray qc (0,0))::blk last5 (.cells [.int .i64 last].toArray zBJ (0,0))::Γ) (fun x i=>G.length - i.1) (0,⟨-1,[]⟩) ⟨rfl,Nat.zero_le _⟩ ?_
 rintro k' _ ⟨i,f⟩ ⟨rfl,hi⟩ hk'
 simp only at hi hk' ⊢
 unfold yw.b1
 refine zF (fun hb=>?_) fun hb=>?_
 rotate_left
 ·refine zYH ?_
  refine qA (b:=t6) (l':=itZ) ?_
  refine zCB (b:=t7) (l:=[.bool false]) (l':=[.bool false]) ?_ rfl rfl
  refine zQc ?_
  refine qI (b:=t6) (l:=itZ) (l':=itZ) ?_
  refine yB (b:=t7) (l:=[.bool false]) (x:=false) ?_
  exact zB hno
 have hil:i < G.length:=by simp only [decide_eq_true_eq] at hb; omega
 have hge:G[i]? = some G[i]:=List.getElem?_eq_getElem hil
 have hmem:G[i] ∈ G:=List.getElem_mem hil
 generalize G[i] = x at hge hmem
 obtain ⟨hs1,hs2⟩:=hs x hmem
 refine zAc zAI zNW (fun w hw=>hG w (hw.drops (Δ:=Γ))) hge ?_
 refine zH fun o6=>?_
 refine qA (b:=o6) (l':=zAI x) ?_
 refine vo ?_
 refine zBE [blk o6 (.cells (zAI x).toArray zn (0,0)),blk r3 (.cells [.int .i64 region].toArray zBJ (0,0))] ?_
 refine zBM (b:=o6) (l:=zAI x) (l':=zAI x) ?_
 refine ze (zEw fb (-1) i f) ?_
 refine zSM (x:=x) (fun w hw=>(hGr x hmem w (hw.drops (Δ:=Γ))).2) hs2 (by omega) fun f' b=>?_
 refine zBC ?_
 have next:∀ {Ψ:List zC},[d:Drops Ψ (zEw fb (-1) (i + 1) f'::blk r3 (.cells [.int .i64 region].toArray zBJ (0,0))::blk l (.loop r)::blk D (.deferred (some []))::blk t7 (.cells [.bool false].toArray zLm (0,0))::blk t6 (.cells itZ.toArray qc (0,0))::blk last5 (.cells [.int .i64 last].toArray zBJ (0,0))::Γ)] →
   HG B Ψ (yw.s2 (Aft B l r .ret (StN ⟨t6,0,none⟩ 12 itZ.toArray <| St ⟨t7,0,none⟩ (.bool false) <| jm D <| LdN ⟨t6,0,none⟩ 12 fun r0=>Ld ⟨t7,0,none⟩ Value.bool fun r1=>Q r0 r1) (jm D <| LdN ⟨t6,0,none⟩ 12 fun r0=>Ld ⟨t7,0,none⟩ Value.bool fun r1=>Q r0 r1)) k' (yv l) ⟨r3,0,none⟩ (some ⟨fb,0,none⟩) gs (gs.n:Int) (i:Int)):=fun {Ψ d}=>by
  unfold yw.s2
  refine qB ?_
  exact zB (d:=d) (hk' ((i:Int) + 1) (i + 1,f') ⟨by simp,hil⟩ (by simp only; omega))
 have S3:HG B (zEw fb (-1) (i + 1) f'::blk o6 (.cells (zAI x).toArray zn (0,0))::blk r3 (.cells [.int .i64 region].toArray zBJ (0,0))::blk l (.loop r)::blk D (.deferred (some []))::blk t7 (.cells [.bool false].toArray zLm (0,0))::blk t6 (.cells itZ.toArray qc (0,0))::blk last5 (.cells [.int .i64 last].toArray zBJ (0,0))::Γ) (yw.s3 (Aft B l r .ret (StN ⟨t6,0,none⟩ 12 itZ.toArray <| St ⟨t7,0,none⟩ (.bool false) <| jm D <| LdN ⟨t6,0,none⟩ 12 fun r0=>Ld ⟨t7,0,none⟩ Value.bool fun r1=>Q r0 r1) (jm D <| LdN ⟨t6,0,none⟩ 12 fun r0=>Ld ⟨t7,0,none⟩ Value.bool fun r1=>Q r0 r1)) k' (yv l) ⟨r3,0,none⟩ (some ⟨fb,0,none⟩) (i:Int) ⟨o6,0,none⟩ gs (gs.n:Int) (i:Int) false):=by
  unfold yw.s3
  refine s_f ?_
  refine qI (b:=o6) (l:=zAI x) (l':=zAI x) ?_
  refine zK9 (t:=x.t) (mks:=x.mks) (fun w hw=>(hGr x hmem w (hw.drops (Δ:=Γ))).1) (fun w hw=>(hGr x hmem w (hw.drops (Δ:=Γ))).2) hs1 hs2 fun t' ms' ht'=>?_
  refine zT ?_
  refine zU3 ?_
  refine zO l ?_
  refine hy (itN 2 (i:Int) x.tag t' ms').toArray _ _ _ ?_
  refine zH fun p8=>?_
  refine qA (b:=p8) (l':=itN 2 (i:Int) x.tag t' ms') ?_
  refine zSH ?_
  refine yB (b:=p8) (off:=1) (l:=itN 2 (i:Int) x.tag t' ms') (x:=(i:Int)) ?_
  refine yB (b:=last5) (l:=[.int .i64 last]) (x:=last) ?_
  refine zF (fun h1=>?_) fun h1=>?_
  ·have h1':last < (i:Int):=by simpa using h1
   refine qI (b:=p8) (l:=itN 2 (i:Int) x.tag t' ms') (l':=itN 2 (i:Int) x.tag t' ms') ?_
   refine qA (b:=t6) (l':=itN 2 (i:Int) x.tag t' ms') ?_
   refine zCB (b:=t7) (l:=[.bool false]) (l':=[.bool true]) ?_ rfl rfl
   refine zZp ?_
   refine zKn ?_
   refine s_t ?_ (by rfl)
   refine zYI ?_
   refine zQc ?_
   refine qI (b:=t6) (l:=itN 2 (i:Int) x.tag t' ms') (l':=itN 2 (i:Int) x.tag t' ms') ?_
   refine yB (b:=t7) (l:=[.bool true]) (x:=true) ?_
   exact zB (hyes i x t' ms' hge h1' ht')
  ·refine zYJ hr ?_
   refine zKn ?_
   refine s_f ?_ (by rfl)
   exact next
 cases b
 ·refine s_t ?_ (by rfl)
  unfold yw.s3
  refine s_t ?_
  exact next
 ·refine s_f ?_ (by rfl)
  refine zBM (b:=o6) (l:=zAI x) (l':=zAI x) ?_
  refine jC (b:=r3) (l:=[.int .i64 region]) (x:=region) ?_
  refine zHV (pre:=qO x.tag++txL x.t) (L:=x.mks) rfl (fun w hw=>(hGr x hmem w (hw.drops (Δ:=Γ))).2) (by omega) fun hh=>?_
  refine zBC ?_
  have hhl:(xX x.mks).length ≤ 1000000:=by
   have h1:=zFz (zEU (if x.mks.length = 0 then [0] else x.mks.map MkX.home))
   rw [zH3] at h1
   have h2:(if x.mks.length = 0 then [0] else x.mks.map MkX.home).length ≤ 1000:=by split <;> simp <;> omega
   unfold xX
   omega
  refine zOp (L:=xX x.mks) (by omega) (fun w hw=>(yP (s:=hh) hw).1) ?_
  generalize decide (region ∈ xX x.mks) = c
  cases c
  ·show HG B _ (yw.s3 _ _ _ _ _ _ _ _ _ _ true)
   unfold yw.s3
   refine s_t ?_
   exact next
  ·exact zB S3
end
end
section
open Go Go.Sep Go.Sep.Bt
structure ItG where
 kind:Int
 ix:Int
 o:OrG
abbrev zEx (x:ItG):List Value:=itN x.kind x.ix x.o.tag x.o.t x.o.ms
theorem zEW (x:ItG):(zEx x).length = 12:=rfl
structure zYQ where
 s:Sl
 items:List ItG
def zBk (x:zYQ):zC:=SlC qc 12 x.s (x.items.flatMap zEx)
def zEX (o:OrG):zC:=Sep.stars (SlC qC 3 o.ms (o.mks.flatMap mkL)::txC o.t [])
structure zDo where
 logs:List zYQ
 gs:Sl
 G:List OrG
 la:List Int
 P:List OrG
abbrev uD (x:zDo):List Value:=x.logs.map (fun l=>l.s.val)++x.gs.val::x.la.map (Value.int .i64)
structure zCA (Ok:OrG→Prop) (m c:Nat) (x:zDo):Prop where
 ll:x.logs.length = 3
 al:x.la.length = 3
 ok:∀ o ∈ x.P,Ok o∧zNX o
 g:∀ o ∈ x.G,o ∈ x.P
 it:∀ l ∈ x.logs,∀ i ∈ l.items,i.o ∈ x.P
 gc:x.G.length ≤ c
 ic:∀ l ∈ x.logs,l.items.length ≤ c
 kd:∀ l ∈ x.logs,∀ i ∈ l.items,i.kind = 1∧i.ix = 0∨i.kind = 2∧0 ≤ i.ix∧i.ix < c
 uq:∀ o ∈ x.P,∀ o' ∈ x.P,o.tag = o'.tag→o.mks = o'.mks∧zEk o.t o'.t
 sq:∀ o ∈ x.P,o.tag.seq ≤ m
 lo:∀ v ∈ x.la,-1 ≤ v∧v ≤ x.G.length
abbrev zI3 (tb:Nat) (x:zDo) (Γ:List zC):List zC :=
 blk tb (.cells (uD x).toArray zI (0,0))::Sep.stars (x.logs.map zBk)::SlC zn 10 x.gs (x.G.flatMap zAI)::Sep.stars (x.P.map zEX)::Γ
theorem zF6 {x:zDo} {j:Nat} {l:zYQ} (h:x.logs[j]? = some l):(uD x)[j]? = some l.s.val:=by
 unfold uD
 rw [List.getElem?_append_left (by rw [List.length_map]; exact (List.getElem?_eq_some_iff.1 h).1),List.getElem?_map,h]; rfl
theorem zU9 {x:zDo} (h:x.logs.length = 3):(uD x)[3]? = some x.gs.val:=by
 unfold uD
 rw [List.getElem?_append_right (by rw [List.length_map]; omega),List.length_map,h]; rfl
theorem zZw {x:zDo} {j:Nat} {v:Int} (h:x.logs.length = 3) (hv:x.la[j]? = some v):(uD x)[4 + j]? = some (.int .i64 v):=by
 unfold uD
 rw [List.getElem?_append_right (by rw [List.length_map]; omega),List.length_map,h,show 4 + j - 3 = j + 1 by omega,List.getElem?_cons_succ,List.getElem?_map,hv]; rfl
section
variable {B:World} {Γ Δ:List zC} {k:K}
theorem zEK {a:Addr} {b off len:Nat} {i:Int} {kk:Addr→K} [ad:zDa a b off] (h0:0 ≤ i) (h1:i < len) (h:HG B Γ (kk ⟨b,off + i.toNat,none⟩)):HG B Γ (zB0 a len i 1 kk):=fun w hw=>⟨_,h0,h1,by rw [ad.h,uT,Nat.mul_one],h w hw⟩
theorem zF7 {x:zDo} (h:x.logs.length = 3) (h2:x.la.length = 3):(uD x).length = 7:=by simp [uD,h,h2]
theorem zTT {x:zDo} {j:Nat} {v:Int} (h:x.logs.length = 3):(uD x).set (4 + j) (.int .i64 v) = uD { x with la:=x.la.set j v }:=by
 unfold uD
 rw [List.set_append,if_neg (by rw [List.length_map]; omega),List.length_map,h,show 4 + j - 3 = j + 1 by omega,List.set_cons_succ,List.map_set]
theorem zLA {x:zDo} {j:Nat} {l:zYQ} (h:j < x.logs.length):(uD x).set (0 + j) l.s.val = uD { x with logs:=x.logs.set j l }:=by
 unfold uD
 rw [Nat.zero_add,List.set_append,if_pos (by rw [List.length_map]; omega),List.map_set]
theorem zH8 {P:List OrG} {o:OrG} {w:World} (ho:o ∈ P) (hw:Holds B (Sep.stars (P.map zEX)::Γ) w):zCX w o.t∧RdC w o.ms 3 (o.mks.flatMap mkL):=by
 obtain ⟨Δ,hd⟩:=zEE (F:=zEX) ho hw
 have h1:Holds B (SlC qC 3 o.ms (o.mks.flatMap mkL)::txC o.t Δ) w:=(Holds.flat (Δ:=SlC qC 3 o.ms (o.mks.flatMap mkL)::txC o.t [])).1 hd
 exact ⟨zQV h1.tail,(yP (s:=o.ms) h1).1⟩
theorem zQe {o:OrG} (h:HG B (zEX o::Γ) k):HG B (SlC qC 3 o.ms (o.mks.flatMap mkL)::txC o.t Γ) k:=fun w hw=>h w ((Holds.flat (Δ:=SlC qC 3 o.ms (o.mks.flatMap mkL)::txC o.t [])).2 hw)
theorem zSN {Ok:OrG→Prop} {tb m c:Nat} {x:zDo} {r:Int} {q:Bool→K} (hr:0 ≤ r∧r < 3) (hx:zCA Ok m c x) (hc:c ≤ 900) (hOk:∀ o o':OrG,o'.tag = o.tag→o'.mks = o.mks→zEk o'.t o.t→Ok o→Ok o')
  (hno:HG B (zI3 tb x Γ) (q false)) (hyes:∀ x' v,zCA Ok m (c + 1) x'→x'.G = x.G→x.la.getD r.toNat 0 < v→v < x.G.length→x'.la = x.la.set r.toNat v→HG B (zI3 tb x' Γ) (q true)) :
  HG B (zI3 tb x Γ) (yR.call (some ⟨tb,0,none⟩) r q):=by
 refine fun w hw=>zHT _ _ _ _ ?_
 refine hg hw ?_
 clear hw w
 obtain ⟨la,hla⟩:∃ v,x.la[r.toNat]? = some v:=⟨_,List.getElem?_eq_getElem (by rw [hx.al]; omega)⟩
 obtain ⟨lg,hlg⟩:∃ v,x.logs[r.toNat]? = some v:=⟨_,List.getElem?_eq_getElem (by rw [hx.ll]; omega)⟩
 have hgl:=hx.gc
 unfold yR
 refine vo ?_
 refine zBE [blk tb (.cells (uD x).toArray zI (0,0))] ?_
 refine uP ?_
 refine zEK hr.1 (by omega) ?_
 refine jC (b:=tb) (off:=3) (l:=uD x) (x:=x.gs) ?_ (by rw [zCc]; exact zU9 hx.ll)
 refine jC (b:=tb) (off:=4 + r.toNat) (l:=uD x) (x:=la) ?_ (by rw [zCc]; exact zZw hx.ll hla)
 have hlaD:x.la.getD r.toNat 0 = la:=by rw [List.getD_eq_getElem?_getD,hla]; rfl
 have no:∀ {p5:Nat} {cs:List Value},HG B (blk p5 (.cells cs.toArray qc (0,0))::zI3 tb x Γ) (yR.s1 q (some ⟨tb,0,none⟩) r ⟨p5,0,none⟩ false):=fun {p5 cs}=>by
  unfold yR.s1 yR.s2
  refine s_f ?_
  exact zB hno
 have yes:∀ {p5:Nat} (i:Nat) (o:OrG) (t':TxX) (ms':Sl),x.G[i]? = some o→la < (i:Int)→zVq t' o.t →
   HG B (blk p5 (.cells (itN 2 (i:Int) o.tag t' ms').toArray qc (0,0))::SlC qC 3 ms' (o.mks.flatMap mkL)::txC t' (zI3 tb x Γ)) (yR.s1 q (some ⟨tb,0,none⟩) r ⟨p5,0,none⟩ true):=fun {p5} i o t' ms' hGi hlt ht'=>by
  have hmem:o ∈ x.G:=List.mem_of_getElem? hGi
  have hil:i < x.G.length:=(List.getElem?_eq_some_iff.1 hGi).1
  obtain ⟨ho1,ho2⟩:=hx.ok o (hx.g o hmem)
  unfold yR.s1 yR.s2
  refine s_t ?_
  refine vo ?_
  refine uP ?_
  refine yB (b:=p5) (off:=1) (l:=itN 2 (i:Int) o.tag t' ms') (x:=(i:Int)) ?_
  refine zEK hr.1 (by omega) ?_
  refine zCB (b:=tb) (off:=4 + r.toNat) (l:=uD x) (l':=uD { x with la:=x.la.set r.toNat (i:Int) }) ?_ (Nat.ble_eq_true_of_le (by rw [zF7 hx.ll hx.al]; omega)) (zTT hx.ll) rfl
  refine vo ?_
  refine zBE [blk tb (.cells (uD { x with la:=x.la.set r.toNat (i:Int) }).toArray zI (0,0)),blk p5 (.cells (itN 2 (i:Int) o.tag t' ms').toArray qc (0,0))] ?_
  refine zEK hr.1 (by omega) ?_
  refine jC (b:=tb) (off:=0 + r.toNat) (l:=uD { x with la:=x.la.set r.toNat (i:Int) }) (x:=lg.s) ?_ (by rw [zCc,Nat.zero_add]; exact zF6 hlg)
  refine zBM (b:=p5) (l:=itN 2 (i:Int) o.tag t' ms') (l':=itN 2 (i:Int) o.tag t' ms') ?_
  refine zBf (cs:=itN 2 (i:Int) o.tag t' ms') ?_
  refine zH fun t39=>?_
  refine zBC ?_
  have hjl:r.toNat < x.logs.length:=by rw [hx.ll]; omega
  have hsp:=List.take_append_drop r.toNat x.logs
  rw [List.drop_eq_getElem_cons hjl,(List.getElem?_eq_some_iff.1 hlg).2] at hsp
  have hsl:(x.logs.take r.toNat).length = r.toNat:=by rw [List.length_take]; omega
  generalize x.logs.take r.toNat = A at hsp hsl
  generalize x.logs.drop (r.toNat + 1) = C at hsp
  have hlgm:lg ∈ x.logs:=List.mem_of_getElem? hlg
  have hlc:=hx.ic lg hlgm
  have e1:Sep.stars (x.logs.map zBk) = Sep.stars ((A++lg::C).map zBk):=by rw [hsp]
  refine ze (Sep.stars (x.logs.map zBk)) ?_
  rw [e1]
  refine zFk ?_
  show HG B (SlC qc 12 lg.s (lg.items.flatMap zEx)::_) _
  refine yS lg.s fun b1 b2 b3 b4=>?_
  rw [zX _ 12 zEW] at b1
  refine qN (s:=lg.s) (esz:=12) (us:=itN 2 (i:Int) o.tag t' ms') (jX rfl) (by simp [yu]) (by simp only; omega) fun s' _=>?_
  refine zEK hr.1 (by omega) ?_
  generalize hit:(⟨2,(i:Int),⟨o.tag,t',ms',o.mks⟩⟩:ItG) = it
  have hitF:itN 2 (i:Int) o.tag t' ms' = zEx it:=by rw [← hit]
  rw [hitF,show lg.items.flatMap zEx++zEx it = (lg.items++[it]).flatMap zEx by simp]
  refine zCB (b:=tb) (off:=0 + r.toNat) (l:=uD { x with la:=x.la.set r.toNat (i:Int) }) (l':=uD { x with la:=x.la.set r.toNat (i:Int),logs:=x.logs.set r.toNat ⟨s',lg.items++[it]⟩ }) ?_ (Nat.ble_eq_true_of_le (by rw [zF7 (by exact hx.ll) (by simp [hx.al])]; omega)) (zLA (x:={ x with la:=x.la.set r.toNat (i:Int) }) (l:=⟨s',lg.items++[it]⟩) hjl) rfl
  have hset:x.logs.set r.toNat ⟨s',lg.items++[it]⟩ = A++⟨s',lg.items++[it]⟩::C:=by
   rw [← hsp,← hsl]; simp
  generalize hx':({ logs:=x.logs.set r.toNat ⟨s',lg.items++[it]⟩,gs:=x.gs,G:=x.G,la:=x.la.set r.toNat (i:Int),P:=x.P++[⟨o.tag,t',ms',o.mks⟩] }:zDo) = x'
  have ho':Ok ⟨o.tag,t',ms',o.mks⟩:=hOk o _ rfl rfl ht' ho1
  have hsm:zNX ⟨o.tag,t',ms',o.mks⟩:=by
   obtain ⟨⟨a1,a2,a3,a4⟩,a5⟩:=ho2
   obtain ⟨g1,g2,g3,g4,g5⟩:=ht'
   have e5:=congrArg List.length g5
   simp only [List.length_map] at e5
   refine ⟨⟨by simp only; rw [g3]; exact a1,by simp only; rw [g4]; exact a2,by simp only; rw [e5]; exact a3,fun y hy=>?_⟩,a5⟩
   have h1:y.1 ∈ o.t.ops.map Prod.fst:=by rw [← g5]; exact List.mem_map.2 ⟨y,hy,rfl⟩
   obtain ⟨z,hz,e⟩:=List.mem_map.1 h1
   rw [← e]; exact a4 z hz
  have hmemL:∀ l,l ∈ x.logs.set r.toNat ⟨s',lg.items++[it]⟩→l ∈ x.logs∨l = ⟨s',lg.items++[it]⟩:=fun l hl=>List.mem_or_eq_of_mem_set hl
  have hxok:zCA Ok m (c + 1) x':=by
   rw [← hx']
   refine ⟨by simp [hx.ll],by simp [hx.al],fun y hy=>?_,fun y hy=>List.mem_append_left _ (hx.g y hy),fun l hl j hj=>?_,by simp only; omega,fun l hl=>?_,fun l hl j hj=>?_,fun y hy y' hy' he=>?_,fun y hy=>?_,fun v hv=>?_⟩
   ·rcases List.mem_append.1 hy with hy | hy
    ·exact hx.ok y hy
    ·rw [List.mem_singleton.1 hy]; exact ⟨ho',hsm⟩
   ·rcases hmemL l hl with hl | rfl
    ·exact List.mem_append_left _ (hx.it l hl j hj)
    ·rcases List.mem_append.1 hj with hj | hj
     ·exact List.mem_append_left _ (hx.it lg hlgm j hj)
     ·rw [List.mem_singleton.1 hj,← hit]; simp
   ·rcases hmemL l hl with hl | rfl
    ·have:=hx.ic l hl; omega
    ·simp; omega
   ·rcases hmemL l hl with hl | rfl
    ·have:=hx.kd l hl j hj; omega
    ·rcases List.mem_append.1 hj with hj | hj
     ·have:=hx.kd lg hlgm j hj; omega
     ·rw [List.mem_singleton.1 hj,← hit]
      refine .inr ⟨rfl,by simp only; omega,by simp only; omega⟩
   ·have hsy:zEk o.t t':=⟨ht'.1.symm,ht'.2.1.symm,ht'.2.2.1.symm,ht'.2.2.2.1.symm,ht'.2.2.2.2.symm⟩
    have tr:∀ {p q r:TxX},zEk p q→zEk q r→zEk p r:=fun h1 h2=>⟨h1.1.trans h2.1,h1.2.1.trans h2.2.1,h1.2.2.1.trans h2.2.2.1,h1.2.2.2.1.trans h2.2.2.2.1,h1.2.2.2.2.trans h2.2.2.2.2⟩
    rcases List.mem_append.1 hy with hy | hy
    ·rcases List.mem_append.1 hy' with hy' | hy'
     ·exact hx.uq y hy y' hy' he
     ·rw [List.mem_singleton.1 hy'] at he ⊢
      obtain ⟨u1,u2⟩:=hx.uq y hy o (hx.g o hmem) he
      exact ⟨u1,tr u2 hsy⟩
    ·rw [List.mem_singleton.1 hy] at he ⊢
     rcases List.mem_append.1 hy' with hy' | hy'
     ·obtain ⟨u1,u2⟩:=hx.uq o (hx.g o hmem) y' hy' he
      exact ⟨u1,tr ht' u2⟩
     ·rw [List.mem_singleton.1 hy']
      exact ⟨rfl,tr ht' hsy⟩
   ·rcases List.mem_append.1 hy with hy | hy
    ·exact hx.sq y hy
    ·rw [List.mem_singleton.1 hy]
     exact hx.sq o (hx.g o hmem)
   ·rcases List.mem_or_eq_of_mem_set hv with hv | rfl
    ·exact hx.lo v hv
    ·simp only; omega
  have hfin:=hyes x' (i:Int) hxok (by rw [← hx']) (by rw [hlaD]; exact hlt) (by omega) (by rw [← hx'])
  refine zB (Δ:=SlC qc 12 s' ((lg.items++[it]).flatMap zEx)::Sep.stars ((A++C).map zBk)::SlC qC 3 ms' (o.mks.flatMap mkL)::txC t' (Sep.stars (x.P.map zEX)::blk tb (.cells (uD { x with la:=x.la.set r.toNat (i:Int),logs:=x.logs.set r.toNat ⟨s',lg.items++[it]⟩ }).toArray zI (0,0))::SlC zn 10 x.gs (x.G.flatMap zAI)::Γ)) ?_
  show HG B (zBk ⟨s',lg.items++[it]⟩::_) _
  refine zAb ?_
  rw [← hset]
  refine zw ms' ?_
  refine zB (Δ:=SlC qC 3 ms' (o.mks.flatMap mkL)::txC t' (Sep.stars (x.P.map zEX)::Sep.stars ((x.logs.set r.toNat ⟨s',lg.items++[it]⟩).map zBk)::blk tb (.cells (uD { x with la:=x.la.set r.toNat (i:Int),logs:=x.logs.set r.toNat ⟨s',lg.items++[it]⟩ }).toArray zI (0,0))::SlC zn 10 x.gs (x.G.flatMap zAI)::Γ)) ?_
  refine zQe (o:=⟨o.tag,t',ms',o.mks⟩) ?_
  refine zH6 ?_
  subst hx'
  exact zB hfin
 have rdG:∀ {Ψ:List zC},[d:Drops Ψ [Sep.stars (x.P.map zEX)]]→∀ o ∈ x.G,∀ w,Holds B Ψ w→zCX w o.t∧RdC w o.ms 3 (o.mks.flatMap mkL):=fun {Ψ d} o ho w hw=>zH8 (Γ:=[]) (hx.g o ho) (hw.drops (d:=d))
 refine zIl ?_ ?_
 ·refine zU8 (G:=x.G) (fun w hw=>(yP (s:=x.gs) hw).1) (rdG) (fun o ho=>(hx.ok o (hx.g o ho)).2) (by omega) ?_ fun i o t' ms' hGi hlt ht'=>?_
  ·refine zH fun p5=>?_
   refine qA (b:=p5) (l':=itZ) ?_
   exact no
  ·refine zH fun p5=>?_
   refine qA (b:=p5) (l':=itN 2 (i:Int) o.tag t' ms') ?_
   exact yes i o t' ms' hGi hlt ht'
 ·refine zH fun p5=>?_
  refine zBC ?_
  refine zU8 (G:=x.G) (fun w hw=>(yP (s:=x.gs) hw).1) (rdG) (fun o ho=>(hx.ok o (hx.g o ho)).2) (by omega) ?_ fun i o t' ms' hGi hlt ht'=>?_
  ·refine qA (b:=p5) (l':=itZ) ?_
   exact no
  ·refine qA (b:=p5) (l':=itN 2 (i:Int) o.tag t' ms') ?_
   exact zB (yes i o t' ms' hGi hlt ht')
end
end
section
open Go Go.Sep Go.Sep.Bt
theorem zOw {k:List UInt8} {n:Nat} (h:0 < n):zBN k n < n:=by
 have:∀ (l:List UInt8) (s:Nat),s < n→l.foldl (fun s b=>(s + b.toNat) % n) s < n:=fun l=>by
  induction l with
  | nil=>exact fun s hs=>hs
  | cons b l ih=>exact fun s _=>ih _ (Nat.mod_lt _ h)
 exact this k 0 h
theorem zGT {n:Int} {g:y7} {a b:TxX} {mks:List MkX} (h:zEk a b) (ho:zDy n g b mks):zDy n g a mks:=by
 obtain ⟨h1,h2,h3⟩:=ho
 refine ⟨by rw [zFH h]; exact h1,h2,?_⟩
 obtain ⟨g1,g2,g3,g4,g5⟩:=h
 rw [g3,g4]; exact h3
theorem zYR {B:World} {Γ:List zC} {s:Sl} {D:List DcX} {k:K} (h:s.n = D.length→HG B (SlC yQ 6 s (D.flatMap dcF)::Γ) k):HG B (SlC yQ 6 s (D.flatMap dcF)::Γ) k:=by
 refine yS s fun a1 a2 a3 a4=>?_
 rw [zX _ 6 zJy] at a1
 exact h (by omega)
theorem zYS {B:World} {Γ:List zC} {s:Sl} {D:List y7} {k:K} (h:s.n = D.length→HG B (SlC vF 4 s (D.flatMap qO)::Γ) k):HG B (SlC vF 4 s (D.flatMap qO)::Γ) k:=by
 refine yS s fun a1 a2 a3 a4=>?_
 rw [zX _ 4 zRv] at a1
 exact h (by omega)
theorem zZx {n:Nat} {ix:Int} {g:y7} {t:TxX} {mks:List MkX} (hix:0 ≤ ix):PW n ix g t mks (xX mks) (zFL n):=by
 refine ⟨rfl,⟨by simp [zFL],rfl⟩,by simp [zFL],fun r _=>?_,fun _ h=>h,.inl ⟨rfl,rfl⟩⟩
 simp only [zFL]
 rw [List.getD_eq_getElem?_getD]
 cases he:(List.replicate n (⟨-1,[]⟩:zNy))[r.toNat]? with
 | none=>simp; omega
 | some f=>
  have:=List.eq_of_mem_replicate (List.mem_of_getElem? he)
  rw [this]; simp; omega
theorem zZy {n:Nat} {g:y7} {t:TxX} (hg:zF3 g) (h1:1 ≤ n) (h3:n ≤ 3) (hrt:xR n t = true) (hrt3:xR 3 t = true):zDy (n:Int) g t (zCS n [] (xq (t.reads++t.writes)))∧zDy 3 g t (zCS n [] (xq (t.reads++t.writes))):=by
 have hm:∀ m ∈ zCS n [] (xq (t.reads++t.writes)),0 ≤ m.home∧m.home < n:=fun m hm=>by
  obtain ⟨k,_,rfl⟩:=List.mem_map.1 hm
  have:((zx n [] (bs k)).home:Int) = (zBN (bs k).toList n:Nat):=rfl
  simp only [this]
  have:=zOw (k:=(bs k).toList) (n:=n) (by omega)
  omega
 have hk:(zCS n [] (xq (t.reads++t.writes))).map MkX.key = xq (t.reads++t.writes):=by simp [zCS,Function.comp_def]
 exact ⟨⟨hrt,hg,hk,hm⟩,⟨hrt3,hg,hk,fun m h=>by have:=hm m h; omega⟩⟩
section
variable {B:World} {Γ Δ:List zC}
theorem zYT {q:Bool→K} (h:HG B Γ (q true)):HG B Γ (xG.call q):=by
 refine fun w hw=>zLR _ _ ?_
 refine hg hw ?_
 clear hw w
 unfold xG
 refine zKo (n:=2) (by omega) (by omega) fun sd=>?_
 refine s_f ?_ (by rfl)
 unfold xG.s1
 refine s_f ?_ (by rfl)
 refine zP6 (cs:=qO ⟨0,1,1,0⟩) ?_
 refine zH fun t21=>?_
 have hk:xq (([]:List TX)++[[97],[98]]) = [[97],[98]]:=by
  refine zMq (zHF _) ?_ fun x=>?_
  ·refine List.pairwise_cons.2 ⟨fun y hy=>?_,List.pairwise_singleton _ _⟩
   rw [List.mem_singleton.1 hy]
   decide
  ·rw [zE3]; rfl
 generalize hw:(⟨some ⟨t21,0,none⟩,2,2⟩:Sl) = ws
 have hrt:∀ n:Int,1 ≤ n→n ≤ 3→xR n ⟨1,[],[[97],[98]],[],0,⟨none,0,0⟩,ws,⟨none,0,0⟩⟩ = true:=fun n h1 h3=>by
  unfold xR
  rw [if_neg (by simp [zAg]; refine ⟨h1,h3,?_⟩; decide),if_neg (by simp [zGK]),if_neg (by simp),if_neg (by simp)]
  rfl
 refine zO sd ?_
 refine zSJ (tag:=⟨0,1,1,0⟩) (t:=⟨1,[],[[97],[98]],[],0,⟨none,0,0⟩,ws,⟨none,0,0⟩⟩) (fun w hw=>⟨RdC.none',?_,RdC.none',by simp⟩) (by simp) (by simp) fun t' ms ht'=>?_
 ·subst ws
  exact RdC.zMR (E:=ug) (b:=t21) (vs:=[qb [97],qb [98]]) (cs:=#[qb [97],qb [98]]) hw List.mem_cons_self rfl rfl 2
 simp only at hrt ⊢
 have hmk:zCS 2 [] [[97],[98]] = [⟨[97],1,0⟩,⟨[98],0,0⟩]:=by
  simp only [zCS,List.map_cons,List.map_nil,zcb,zx,getM,Option.getD_none,List.cons.injEq,MkX.mk.injEq,and_true,true_and]
  refine ⟨⟨by rw [xY]; rfl,rfl⟩,by rw [xY]; rfl,rfl⟩
 have hokT:=zZy (n:=2) (g:=⟨0,1,1,0⟩) (t:=⟨1,[],[[97],[98]],[],0,⟨none,0,0⟩,ws,⟨none,0,0⟩⟩) (by decide) (by omega) (by omega) (hrt 2 (by omega) (by omega)) (hrt 3 (by omega) (by omega))
 have hfit:=zZo (n:=2) (ks:=xq (([]:List TX)++[[97],[98]]))
 simp only at hokT
 rw [hk,hmk] at hokT hfit
 rw [hk]
 show HG B (SlC qC 3 ms ((zCS 2 [] [[97],[98]]).flatMap mkL)::_) _
 rw [hmk]
 generalize hmks:([⟨[97],1,0⟩,⟨[98],0,0⟩]:List MkX) = mks at *
 have ho2:=zGT ht' hokT.1
 have ho3:=zGT ht' hokT.2
 have hmem:∀ x,x ∈ xX mks ↔ x = 0∨x = 1:=fun x=>by
  rw [zGS (by rw [← hmks]; simp),← hmks]
  simp [or_comm,eq_comm]
 have hs:zVy t' mks = false:=by
  have:(xX mks).length ≠ 1:=fun h1=>by
   obtain ⟨a,ha⟩:=List.length_eq_one_iff.1 h1
   have h2:=(hmem 0).2 (.inl rfl)
   have h3:=(hmem 1).2 (.inr rfl)
   rw [ha] at h2 h3
   have h4:=List.mem_singleton.1 h2
   have h5:=List.mem_singleton.1 h3
   omega
  simp [zVy,this]
 have hfo:∀ r ∈ xX mks,zI2 2 r 2 0 ⟨0,1,1,0⟩ t' mks:=fun r hr=>⟨.inr ⟨rfl,by omega,by omega⟩,ho3,by rcases (hmem r).1 hr with rfl | rfl <;> omega,ho2⟩
 have hops:t'.ops = []:=by have:=ht'.2.2.2.2; simpa using this
 have hml:mks.length = 2:=by rw [← hmks]; rfl
 have hmc:∀ m ∈ mks,0 ≤ m.cnt∧m.cnt < 18446744073709551616:=fun m hm=>by
  rw [← hmks] at hm
  simp only [List.mem_cons,List.not_mem_nil,or_false] at hm
  rcases hm with rfl | rfl <;> simp
 have hl:t'.reads.length ≤ 1000∧t'.writes.length ≤ 1000∧t'.ops.length ≤ 1000:=by
  rw [ht'.2.2.1,ht'.2.2.2.1,hops]; simp
 have p0:=zZx (n:=2) (ix:=0) (g:=⟨0,1,1,0⟩) (t:=t') (mks:=mks) (by omega)
 obtain ⟨q1,_⟩:=zNQ (r:=0) hfo hs hfit p0 ((hmem 0).2 (.inl rfl))
 have hm1:(1:Int) ∈ (xX mks).filter fun h=>!decide (h = 0):=List.mem_filter.2 ⟨(hmem 1).2 (.inr rfl),by simp⟩
 obtain ⟨d1,p1,j1⟩:=q1 (List.ne_nil_of_mem hm1)
 obtain ⟨_,q2⟩:=zNQ (r:=1) hfo hs hfit p1 hm1
 obtain ⟨G',hG',d2,j2⟩:=q2 (by
  rw [List.filter_eq_nil_iff]
  intro x hx
  obtain ⟨h1,h2⟩:=List.mem_filter.1 hx
  rcases (hmem x).1 h1 with rfl | rfl
  ·simp at h2
  ·simp)
 refine zH fun o3=>?_
 refine qA (b:=o3) (l':=orV ⟨0,1,1,0⟩ t' ms) ?_
 refine qI (b:=o3) (l:=orV ⟨0,1,1,0⟩ t' ms) (l':=orV ⟨0,1,1,0⟩ t' ms) ?_
 refine zT ?_
 refine zH fun p4=>?_
 refine qA (b:=p4) (l':=itV 2 0 ⟨0,1,1,0⟩ t' ms) ?_
 refine qI (b:=p4) (l:=itV 2 0 ⟨0,1,1,0⟩ t' ms) (l':=itV 2 0 ⟨0,1,1,0⟩ t' ms) ?_
 refine zO sd ?_
 refine zL3 (mks:=mks) (by omega) (fun w hw=>zQV (Γ:=[]) hw.drops) (fun w hw=>(yP (s:=ms) hw).1) (by rw [hops]; simp) (by simp) (by simp) hmc hl (by omega) fun s1 D1 hD1 _=>?_
 refine zYR fun n1=>?_
 have hD1':D1.length = 0:=by have:=congrArg List.length hD1; rw [List.length_map,d1] at this; simpa using this
 refine zO sd ?_
 refine zNV (by omega) fun s2=>?_
 refine zYS fun n2=>?_
 rw [List.length_map,j1] at n2
 refine qI (b:=p4) (l:=itV 2 0 ⟨0,1,1,0⟩ t' ms) (l':=itV 2 0 ⟨0,1,1,0⟩ t' ms) ?_
 refine zO sd ?_
 refine zL3 (mks:=mks) (by omega) (fun w hw=>zQV (Γ:=[]) hw.drops) (fun w hw=>(yP (s:=ms) hw).1) (by rw [hops]; simp) (by simp) (by simp) hmc hl (by omega) fun s3 D3 hD3 _=>?_
 refine zYR fun n3=>?_
 rw [d2] at hD3
 obtain ⟨d,rfl,hd⟩:=List.map_eq_singleton_iff.1 hD3
 refine s_t ?_ (by simp; omega)
 refine s_t ?_ (by simp; omega)
 refine s_t ?_ (by simp at n3 ⊢; omega)
 have hcode:d.code = 0:=by
  have h1:=congrArg DcM.code hd
  simp only [zGr,zFO] at h1
  rw [h1,if_neg (by rw [hG'.2]; simp)]
  have hk1:(zEi t').kind = 1:=ht'.1
  have hop:(zEi t').ops = []:=by simp [zEi,hops]
  unfold vT
  rw [hk1,hop,if_neg (by omega)]
  rfl
 refine zHw dcF (off:=4) (L:=[d]) (j:=0) (c:=Value.int .i64) (x:=d) (v:=d.code) zJy (fun w hw=>(yP (s:=s3) hw).1) rfl rfl ?_
 rw [hcode]
 refine s_t ?_ (by rfl)
 refine zO sd ?_
 refine zNV (by omega) fun s4=>?_
 refine zYS fun n4=>?_
 rw [List.length_map,j2] at n4
 unfold xG.s2
 rw [show decide ((s4.n:Int) = 0) = true by rw [n4]; rfl]
 exact zB h
end
end
section
open Go Go.Sep Go.Sep.Bt
def vU (n:Nat) (M:zy):Prop:=∀ x ∈ M,0 ≤ x.2.home∧x.2.home < (n:Int)
theorem vU.nil {n:Nat}:vU n []:=by intro x hx; cases hx
theorem vU.get {n:Nat} {M:zy} (h:vU n M) (hn:1 ≤ n) (k:ByteArray):0 ≤ (zx n M k).home∧(zx n M k).home < (n:Int):=by
 unfold zx
 cases hm:getM M k with
 | none=>
  have:=zOw (k:=k.toList) (n:=n) (by omega)
  simp only [Option.getD_none]
  omega
 | some r=>exact h _ (zMg hm)
theorem vU.move {n:Nat} {M:zy} (h:vU n M) (k:ByteArray) (to:Int):vU n (je n M k to).1:=by
 unfold je
 split
 ·exact h
 rename_i h1
 split
 ·exact h
 ·intro x hx
  rcases zJZ hx with rfl | hx
  ·simp only; omega
  ·exact h x hx
theorem vU.set {n:Nat} {M:zy} (h:vU n M) {k:ByteArray} {r:Rec} (hr:0 ≤ r.home∧r.home < (n:Int)):vU n (zB3 M k r):=by
 unfold zB3
 split
 ·intro x hx
  unfold zKG at hx
  exact h x (List.mem_filter.1 hx).1
 ·intro x hx
  rcases zJZ hx with rfl | hx
  ·exact hr
  ·exact h x hx
theorem vU.zBj {n:Nat} {M:zy} (h:vU n M) (hn:1 ≤ n) (x:List UInt8×Rec):vU n (zBj n M x):=by
 have h0:vU n (zDL n M x):=by
  unfold zDL
  split
  ·exact h.move _ _
  ·exact h
 unfold Go.Proofs.YtdemfamgieonbaaGreat.zBj zIy zLP
 split
 ·exact h0.set (h0.get hn _)
 ·exact h0.set (h0.get hn _)
theorem vU.jZ {n:Nat} (hn:1 ≤ n):∀ {W:WM} {M:zy},vU n M→vU n (jZ n M W)
 | [],_,h=>h
 | x::W,M,h=>by
  show vU n (Go.Proofs.YtdemfamgieonbaaGreat.jZ n (Go.Proofs.YtdemfamgieonbaaGreat.zBj n M x) W)
  exact vU.jZ hn (h.zBj hn x)
theorem vU.zFJ {n:Nat} {M:zy} (h:vU n M) (hn:1 ≤ n) {g:y7} {t:TxX} {G:GM×DM}:vU n (zFJ n g t M G):=by
 unfold Go.Proofs.YtdemfamgieonbaaGreat.zFJ
 split
 ·exact h
 ·exact vU.jZ hn h
theorem vU.work {n:Nat} (hn:1 ≤ n):∀ {f:Nat} {J:List zCC} {M:zy} {G:GM×DM},vU n M→vU n (jf n f J M G).1.2.1
 | 0,J,M,G,h=>h
 | f + 1,J,M,G,h=>by
  unfold jf
  split
  ·exact h
  ·exact vU.work hn (h.zFJ hn)
theorem vU.run {n:Nat} (hn:1 ≤ n) {S:zBS} (h:vU n S.M):vU n (zFd n S).1.M:=vU.work hn h
theorem vU.feed {n:Nat} (hn:1 ≤ n) {S:zBS} (h:vU n S.M) {r kind ix:Int} {tag:y7} {t:TxX} {mks:List MkX}:vU n (zBn n r kind ix tag t mks S).1.M:=by
 unfold zBn
 split
 ·unfold zNN
  split
  ·exact h
  split
  ·split
   ·exact vU.run hn h
   ·exact vU.run hn h
  ·exact vU.run hn h
 ·exact h
theorem zYU {n:Nat} {g:y7} {t:TxX} {M:zy} (hM:vU n M) (hg:zF3 g) (h1:1 ≤ n) (hrt:xR n t = true):zDy (n:Int) g t (zCS n M (xq (t.reads++t.writes))):=by
 refine ⟨hrt,hg,by simp [zCS,Function.comp_def],fun m hm=>?_⟩
 obtain ⟨k,_,rfl⟩:=List.mem_map.1 hm
 exact hM.get h1 _
end
section
open Go Go.Sep Go.Sep.Bt
section
variable {B:World} {Γ Δ:List zC} {k:K} {sd n T:Nat} {S:zBS} {r:Int}
def zBR (n:Nat) (S:zBS) (r:Int):Int:=if 0 ≤ r∧r < n then S.fed.getD r.toNat 0 else 0
theorem zL4 {q:Int→K} (h:HG B (zA2 sd n T S::Γ) (q (zBR n S r))):HG B (zA2 sd n T S::Γ) (jB.call (some ⟨sd,0,none⟩) r q):=by
 refine fun w hw=>zI1 _ _ _ _ ?_
 refine hg hw ?_
 clear hw w
 refine zJ0 fun st l a b c F J ho=>?_
 have back:HG B (zFK sd st l n T S a b c F J Γ) (q (zBR n S r)):=zDE ho h
 unfold jB
 refine zw b ?_
 refine zO sd ?_
 refine zSD (n:=n) ho.fedl ?_
 by_cases hr:0 ≤ r∧r < n
 ·rw [decide_eq_true hr]
  refine s_f ?_
  refine uP ?_
  refine yB (b:=sd) (off:=3) (l:=sdL st l a b c) (x:=b) ?_
  have hri:r.toNat < S.fed.length:=by rw [ho.fedl]; omega
  have hge:S.fed[r.toNat]? = some (S.fed.getD r.toNat 0):=by rw [List.getD_eq_getElem?_getD,List.getElem?_eq_getElem hri]; rfl
  refine zAd (L:=S.fed) (c:=Value.int .i64) (j:=r.toNat) (x:=S.fed.getD r.toNat 0) (fun w hw=>(yP (s:=b) hw).1) hge ?_ (by omega)
  unfold zBR at back
  rw [if_pos hr] at back
  exact zB back
 ·rw [decide_eq_false hr]
  refine s_t ?_
  unfold zBR at back
  rw [if_neg hr] at back
  exact zB back
end
end
section
open Go Go.Sep Go.Sep.Bt
structure OkG (n:Nat) (o:OrG):Prop where
 ord:zDy (n:Int) o.tag o.t o.mks
 nn:∀ x ∈ o.t.ops,-9223372036854775808 ≤ x.1.n∧x.1.n ≤ 9223372036854775807
 g0:0 ≤ o.tag.epoch∧o.tag.epoch < 18446744073709551616
 g1:0 ≤ o.tag.seq∧o.tag.seq < 18446744073709551616
 mc:∀ m ∈ o.mks,0 ≤ m.cnt∧m.cnt < 18446744073709551616
theorem OkG.copy {n:Nat} (o o':OrG) (h1:o'.tag = o.tag) (h2:o'.mks = o.mks) (h3:zEk o'.t o.t) (h:OkG n o):OkG n o':=by
 refine ⟨?_,fun x hx=>?_,by rw [h1]; exact h.g0,by rw [h1]; exact h.g1,by rw [h2]; exact h.mc⟩
 ·rw [h1,h2]; exact zGT h3 h.ord
 ·have e:x.1 ∈ o.t.ops.map Prod.fst:=by rw [← h3.2.2.2.2]; exact List.mem_map.2 ⟨x,hx,rfl⟩
  obtain ⟨y,hy,e⟩:=List.mem_map.1 e
  rw [← e]; exact h.nn y hy
structure zLB where
 kind:Int
 rg:Int
 t:TxX
abbrev zEm (x:zLB):List Value:=.int .i64 x.kind::.int .i64 x.rg::txL x.t
theorem zF8 (x:zLB):(zEm x).length = 7:=rfl
theorem zCA.up {Ok:OrG→Prop} {m c m' c':Nat} {x:zDo} (h:zCA Ok m c x) (hm:m ≤ m') (hc:c ≤ c'):zCA Ok m' c' x :=
 ⟨h.ll,h.al,h.ok,h.g,h.it,Nat.le_trans h.gc hc,fun l hl=>Nat.le_trans (h.ic l hl) hc,fun l hl i hi=>by have:=h.kd l hl i hi; omega,h.uq,fun o ho=>by have:=h.sq o ho; omega,h.lo⟩
def zHZ:zDo:=⟨[⟨⟨none,0,0⟩,[]⟩,⟨⟨none,0,0⟩,[]⟩,⟨⟨none,0,0⟩,[]⟩],⟨none,0,0⟩,[],[-1,-1,-1],[]⟩
theorem zZz {Ok:OrG→Prop}:zCA Ok 0 0 zHZ:=by
 refine ⟨rfl,rfl,by simp [zHZ],by simp [zHZ],?_,by simp [zHZ],?_,?_,by simp [zHZ],by simp [zHZ],by simp [zHZ]⟩
 all_goals (intro l hl; simp only [zHZ,List.mem_cons,List.not_mem_nil,or_false,or_self] at hl; subst hl; simp)
section
variable {B:World} {Γ Δ:List zC} {k:K}
theorem zda {α:Type} {s:Sem Value} {c:α→Value} {x:α} {kk:α→K} (h0:∀ w,s.run Tryz.prog w = .ok (c x) w) (h:HG B Γ (kk x)):HG B Γ (Pu Tryz.prog s c kk):=fun w hw=>⟨x,h0,h w hw⟩
theorem zV5 {Ok:OrG→Prop} {tb m c:Nat} {x:zDo} {r:Int} {X1 X3:Int→K} {q:Array Value→Bool→K} {regions:Int} {t4:Addr} (hr:0 ≤ r∧r < 3) (hx:zCA Ok m c x) (hc:c ≤ 700) (hg:x.G.length ≤ 60) (hOk:∀ o o':OrG,o'.tag = o.tag→o'.mks = o.mks→zEk o'.t o.t→Ok o→Ok o')
  (h:∀ x',zCA Ok m (c + 70) x'→x'.G = x.G→HG B (zI3 tb x' Γ) (X3 (r + 1))) :
  HG B (zI3 tb x Γ) (yJ (α:=Unit) (fun X _=>qM.b4 q X1 X3 (X ()) regions t4 ⟨tb,0,none⟩ r) ()):=by
 refine xW (α:=Unit) (ι:=Nat×zDo) (fun _ i=>zCA Ok m (c + i.1) i.2∧i.2.G = x.G∧(i.1:Int) ≤ i.2.la.getD r.toNat 0 + 1) (fun _ i=>zI3 tb i.2 Γ) (fun _ i=>(x.G.length + 1 - (i.2.la.getD r.toNat 0 + 1)).toNat) (0,x) ⟨hx,rfl,?_⟩ ?_
 ·have hl:r.toNat < x.la.length:=by rw [hx.al]; omega
  have:=(hx.lo (x.la[r.toNat]) (List.getElem_mem hl)).1
  rw [List.getD_eq_getElem?_getD,List.getElem?_eq_getElem hl]
  simp only [Option.getD_some]; omega
 rintro k' _ ⟨i,x'⟩ ⟨h1,h2,h3⟩ hk'
 simp only at h1 h2 h3 hk' ⊢
 have hl:r.toNat < x'.la.length:=by rw [h1.al]; omega
 have hlo:=h1.lo (x'.la[r.toNat]) (List.getElem_mem hl)
 have hgd:x'.la.getD r.toNat 0 = x'.la[r.toNat]:=by rw [List.getD_eq_getElem?_getD,List.getElem?_eq_getElem hl]; rfl
 rw [h2] at hlo
 unfold qM.b4
 refine zSN (m:=m) (c:=c + i) hr h1 (by omega) hOk ?_ fun x2 v hx2 hG2 hlt hvl hla=>?_
 ·refine s_f ?_
  refine qB ?_
  exact h x' (h1.up (Nat.le_refl _) (by omega)) h2
 ·refine s_t ?_
  have hv:x2.la.getD r.toNat 0 = v:=by
   rw [hla,List.getD_eq_getElem?_getD,List.getElem?_set_self hl]; rfl
  refine hk' () (i + 1,x2) ⟨hx2,by rw [hG2]; exact h2,?_⟩ ?_
  ·simp only; rw [hv]; push_cast; omega
  ·simp only
   rw [hv]
   rw [h2] at hvl
   omega
theorem zcf (n:Int):0 ≤ bitsOf .and .i64 n 3∧bitsOf .and .i64 n 3 ≤ 3:=by
 unfold bitsOf
 simp only
 have h1:((BitVec.ofInt IntKind.i64.bits n &&& BitVec.ofInt IntKind.i64.bits 3).toNat) ≤ 3:=by
  rw [BitVec.toNat_and]
  exact Nat.le_trans Nat.and_le_right (by decide)
 rw [wrap64 (by omega) (by omega)]
 omega
theorem zcg (n:Int):0 ≤ bitsOf .and .i64 n 1023∧bitsOf .and .i64 n 1023 ≤ 1023:=by
 unfold bitsOf
 simp only
 have h1:((BitVec.ofInt IntKind.i64.bits n &&& BitVec.ofInt IntKind.i64.bits 1023).toNat) ≤ 1023:=by
  rw [BitVec.toNat_and]
  exact Nat.le_trans Nat.and_le_right (by decide)
 rw [wrap64 (by omega) (by omega)]
 omega
theorem zOx {x:zDo}:(uD x).all yu = true:=by
 rw [List.all_eq_true]
 intro v hv
 unfold uD at hv
 rcases List.mem_append.1 hv with hv | hv
 ·obtain ⟨l,_,rfl⟩:=List.mem_map.1 hv; rfl
 rcases List.mem_cons.1 hv with rfl | hv
 ·rfl
 ·obtain ⟨l,_,rfl⟩:=List.mem_map.1 hv; rfl
theorem zZ0 {n tb t4 m c:Nat} {x:zDo} {X1:Int→K} {q:Array Value→Bool→K} {cs:List Value} (hn:n ≤ 3) (hcs:cs.length = 7) (hx:zCA (OkG n) m c x) (hc:c ≤ 60) (hg:x.G.length ≤ 60)
  (h:∀ x',zCA (OkG n) m 300 x'→HG B (Sep.stars (x'.logs.map zBk)::SlC zn 10 x'.gs (x'.G.flatMap zAI)::Sep.stars (x'.P.map zEX)::Γ) (q (uD x').toArray true)) :
  HG B (zI3 tb x (blk t4 (.cells cs.toArray zI (0,0))::Γ)) (yJ (α:=Int) (fun X x=>qM.b3 q X1 X (n:Int) ⟨t4,0,none⟩ ⟨tb,0,none⟩ x) 0):=by
 refine xW (α:=Int) (ι:=Nat×zDo) (fun y i=>y = (i.1:Int)∧i.1 ≤ n∧zCA (OkG n) m (c + 70 * i.1) i.2∧i.2.G = x.G) (fun _ i=>zI3 tb i.2 (blk t4 (.cells cs.toArray zI (0,0))::Γ)) (fun _ i=>n - i.1) (0,x) ⟨rfl,Nat.zero_le _,by simpa using hx,rfl⟩ ?_
 rintro k' _ ⟨i,x'⟩ ⟨rfl,hi,h1,h2⟩ hk'
 simp only at hi h1 h2 hk' ⊢
 unfold qM.b3
 refine zF (fun hb=>?_) fun hb=>?_
 ·have hil:i < n:=by simp only [decide_eq_true_eq] at hb; omega
  refine zV5 (m:=m) (c:=c + 70 * i) (by omega) h1 (by omega) (by rw [h2]; exact hg) OkG.copy fun x2 hx2 hG2=>?_
  exact hk' ((i:Int) + 1) (i + 1,x2) ⟨by simp,hil,hx2.up (Nat.le_refl _) (by omega),by rw [hG2]; exact h2⟩ (by simp only; omega)
 ·have h7:(uD x').length = 7:=zF7 h1.ll h1.al
  refine qI (b:=tb) (l:=uD x') (l':=uD x') ?_ (by rw [List.drop_zero,List.take_of_length_le (by omega)]) h7
  refine zTM (b:=t4) (off:=0) (us:=uD x') (uD x') ?_ h7 (by omega) (by rw [List.take_zero,List.nil_append,List.drop_of_length_le (by omega),List.append_nil]) zOx
  refine qI (b:=t4) (l:=uD x') (l':=uD x') ?_ (by rw [List.drop_zero,List.take_of_length_le (by omega)]) h7
  exact zB (h x' (h1.up (Nat.le_refl _) (by omega)))
end
end
section
open Go Go.Sep Go.Sep.Bt
section
variable {n:Nat} {r kind ix:Int} {tag:y7} {t:TxX} {mks:List MkX}
theorem zNY {f:Nat}:∀ {J:List zCC} {M:zy} {G:GM×DM},(∀ j ∈ J,xR (n:Int) j.tx = true)→∀ d ∈ (jf n f J M G).2,d.out.length ≤ 16:=by
 induction f with
 | zero=>intro J M G _ d hd; cases hd
 | succ f ih=>
  intro J M G hJ d hd
  unfold jf at hd
  cases ht:zIe (pick G) J with
  | none=>rw [ht] at hd; cases hd
  | some p=>
   obtain ⟨j,J'⟩:=p
   rw [ht] at hd
   have hsub:j ∈ J∧∀ y ∈ J',y ∈ J:=by
    rcases zSB (pick G) J with h | ⟨A,x,C,h1,h2,h3⟩
    ·rw [zGR h] at ht; cases ht
    ·rw [h1,zH5 h2 h3] at ht
     cases ht
     rw [h1]
     exact ⟨by simp,fun y hy=>by rcases List.mem_append.1 hy with hy | hy <;> simp [hy]⟩
   rcases List.mem_cons.1 hd with rfl | hd
   ·simp only [zLS]
    split
    ·simp
    split
    ·rename_i h0
     exact ((zJv (n:=n) (M:=M) (hJ j hsub.1)).2 h0).1
    ·simp
   ·exact ih (fun y hy=>hJ y (hsub.2 y hy)) d hd
theorem zYV {S:zBS} (hJ:∀ j ∈ S.jobs,xR (n:Int) j.tx = true):∀ d ∈ (zBn n r kind ix tag t mks S).2,d.out.length ≤ 16:=by
 unfold zBn
 split
 ·rename_i hok
  have upd:∀ {J:List zCC},(∀ j ∈ J,xR (n:Int) j.tx = true)→∀ j ∈ zHW tag r J,xR (n:Int) j.tx = true:=by
   intro J
   induction J with
   | nil=>intro _ j hj; cases hj
   | cons x J ih=>
    intro h j hj
    unfold zHW at hj
    split at hj
    ·rcases List.mem_cons.1 hj with rfl | hj
     ·exact h x List.mem_cons_self
     ·exact h j (List.mem_cons_of_mem _ hj)
    ·rcases List.mem_cons.1 hj with rfl | hj
     ·exact h _ List.mem_cons_self
     ·exact ih (fun y hy=>h y (List.mem_cons_of_mem _ hy)) j hj
  unfold zNN
  split
  ·intro d hd; cases hd
  split
  ·split
   ·exact zNY hJ
   ·exact zNY (upd hJ)
  ·refine zNY (upd fun j hj=>?_)
   rcases List.mem_append.1 hj with hj | hj
   ·exact hJ j hj
   ·rw [List.mem_singleton.1 hj]
    show xR (n:Int) (zEi t) = true
    rw [zFH (zH4 t)]
    exact hok.2.2.2.1
 ·intro d hd; cases hd
end
end
section
open Go Go.Sep Go.Sep.Bt
theorem zTU {Ok:OrG→Prop} {m c:Nat} {x:zDo} {o:OrG} (h:zCA Ok m c x) (h1:Ok o) (h2:zNX o) (h3:o.tag.seq = (m:Int) + 1):zCA Ok (m + 1) c { x with P:=x.P++[o] }:=by
 refine ⟨h.ll,h.al,fun y hy=>?_,fun y hy=>List.mem_append_left _ (h.g y hy),fun l hl i hi=>List.mem_append_left _ (h.it l hl i hi),h.gc,h.ic,h.kd,fun y hy y' hy' he=>?_,fun y hy=>?_,h.lo⟩
 ·rcases List.mem_append.1 hy with hy | hy
  ·exact h.ok y hy
  ·rw [List.mem_singleton.1 hy]; exact ⟨h1,h2⟩
 ·rcases List.mem_append.1 hy with hy | hy
  ·rcases List.mem_append.1 hy' with hy' | hy'
   ·exact h.uq y hy y' hy' he
   ·rw [List.mem_singleton.1 hy'] at he
    have:=h.sq y hy
    rw [he] at this; omega
  ·rw [List.mem_singleton.1 hy] at he ⊢
   rcases List.mem_append.1 hy' with hy' | hy'
   ·have:=h.sq y' hy'
    rw [← he] at this; omega
   ·rw [List.mem_singleton.1 hy']
    exact ⟨rfl,rfl,rfl,rfl,rfl,rfl⟩
 ·rcases List.mem_append.1 hy with hy | hy
  ·have:=h.sq y hy; push_cast; omega
  ·rw [List.mem_singleton.1 hy,h3]; push_cast; omega
theorem zTV {Ok:OrG→Prop} {m c j:Nat} {x:zDo} {o:OrG} {lg:zYQ} {s':Sl} (h:zCA Ok m c x) (ho:o ∈ x.P) (hl:x.logs[j]? = some lg):zCA Ok m (c + 1) { x with logs:=x.logs.set j ⟨s',lg.items++[⟨1,0,o⟩]⟩ }:=by
 have hm:∀ l,l ∈ x.logs.set j ⟨s',lg.items++[⟨1,0,o⟩]⟩→l ∈ x.logs∨l = ⟨s',lg.items++[⟨1,0,o⟩]⟩:=fun l hl=>List.mem_or_eq_of_mem_set hl
 have hlm:lg ∈ x.logs:=List.mem_of_getElem? hl
 refine ⟨by simp [h.ll],h.al,h.ok,h.g,fun l hl i hi=>?_,by have:=h.gc; show x.G.length ≤ c + 1; omega,fun l hl=>?_,fun l hl i hi=>?_,h.uq,h.sq,h.lo⟩
 ·rcases hm l hl with hl | rfl
  ·exact h.it l hl i hi
  ·rcases List.mem_append.1 hi with hi | hi
   ·exact h.it lg hlm i hi
   ·rw [List.mem_singleton.1 hi]; exact ho
 ·rcases hm l hl with hl | rfl
  ·have:=h.ic l hl; omega
  ·have:=h.ic lg hlm; simp; omega
 ·rcases hm l hl with hl | rfl
  ·have:=h.kd l hl i hi; omega
  ·rcases List.mem_append.1 hi with hi | hi
   ·have:=h.kd lg hlm i hi; omega
   ·rw [List.mem_singleton.1 hi]; exact .inl ⟨rfl,rfl⟩
theorem zTW {Ok:OrG→Prop} {m c:Nat} {x:zDo} {o:OrG} {s':Sl} (h:zCA Ok m c x) (ho:o ∈ x.P):zCA Ok m (c + 1) { x with gs:=s',G:=x.G++[o] }:=by
 refine ⟨h.ll,h.al,h.ok,fun y hy=>?_,h.it,?_,fun l hl=>by have:=h.ic l hl; omega,fun l hl i hi=>by have:=h.kd l hl i hi; omega,h.uq,h.sq,fun v hv=>?_⟩
 ·rcases List.mem_append.1 hy with hy | hy
  ·exact h.g y hy
  ·rw [List.mem_singleton.1 hy]; exact ho
 ·have:=h.gc; simp; omega
 ·have:=h.lo v hv; simp; omega
end
section
open Go Go.Sep Go.Sep.Bt
section
variable {B:World} {Γ Δ:List zC} {k:K}
theorem zch {sd n T:Nat} {S:zBS} (h:(∀ x ∈ S.M,x.2.ok)→HG B (zA2 sd n T S::Γ) k):HG B (zA2 sd n T S::Γ) k:=zJ0 fun st l a b c F J ho=>by
 refine zO st ?_
 refine zVj fun hok=>?_
 refine zw b ?_
 refine ze (Sep.stars (F.map (zGs T))) ?_
 refine zw a ?_
 refine ze (Sep.stars (J.map zFc)) ?_
 refine zw c ?_
 refine zO st ?_
 refine zO l ?_
 refine zO sd ?_
 exact zDE ho (h hok)
theorem zdb {n:Nat} {M:zy} (h:∀ x ∈ M,x.2.ok) (k:ByteArray):0 ≤ (zx n M k).cnt∧(zx n M k).cnt < 18446744073709551616:=by
 unfold zx
 cases hg:getM M k with
 | none=>simp
 | some r=>
  have:=h _ (zMg hg)
  simp only [Option.getD_some]
  obtain ⟨h1,h2,_⟩:=this
  simp only at h1 h2
  omega
theorem zbe {sd n T:Nat} {S:zBS} (h:(∀ x ∈ S.fed,0 ≤ x)→HG B (zA2 sd n T S::Γ) k):HG B (zA2 sd n T S::Γ) k:=zJ0 fun st l a b c F J ho=>zDE ho (h fun x hx=>(ho.fedr x hx).1)
theorem zTX {x:zDo} {s:Sl} {G P:List OrG} (h:x.logs.length = 3):(uD x).set 3 s.val = uD { logs:=x.logs,gs:=s,G:=G,la:=x.la,P:=P }:=by
 unfold uD
 rw [List.set_append,if_neg (by rw [List.length_map]; omega),List.length_map,h]; rfl
theorem zZ1 {n:Nat} (h1:1 ≤ n) (h3:n ≤ 3) {L:List zLB} {ss:Sl} {q:Array Value→Bool→K} (hL:∀ w,Holds B Γ w→RdC w ss 7 (L.flatMap zEm)) (hLr:∀ x ∈ L,(∀ w,Holds B Γ w→zCX w x.t)∧∀ y ∈ x.t.ops,-9223372036854775808 ≤ y.1.n∧y.1.n ≤ 9223372036854775807) (hLg:∀ x ∈ L,¬ zGG x.t) (hl:L.length ≤ 50)
  (h:∀ x,zCA (OkG n) 50 300 x→HG B (Sep.stars (x.logs.map zBk)::SlC zn 10 x.gs (x.G.flatMap zAI)::Sep.stars (x.P.map zEX)::Γ) (q (uD x).toArray true)):HG B Γ (qM.call (n:Int) ss q):=fun w hw=>by
 refine zNx _ _ _ _ ?_
 have hsn:ss.n = L.length:=zA3 zF8 (by omega) (hL w hw)
 refine hg hw ?_
 clear hw w
 unfold qM
 refine zH fun t4=>?_
 refine zda (x:=#[.int .i64 (-1),.int .i64 (-1),.int .i64 (-1)]) (fun w=>by kernel_rfl) ?_
 refine zP6 (cs:=uD zHZ) ?_
 refine zH fun t6=>?_
 refine qA (b:=t6) (l':=uD zHZ) ?_
 refine zKo h1 h3 fun sd=>?_
 refine s_f ?_ (by rfl)
 refine fun w hw=>hg (show Holds B (SlC qc 12 ⟨none,0,0⟩ []::SlC qc 12 ⟨none,0,0⟩ []::SlC qc 12 ⟨none,0,0⟩ []::SlC zn 10 ⟨none,0,0⟩ (([]:List OrG).flatMap zAI)::Sep.stars (([]:List OrG).map zEX)::_) w from ((((hw.zCn).zAm _ _).zAm _ _).zAm _ _).zAm _ _) ?_
 clear hw w
 show HG B (zBk ⟨⟨none,0,0⟩,[]⟩::zBk ⟨⟨none,0,0⟩,[]⟩::zBk ⟨⟨none,0,0⟩,[]⟩::_) _
 refine zEQ (Δ:=[zBk ⟨⟨none,0,0⟩,[]⟩,zBk ⟨⟨none,0,0⟩,[]⟩,zBk ⟨⟨none,0,0⟩,[]⟩]) ?_
 show HG B (Sep.stars (zHZ.logs.map zBk)::SlC zn 10 zHZ.gs (zHZ.G.flatMap zAI)::Sep.stars (zHZ.P.map zEX)::zA2 sd n 0 (zFL n)::blk t6 (.cells (uD zHZ).toArray zI (0,0))::blk t4 (.cells [Sl.val ⟨none,0,0⟩,Sl.val ⟨none,0,0⟩,Sl.val ⟨none,0,0⟩,Sl.val ⟨none,0,0⟩,.int .i64 0,.int .i64 0,.int .i64 0].toArray zI (0,0))::Γ) _
 refine zB (Δ:=zA2 sd n 0 (zFL n)::zI3 t6 zHZ (blk t4 (.cells [Sl.val ⟨none,0,0⟩,Sl.val ⟨none,0,0⟩,Sl.val ⟨none,0,0⟩,Sl.val ⟨none,0,0⟩,.int .i64 0,.int .i64 0,.int .i64 0].toArray zI (0,0))::Γ)) ?_
 generalize hZ:[Sl.val ⟨none,0,0⟩,Sl.val ⟨none,0,0⟩,Sl.val ⟨none,0,0⟩,Sl.val ⟨none,0,0⟩,.int .i64 0,.int .i64 0,.int .i64 0] = cz
 have hcz:cz.length = 7:=by rw [← hZ]; rfl
 refine xW (α:=Int) (ι:=Nat×Nat×zBS×zDo) (fun y i=>y = (i.1:Int)∧i.1 ≤ L.length∧i.2.1 ≤ i.1∧vU n i.2.2.1.M∧zCA (OkG n) i.1 i.1 i.2.2.2) (fun y i=>zA2 sd n i.2.1 i.2.2.1::zI3 t6 i.2.2.2 (blk t4 (.cells cz.toArray zI (0,0))::Γ)) (fun y i=>L.length - i.1) (0,0,zFL n,zHZ) ⟨rfl,Nat.zero_le _,Nat.le_refl _,vU.nil,zZz⟩ ?_
 rintro k' _ ⟨i,T,S,x⟩ ⟨rfl,hi,hT,hH,hx⟩ hk'
 simp only at hi hT hH hx hk' ⊢
 have hgc:=hx.gc
 unfold qM.b1
 refine zF (fun hb=>?_) fun hb=>?_
 rotate_left
 ·refine zB (Δ:=zI3 t6 x (blk t4 (.cells cz.toArray zI (0,0))::Γ)) ?_
  refine zZ0 h3 hcz (hx.up (m':=50) (c':=50) (by omega) (by omega)) (by omega) (by omega) fun x' hx'=>h x' hx'
 have hil:i < L.length:=by simp only [decide_eq_true_eq] at hb; omega
 have hge:L[i]? = some L[i]:=List.getElem?_eq_getElem hil
 have hmem:L[i] ∈ L:=List.getElem_mem hil
 generalize L[i] = st at hge hmem
 obtain ⟨ht,htn⟩:=hLr st hmem
 obtain ⟨z1,z2,z3,z4,z5⟩:=zX4 (hLg st hmem)
 have next:∀ {Ψ:List zC} {T':Nat} {S':zBS} {x':zDo},[d:Drops Ψ (zA2 sd n T' S'::zI3 t6 x' (blk t4 (.cells cz.toArray zI (0,0))::Γ))]→T' ≤ i + 1→vU n S'.M→zCA (OkG n) (i + 1) (i + 1) x' →
   HG B Ψ (qM.s2 q k' (n:Int) ⟨t4,0,none⟩ ⟨t6,0,none⟩ (some ⟨sd,0,none⟩) ss (ss.n:Int) (i:Int)):=fun {Ψ T' S' x' d} a1 a2 a3=>by
  unfold qM.s2
  refine qB ?_
  exact zB (d:=d) (hk' ((i:Int) + 1) (i + 1,T',S',x') ⟨by simp,hil,a1,a2,a3⟩ (by simp only; omega))
 refine zAc zEm zF8 (fun w hw=>hL w (hw.drops (Δ:=Γ))) hge ?_
 refine zH fun x10=>?_
 refine qA (b:=x10) (l':=zEm st) ?_
 refine yB (b:=x10) (off:=1) (l:=zEm st) (x:=st.rg) ?_
 obtain ⟨a1,a2⟩:=zcg st.rg
 generalize hr0:bitsOf .and .i64 st.rg 1023 = r0 at a1 a2
 refine zAW rfl ?_
 refine zPo (by omega) ?_
 refine zAW rfl ?_
 have hrr:0 ≤ Int.tmod r0 (n:Int)∧Int.tmod r0 (n:Int) < n:=⟨Int.tmod_nonneg _ a1,Int.tmod_lt_of_pos _ (by omega)⟩
 generalize Int.tmod r0 (n:Int) = r at hrr
 refine yB (b:=x10) (l:=zEm st) (x:=st.kind) ?_
 obtain ⟨b1,b2⟩:=zcf st.kind
 generalize hk3:bitsOf .and .i64 st.kind 3 = k3 at b1 b2
 refine zAW rfl ?_
 refine zF (fun hc=>?_) fun hc=>?_
 ·refine qI (b:=x10) (off:=2) (l:=zEm st) (l':=txL st.t) ?_
  refine zS1 (t:=st.t) (n:=(n:Int)) (fun w hw=>ht w (hw.drops (Δ:=Γ))) ⟨by omega,by omega,by omega⟩ ?_
  cases hrt:xR (n:Int) st.t with
  | false=>
   refine s_t ?_ (by rfl)
   exact next (T':=T) (S':=S) (x':=x) (by omega) hH (hx.up (by omega) (by omega))
  | true=>
  refine s_f ?_ (by rfl)
  obtain ⟨k1,k2,k3',k4⟩:=zEF hrt
  refine qB ?_
  refine zAW (zA0 (by omega) (by omega)) ?_
  refine zP6 (cs:=qO ⟨0,1,(i:Int) + 1,0⟩) ?_
  refine qI (b:=x10) (off:=2) (l:=zEm st) (l':=txL st.t) ?_
  refine zO sd ?_
  refine zch fun hrec=>?_
  refine zSJ (tag:=⟨0,1,(i:Int) + 1,0⟩) (t:=st.t) (fun w hw=>ht w (hw.drops (Δ:=Γ))) ⟨by omega,by omega,by omega,fun y hy=>by have:=(k4 y hy).2; omega⟩ (fun y hy=>by have:=k1 y hy; omega) fun t' ms ht'=>?_
  have hord0:=zYU (g:=⟨0,1,(i:Int) + 1,0⟩) hH (by unfold zF3; simp only; omega) h1 hrt
  have hmc:∀ m ∈ zCS n S.M (xq (st.t.reads++st.t.writes)),0 ≤ m.cnt∧m.cnt < 18446744073709551616:=fun m hm=>by
   obtain ⟨y,_,rfl⟩:=List.mem_map.1 hm
   exact zdb hrec _
  have hkl:=zF0 (st.t.reads++st.t.writes)
  have hml:(zCS n S.M (xq (st.t.reads++st.t.writes))).length ≤ 1000:=by
   rw [zCS,List.length_map]
   rw [List.length_append] at hkl
   omega
  generalize zCS n S.M (xq (st.t.reads++st.t.writes)) = mks at hord0 hmc hml ⊢
  have hord:=zGT ht' hord0
  have hops:∀ y ∈ t'.ops,∃ z ∈ st.t.ops,z.1 = y.1:=fun y hy=>by
   have h1:y.1 ∈ st.t.ops.map Prod.fst:=by rw [← ht'.2.2.2.2]; exact List.mem_map.2 ⟨y,hy,rfl⟩
   exact List.mem_map.1 h1
  have hlen:t'.ops.length = st.t.ops.length:=by have:=congrArg List.length ht'.2.2.2.2; simpa using this
  have hOk:OkG n ⟨⟨0,1,(i:Int) + 1,0⟩,t',ms,mks⟩:=⟨hord,fun y hy=>by obtain ⟨z,hz,e⟩:=hops y hy; rw [← e]; exact htn z hz,by simp,by simp only; omega,hmc⟩
  have hsm:zNX ⟨⟨0,1,(i:Int) + 1,0⟩,t',ms,mks⟩:=⟨⟨by simp only; rw [ht'.2.2.1]; omega,by simp only; rw [ht'.2.2.2.1]; omega,by simp only; omega,fun y hy=>by obtain ⟨z,hz,e⟩:=hops y hy; rw [← e]; have:=(k4 z hz).2; omega⟩,hml⟩
  have hx1:=zTU hx hOk hsm rfl
  refine zH fun o12=>?_
  refine qA (b:=o12) (l':=orV ⟨0,1,(i:Int) + 1,0⟩ t' ms) ?_
  refine qI (b:=o12) (l:=orV ⟨0,1,(i:Int) + 1,0⟩ t' ms) (l':=orV ⟨0,1,(i:Int) + 1,0⟩ t' ms) ?_
  refine zKg (L:=mks) (fun w hw=>(yP (s:=ms) hw).1) hml ?_
  generalize (decide (t'.kind = 1) && decide ((xX mks).length = 1)) = sg
  have hxg:=hx.gc
  cases sg
  ·refine s_f ?_
   refine yB (b:=t6) (off:=3) (l:=uD x) (x:=x.gs) ?_ (by rw [zCc]; exact zU9 hx.ll)
   refine qI (b:=o12) (l:=orV ⟨0,1,(i:Int) + 1,0⟩ t' ms) (l':=orV ⟨0,1,(i:Int) + 1,0⟩ t' ms) ?_
   refine zBf (cs:=orV ⟨0,1,(i:Int) + 1,0⟩ t' ms) ?_
   refine zH fun t97=>?_
   refine yS x.gs fun e1 e2 e3 e4=>?_
   rw [zX _ 10 zNW] at e1
   refine qN (s:=x.gs) (esz:=10) (us:=orV ⟨0,1,(i:Int) + 1,0⟩ t' ms) (jX rfl) (by simp [yu]) (by simp only; omega) fun gs' _=>?_
   rw [show x.G.flatMap zAI++orV ⟨0,1,(i:Int) + 1,0⟩ t' ms = (x.G++[(⟨⟨0,1,(i:Int) + 1,0⟩,t',ms,mks⟩:OrG)]).flatMap zAI by simp]
   generalize hog:(⟨⟨0,1,(i:Int) + 1,0⟩,t',ms,mks⟩:OrG) = og at hx1
   refine zCB (b:=t6) (off:=3) (l:=uD x) (l':=uD { logs:=x.logs,gs:=gs',G:=x.G++[og],la:=x.la,P:=x.P++[og] }) ?_ (Nat.ble_eq_true_of_le (by rw [zF7 hx.ll hx.al]; omega)) (zTX hx.ll) rfl
   refine zB (Δ:=SlC qC 3 ms (mks.flatMap mkL)::txC t' (Sep.stars (x.P.map zEX)::zA2 sd n T S::blk t6 (.cells (uD { logs:=x.logs,gs:=gs',G:=x.G++[og],la:=x.la,P:=x.P++[og] }).toArray zI (0,0))::Sep.stars (x.logs.map zBk)::SlC zn 10 gs' ((x.G++[og]).flatMap zAI)::blk t4 (.cells cz.toArray zI (0,0))::Γ)) ?_
   refine zQe (o:=⟨⟨0,1,(i:Int) + 1,0⟩,t',ms,mks⟩) ?_
   rw [hog]
   refine zH6 ?_
   have hx2:=zTW (s':=gs') hx1 (o:=og) (by simp)
   exact next (T':=T) (S':=S) (x':={ logs:=x.logs,gs:=gs',G:=x.G++[og],la:=x.la,P:=x.P++[og] }) (by omega) hH hx2
  ·refine s_t ?_
   refine qI (b:=o12) (l:=orV ⟨0,1,(i:Int) + 1,0⟩ t' ms) (l':=orV ⟨0,1,(i:Int) + 1,0⟩ t' ms) ?_
   refine zHV (pre:=qO ⟨0,1,(i:Int) + 1,0⟩++txL t') (L:=mks) rfl (fun w hw=>(yP (s:=ms) hw).1) hml fun hs=>?_
   obtain ⟨hd,tl,hHe⟩:=List.exists_cons_of_ne_nil (zVz mks)
   have hhb:0 ≤ hd∧hd < 3:=by
    have hm:hd ∈ xX mks:=by rw [hHe]; simp
    by_cases hn:mks = []
    ·rw [hn,zNO,List.mem_singleton] at hm; omega
    ·obtain ⟨m,hm2,rfl⟩:=(zGS hn).1 hm
     have:=hord0.2.2.2 m hm2; omega
   refine zAd (L:=xX mks) (c:=Value.int .i64) (j:=0) (x:=hd) (fun w hw=>(yP (s:=hs) hw).1) (by rw [hHe]; rfl) ?_
   have hjl:hd.toNat < x.logs.length:=by rw [hx.ll]; omega
   have hlg:x.logs[hd.toNat]? = some x.logs[hd.toNat]:=List.getElem?_eq_getElem hjl
   have hlm:x.logs[hd.toNat] ∈ x.logs:=List.getElem_mem hjl
   generalize x.logs[hd.toNat] = lg at hlg hlm
   refine vo ?_
   refine zBE [blk t6 (.cells (uD x).toArray zI (0,0)),blk o12 (.cells (orV ⟨0,1,(i:Int) + 1,0⟩ t' ms).toArray zn (0,0))] ?_
   refine zEK (by omega) (by omega) ?_
   refine jC (b:=t6) (off:=0 + hd.toNat) (l:=uD x) (x:=lg.s) ?_ (by rw [zCc,Nat.zero_add]; exact zF6 hlg)
   refine zBM (b:=o12) (l:=orV ⟨0,1,(i:Int) + 1,0⟩ t' ms) (l':=orV ⟨0,1,(i:Int) + 1,0⟩ t' ms) ?_
   refine zT ?_
   refine zBf (cs:=itN 1 0 ⟨0,1,(i:Int) + 1,0⟩ t' ms) ?_
   refine zH fun t90=>?_
   refine zBC ?_
   have hsp:=List.take_append_drop hd.toNat x.logs
   rw [List.drop_eq_getElem_cons hjl,(List.getElem?_eq_some_iff.1 hlg).2] at hsp
   have hsl:(x.logs.take hd.toNat).length = hd.toNat:=by rw [List.length_take]; omega
   generalize x.logs.take hd.toNat = A at hsp hsl
   generalize x.logs.drop (hd.toNat + 1) = C at hsp
   have hlc:=hx.ic lg hlm
   have e1:Sep.stars (x.logs.map zBk) = Sep.stars ((A++lg::C).map zBk):=by rw [hsp]
   refine ze (Sep.stars (x.logs.map zBk)) ?_
   rw [e1]
   refine zFk ?_
   show HG B (SlC qc 12 lg.s (lg.items.flatMap zEx)::_) _
   refine yS lg.s fun b1 b2 b3 b4=>?_
   rw [zX _ 12 zEW] at b1
   refine qN (s:=lg.s) (esz:=12) (us:=itN 1 0 ⟨0,1,(i:Int) + 1,0⟩ t' ms) (jX rfl) (by simp [yu]) (by simp only; omega) fun s' _=>?_
   refine zEK (by omega) (by omega) ?_
   generalize hog:(⟨⟨0,1,(i:Int) + 1,0⟩,t',ms,mks⟩:OrG) = og at hx1
   rw [show lg.items.flatMap zEx++itN 1 0 ⟨0,1,(i:Int) + 1,0⟩ t' ms = (lg.items++[(⟨1,0,og⟩:ItG)]).flatMap zEx by rw [← hog]; simp]
   refine zCB (b:=t6) (off:=0 + hd.toNat) (l:=uD x) (l':=uD { logs:=x.logs.set hd.toNat ⟨s',lg.items++[⟨1,0,og⟩]⟩,gs:=x.gs,G:=x.G,la:=x.la,P:=x.P++[og] }) ?_ (Nat.ble_eq_true_of_le (by rw [zF7 hx.ll hx.al]; omega)) (zLA (x:=x) (l:=⟨s',lg.items++[⟨1,0,og⟩]⟩) hjl) rfl
   have hset:x.logs.set hd.toNat ⟨s',lg.items++[⟨1,0,og⟩]⟩ = A++⟨s',lg.items++[⟨1,0,og⟩]⟩::C:=by
    rw [← hsp,← hsl]; simp
   refine zB (Δ:=SlC qc 12 s' ((lg.items++[(⟨1,0,og⟩:ItG)]).flatMap zEx)::Sep.stars ((A++C).map zBk)::SlC qC 3 ms (mks.flatMap mkL)::txC t' (Sep.stars (x.P.map zEX)::zA2 sd n T S::blk t6 (.cells (uD { logs:=x.logs.set hd.toNat ⟨s',lg.items++[⟨1,0,og⟩]⟩,gs:=x.gs,G:=x.G,la:=x.la,P:=x.P++[og] }).toArray zI (0,0))::SlC zn 10 x.gs (x.G.flatMap zAI)::blk t4 (.cells cz.toArray zI (0,0))::Γ)) ?_
   show HG B (zBk ⟨s',lg.items++[⟨1,0,og⟩]⟩::_) _
   refine zAb ?_
   rw [← hset]
   refine zB (Δ:=SlC qC 3 ms (mks.flatMap mkL)::txC t' (Sep.stars (x.P.map zEX)::Sep.stars ((x.logs.set hd.toNat ⟨s',lg.items++[⟨1,0,og⟩]⟩).map zBk)::zA2 sd n T S::blk t6 (.cells (uD { logs:=x.logs.set hd.toNat ⟨s',lg.items++[⟨1,0,og⟩]⟩,gs:=x.gs,G:=x.G,la:=x.la,P:=x.P++[og] }).toArray zI (0,0))::SlC zn 10 x.gs (x.G.flatMap zAI)::blk t4 (.cells cz.toArray zI (0,0))::Γ)) ?_
   refine zQe (o:=⟨⟨0,1,(i:Int) + 1,0⟩,t',ms,mks⟩) ?_
   rw [hog]
   refine zH6 ?_
   have hx2:=zTV (s':=s') hx1 (o:=og) (by simp) hlg
   exact next (T':=T) (S':=S) (x':={ logs:=x.logs.set hd.toNat ⟨s',lg.items++[⟨1,0,og⟩]⟩,gs:=x.gs,G:=x.G,la:=x.la,P:=x.P++[og] }) (by omega) hH hx2
 refine zF (fun hd=>?_) fun hd=>?_
 ·refine zB (Δ:=zI3 t6 x (zA2 sd n T S::blk t4 (.cells cz.toArray zI (0,0))::Γ)) ?_
  refine zSN (m:=i) (c:=i) (by omega) hx (by omega) OkG.copy ?_ fun x' v hx' hG' _ _ _=>?_
  ·exact next (T':=T) (S':=S) (x':=x) (by omega) hH (hx.up (by omega) (by omega))
  ·exact next (T':=T) (S':=S) (x':=x') (by omega) hH (hx'.up (by omega) (by omega))
 ·have hrl:r.toNat < x.logs.length:=by rw [hx.ll]; omega
  have hlg:x.logs[r.toNat]? = some x.logs[r.toNat]:=List.getElem?_eq_getElem hrl
  have hlm:x.logs[r.toNat] ∈ x.logs:=List.getElem_mem hrl
  generalize x.logs[r.toNat] = lg at hlg hlm
  refine vo ?_
  refine zBE [blk t6 (.cells (uD x).toArray zI (0,0))] ?_
  refine zEK (by omega) (by omega) ?_
  refine jC (b:=t6) (off:=0 + r.toNat) (l:=uD x) (x:=lg.s) ?_ (by rw [zCc,Nat.zero_add]; exact zF6 hlg)
  refine zO sd ?_
  refine zL4 ?_
  refine zBC ?_
  refine zF (fun he=>?_) fun he=>?_
  rotate_left
  ·exact next (T':=T) (S':=S) (x':=x) (by omega) hH (hx.up (by omega) (by omega))
  refine vo ?_
  refine zBE [blk t6 (.cells (uD x).toArray zI (0,0))] ?_
  refine zEK (by omega) (by omega) ?_
  refine jC (b:=t6) (off:=0 + r.toNat) (l:=uD x) (x:=lg.s) ?_ (by rw [zCc,Nat.zero_add]; exact zF6 hlg)
  refine zL4 ?_
  refine zBC ?_
  have rdL:∀ {Ψ:List zC},[d:Drops Ψ [Sep.stars (x.logs.map zBk)]]→∀ w,Holds B Ψ w→RdC w lg.s 12 (lg.items.flatMap zEx):=fun {Ψ d} w hw=>by
   obtain ⟨Δ,hd2⟩:=zEE (Γ:=[]) (F:=zBk) hlm (hw.drops (d:=d))
   have h2:Holds B (SlC qc 12 lg.s (lg.items.flatMap zEx)::Δ) w:=hd2
   exact (yP (s:=lg.s) h2).1
  refine fun w hw=>?_
  have hln:lg.s.n = lg.items.length:=zA3 zEW (by have:=hx.ic lg hlm; omega) (rdL w hw)
  refine hg hw ?_
  clear hw w
  refine zbe fun hf0=>?_
  have hf1:0 ≤ zBR n S r:=by
   unfold zBR
   split
   ·rename_i hrn
    rw [List.getD_eq_getElem?_getD]
    cases hfe:S.fed[r.toNat]? with
    | none=>simp
    | some v=>exact hf0 v (List.mem_of_getElem? hfe)
   ·omega
  have he':zBR n S r < (lg.s.n:Int):=by simpa using he
  have hjl:(zBR n S r).toNat < lg.items.length:=by omega
  have hgi:lg.items[(zBR n S r).toNat]? = some lg.items[(zBR n S r).toNat]:=List.getElem?_eq_getElem hjl
  have hgm:lg.items[(zBR n S r).toNat] ∈ lg.items:=List.getElem_mem hjl
  generalize lg.items[(zBR n S r).toNat] = it at hgi hgm
  have hop:=hx.it lg hlm it hgm
  obtain ⟨hok,hsm⟩:=hx.ok it.o hop
  refine zAc zEx zEW (fun w hw=>rdL w hw) hgi ?_ (by omega)
  refine zL3 (r:=r) (kind:=it.kind) (ix:=it.ix) (tag:=it.o.tag) (t:=it.o.t) (ms:=it.o.ms) (mks:=it.o.mks) (by omega) (fun w hw=>(zH8 (Γ:=[]) hop hw.drops).1) (fun w hw=>(zH8 (Γ:=[]) hop hw.drops).2) hok.nn hok.g0 hok.g1 hok.mc ⟨hsm.1.1,hsm.1.2.1,hsm.1.2.2.1⟩ hsm.2 fun s1 D1 _ _=>?_
  exact next (T':=T + 1) (x':=x) (by omega) (hH.feed h1 (r:=r) (kind:=it.kind) (ix:=it.ix) (tag:=it.o.tag) (t:=it.o.t) (mks:=it.o.mks)) (hx.up (by omega) (by omega))
end
end
section
open Go Go.Sep Go.Sep.Bt
section
variable {B:World} {Γ Δ:List zC} {Q:Bool→Sep.K}
def zdc (w:World) (s:Sl) (X:List DcX):Prop:=RdC w s 6 (X.flatMap dcF)∧∀ x ∈ X,RdC w x.os 2 (x.O.flatMap oF)∧∀ y ∈ x.O,RdB w y.2 y.1.2
theorem zYW {w:World} {s:Sl} {X:List DcX} (h:Holds B (SlC yQ 6 s (X.flatMap dcF)::Sep.stars (X.map dcO)::Γ) w):zdc w s X:=by
 refine ⟨(yP (s:=s) h).1,fun x hx=>?_⟩
 obtain ⟨Δ,hd⟩:=zEE (F:=dcO) hx h.tail
 have h1:Holds B (SlC yC 2 x.os (x.O.flatMap oF)::Sep.stars (x.O.map oB)::Δ) w:=(Holds.flat (Δ:=[SlC yC 2 x.os (x.O.flatMap oF),Sep.stars (x.O.map oB)])).1 hd
 refine ⟨(yP (s:=x.os) h1).1,fun y hy=>?_⟩
 obtain ⟨Δ',h2⟩:=zEE (F:=oB) hy h1.tail
 exact zKW h2
end
end
section
open Go Go.Sep Go.Sep.Bt
section
variable {B:World} {Γ Δ:List zC}
end
end
section
open Go Go.Sep
set_option maxHeartbeats 4000000
attribute [local irreducible] G Gp Cx Tx Ex Sx Dx Ox Ax Lx Rx Fx Bx Bj Al Do Ld LdN St StN New zL Ar DoU Rd Rd2 Pu Cd Ite Fv uF jk jD yO zAQ zDT zDq zD0 Ext Dead Dr yh Sv LdS vY RdS zEL Nn Idx zB0 zDp Fld Bld Slc zEM Cat All yJ jg jO jm
instance:ART Tryz.prog 119 3 2 1:=⟨by kernel_rfl⟩
instance:CB Tryz.prog 17:=⟨by kernel_rfl⟩
instance:CB Tryz.prog 25:=⟨by kernel_rfl⟩
instance:CB Tryz.prog 26:=⟨by kernel_rfl⟩
instance:CB Tryz.prog 33:=⟨by kernel_rfl⟩
instance:CB Tryz.prog 40:=⟨by kernel_rfl⟩
instance:CB Tryz.prog 41:=⟨by kernel_rfl⟩
instance:CB Tryz.prog 42:=⟨by kernel_rfl⟩
instance:CB Tryz.prog 8:=⟨by kernel_rfl⟩
instance:SZ Tryz.prog 119 2:=⟨by kernel_rfl⟩
instance:ZT Tryz.prog 119 (.agg #[(.int .i64 0),(.int .i64 0)]):=⟨Tryz.t119,by kernel_rfl,by kernel_rfl⟩
end
section
open Go Go.Sep
set_option maxHeartbeats 4000000
attribute [local irreducible] zOD
attribute [local irreducible] G Gp Cx Tx Ex Sx Dx Ox Ax Lx Rx Fx Bx Bj Al Do Ld LdN St StN New zL Ar DoU Rd Rd2 Pu Cd Ite Fv uF jk jD yO zAQ zDT zDq zD0 Ext Dead Dr yh Sv LdS vY RdS zEL Nn Idx zB0 zDp Fld Bld Slc zEM Cat All yJ jg jO jm
instance:AT Tryz.prog 73 3:=⟨by kernel_rfl⟩
def zD.b4 (Q:Bool→K) (k l:Int→K) (q:Sl) (r:Addr) (s:Pt) (m:(Option Nat)) (t:Av) (n:Int) (o:Sl) (p b:Int): K :=
 Ite (decide (b < p))
  (Idx o b 12 fun c=>
  LdN c 12 fun d=>
  New 48 #[.int .i64 0,.int .i64 0,.int .i64 0,.int .u64 0,.int .u64 0,.int .i64 0,.int .i64 0,Sl.val ⟨none,0,0⟩,Sl.val ⟨none,0,0⟩,Sl.val ⟨none,0,0⟩,.int .i64 0,Sl.val ⟨none,0,0⟩] fun a=>
  StN a 12 d<|
  LdN (a.add 2) 4 fun f=>
  LdN (a.add 2) 10 fun g=>
  DoU Tryz.prog (Instr.mapUpdate 79 (.map m) (.agg f) (.agg g))<|
  Ar (IntKind.wrap .i64 (b + 1)) fun i=>
  l i)
  (Ar (IntKind.wrap .i64 (n + 1)) fun j=>
  k j)
def zD.s6 (Q:Bool→K) (d b:Int→K) (f:Sl) (g:Addr) (i:Pt) (j:(Option Nat)) (k:Pt) (c:Int): K :=
 Ar (IntKind.wrap .i64 (c + 1)) fun a=>
 b a
def zD.s9 (Q:Bool→K) (d f b:Int→K) (g:Sl) (i:Addr) (j:Pt) (k:(Option Nat)) (l:Pt) (m:Int) (n:Sl) (o c:Int): K :=
 Ar (IntKind.wrap .i64 (c + 1)) fun a=>
 b a
def zD.s11 (Q:Bool→K) (f g i:Int→K) (b:Bool→Int→K) (j:Sl) (k:Addr) (l:Pt) (m:(Option Nat)) (n:Pt) (o:Int) (p q:Addr) (c:Bool) (r:Sl) (s t:Int) (u:Sl) (v d:Int): K :=
 Ar (IntKind.wrap .i64 (d + 1)) fun a=>
 b c a
def zD.b10 (Q:Bool→K) (b c d:Int→K) (v:Bool→Int→K) (f:Sl) (g:Addr) (i:Pt) (j:(Option Nat)) (a:Pt) (k:Int) (l r:Addr) (m:Sl) (n o:Int) (s:Sl) (t:Int) (x:Bool) (p:Int): K :=
 Ite (decide (p < t))
  (Idx s p 3 fun z=>
  LdN z 3 fun aa=>
  New 84 #[(.string ⟨#[]⟩),.int .i64 0,.int .u64 0] fun q=>
  StN q 3 aa<|
  Ld q Value.string fun ab=>
  qm.call a ab fun ac=>
  New 87 #[.bool false,Sl.val ⟨none,0,0⟩,.int .i64 0,.int .u64 0] fun u=>
  StN u 4 ac<|
  Ite x
   (Ld (u.add 2) (Value.int .i64) fun ad=>
   Ld (q.add 1) (Value.int .i64) fun ae=>
   Ite (decide (ad = ae))
    (Ld (u.add 3) (Value.int .u64) fun af=>
    Ld (q.add 2) (Value.int .u64) fun ag=>
    zD.s11 Q b c d v f g i j a k l r (decide (af = ag)) m n o s t p)
    (zD.s11 Q b c d v f g i j a k l r false m n o s t p))
   (zD.s11 Q b c d v f g i j a k l r false m n o s t p))
  (Ld (l.add 4) (Value.int .i64) fun ah=>
  Ite (!(x == (decide (ah ≠ 112))))
   (Q false)
   (Ite (!x)
    (zD.s9 Q b c d f g i j a k m n o)
    (LdN (r.add 4) 5 fun aj=>
    qZ.call a aj fun ak al=>
    New 51 #[.int .i64 0,Sl.val ⟨none,0,0⟩] fun y=>
    StN y 2 ak<|
    zAj.call a al<|
    LdN (l.add 4) 2 fun am=>
    LdN y 2 fun an=>
    vO.call am an fun ao=>
    Ite (!ao)
     (Q false)
     (zD.s9 Q b c d f g i j a k m n o))))
def zD.b8 (Q:Bool→K) (j k ad:Int→K) (l:Sl) (m:Addr) (c:Pt) (d:(Option Nat)) (o:Pt) (p:Int) (q:Sl) (r f:Int): K :=
 Ite (decide (f < r))
  (Idx q f 6 fun s=>
  LdN s 6 fun t=>
  New 53 #[.int .i64 0,.int .u64 0,.int .u64 0,.int .i64 0,.int .i64 0,Sl.val ⟨none,0,0⟩] fun a=>
  StN a 6 t<|
  LdN a 4 fun u=>
  Rd Tryz.prog (Instr.lookup 79 (.map d) (.agg u) false) Value.agg fun v=>
  New 40 #[.int .i64 0,.int .u64 0,.int .u64 0,.int .i64 0,.int .i64 0,Sl.val ⟨none,0,0⟩,Sl.val ⟨none,0,0⟩,Sl.val ⟨none,0,0⟩,.int .i64 0,Sl.val ⟨none,0,0⟩] fun b=>
  StN b 10 v<|
  Ld (b.add 9) Sl.val fun g=>
  yJ (α:=Bool×Int) (fun X x=>zD.b10 Q j k ad (fun y z=>X (y,z)) l m c d o p a b q r f g (g.n:Int) x.1 x.2) (true,0))
  (Dr <| yh fun S=>
  Nn o fun i=>
  LdS S (i.add 1) Sl.val fun aa=>
  zAs.call c fun ab=>
  Sv S<|
  jG.call ab aa fun ac=>
  Ite (!ac)
   (Q false)
   (zD.s6 Q j k l m c d (some i) p))
def zD.s7 (Q:Bool→K) (f g:Int→K) (i:Sl) (c:Addr) (a:Pt) (j:(Option Nat)) (k:Pt) (l b:Int): K :=
 Dr <| yh fun S=>
 zB0 c 3 b 1 fun m=>
 LdS S m Sl.val fun o=>
 jB.call a b fun p=>
 Sv S<|
 Ite (decide (p = (o.n:Int)))
  (zD.s6 Q f g i c a j k l)
  (Dr <| yh fun S=>
  zB0 c 3 b 1 fun q=>
  LdS S q Sl.val fun r=>
  jB.call a b fun s=>
  Sv S<|
  Idx r s 12 fun t=>
  LdN t 12 fun u=>
  zU.call a b u fun d=>
  yJ (α:=Int) (fun X x=>zD.b8 Q f g X i c a j k l d (d.n:Int) x) 0)
def zD.b5 (Q:Bool→K) (c d:Int→K) (b:Sl) (f:Addr) (g:Pt) (i:(Option Nat)) (j:Pt) (a:Int): K :=
 Ite (decide (a < 400))
  (Cd ((3:Int) ≠ 0)<|
  Ar (Int.tmod a 3) fun k=>
  Ite (decide (a < (b.n:Int)))
   (Idx b a 1 fun l=>
   Ld l (Value.int .i64) fun m=>
   Ar (bitsOf .and .i64 m 1023) fun o=>
   Cd ((3:Int) ≠ 0)<|
   Ar (Int.tmod o 3) fun p=>
   zD.s7 Q c d b f g i j a p)
   (zD.s7 Q c d b f g i j a k))
  (Q true)
def zD.b3 (Q:Bool→K) (c:Int→K) (d:Sl) (f:Addr) (g:Pt) (i:(Option Nat)) (j:Av) (a:Int): K :=
 Ite (decide (a < 3))
  (Rd Tryz.prog (Instr.index 73 (.agg j) (.int .i64 a)) Sl.val fun b=>
  yJ (α:=Int) (fun X x=>zD.b4 Q c X d f g i j a b (b.n:Int) x) 0)
  (zEz.call 3 fun k=>
  yJ (α:=Int) (fun X x=>zD.b5 Q c X d f g i k x) 0)
def zD.s2 (Q:Bool→K) (d:Sl) (a:Addr) (f:Pt) (g:Bool): K :=
 Ite g
  (Q false)
  (Do Tryz.prog (Instr.makeMap 79 none) Value.map fun b=>
  LdN a 3 fun c=>
  yJ (α:=Int) (fun X x=>zD.b3 Q X d a f b c x) 0)
def zD.s1 (Q:Bool→K) (g c:Sl) (i:Bool): K :=
 Ite i
  (Q true)
  (qM.call 3 g fun d f=>
  New 76 #[Sl.val ⟨none,0,0⟩,Sl.val ⟨none,0,0⟩,Sl.val ⟨none,0,0⟩,Sl.val ⟨none,0,0⟩,.int .i64 0,.int .i64 0,.int .i64 0] fun a=>
  StN a 7 d<|
  uh.call 3 fun b j=>
  Ite (!f)
   (zD.s2 Q c a b true)
   (zD.s2 Q c a b ((b).isNone)))
def zD (a b:Sl) (Q:Bool→K): K :=
 xG.call  fun c=>
 Ite (!c)
  (Q false)
  (uE.call a fun d=>
  Ite d
   (zD.s1 Q a b true)
   (zD.s1 Q a b (decide ((60:Int) < (b.n:Int)))))
theorem zHa (a2 a3 Q w) (h:zD a2 a3 Q w):zD.call a2 a3 Q w:=by
 have:∀ b,XH 11 b→∀ a4 a5 a6 a7 a8 a9 ba bb,LH 14 (fun x:Int=>[(1,Sl.val a4),(5,(.pointer (some a5))),(7,.pointer a6),(9,.map a7),(52,.agg a8),(53,.int .i64 a9),(56,Sl.val ba),(57,.int .i64 bb),(58,.int .i64 x)]) (fun X x=>zD.b4 Q b X a4 a5 a6 a7 a8 a9 ba bb x):=by intros; exact ⟨⟩
 have:∀ b,XH 11 b→∀ c,XH 21 c→JH 22 fun D=>∃ i j k l m n,D [(1,Sl.val i),(5,(.pointer (some j))),(7,.pointer k),(9,.map l),(14,.pointer m),(15,.int .i64 n)] (fun C=>C [(1,Sl.val i),(5,(.pointer (some j))),(7,.pointer k),(9,.map l),(14,.pointer m),(15,.int .i64 n)] (zD.s6 Q b c i j k l m n)):=by intros; exact ⟨fun _ ⟨_,_,_,_,_,_,h⟩=>⟨_,_,h⟩⟩
 have:∀ b,XH 11 b→∀ c,XH 21 c→∀ d,XH 28 d→JH 45 fun D=>∃ o p q r t u v y z,D [(1,Sl.val o),(5,(.pointer (some p))),(7,.pointer q),(9,.map r),(14,.pointer t),(15,.int .i64 u),(107,Sl.val v),(108,.int .i64 y),(109,.int .i64 z)] (fun C=>C [(1,Sl.val o),(5,(.pointer (some p))),(7,.pointer q),(9,.map r),(14,.pointer t),(15,.int .i64 u),(107,Sl.val v),(108,.int .i64 y),(109,.int .i64 z)] (zD.s9 Q b c d o p q r t u v y z)):=by intros; exact ⟨fun _ ⟨_,_,_,_,_,_,_,_,_,h⟩=>⟨_,_,h⟩⟩
 have:∀ b,XH 11 b→∀ c,XH 21 c→∀ d,XH 28 d→∀ bc,XH 33 bc→JH 37 fun D=>∃ aa ab ac ad ae af ag ah aj ak al am an ao,D [(1,Sl.val aa),(5,(.pointer (some ab))),(7,.pointer ac),(9,.map ad),(14,.pointer ae),(15,.int .i64 af),(18,(.pointer (some ag))),(19,(.pointer (some ah))),(107,Sl.val aj),(108,.int .i64 ak),(109,.int .i64 al),(118,Sl.val am),(119,.int .i64 an),(120,.int .i64 ao)] (fun C=>∀ bd,C [(1,Sl.val aa),(5,(.pointer (some ab))),(7,.pointer ac),(9,.map ad),(14,.pointer ae),(15,.int .i64 af),(18,(.pointer (some ag))),(19,(.pointer (some ah))),(20,.bool bd),(107,Sl.val aj),(108,.int .i64 ak),(109,.int .i64 al),(118,Sl.val am),(119,.int .i64 an),(120,.int .i64 ao)] (zD.s11 Q b c d (fun f g=>bc (f,g)) aa ab ac ad ae af ag ah bd aj ak al am an ao)):=by intros; exact ⟨fun _ ⟨_,_,_,_,_,_,_,_,_,_,_,_,_,_,h⟩=>⟨_,_,h⟩⟩
 have:∀ b,XH 11 b→∀ c,XH 21 c→∀ d,XH 28 d→∀ be bf bg bh bj bk bl bm bn bo bp bq br,LH 33 (fun x:Bool×Int=>[(1,Sl.val be),(5,(.pointer (some bf))),(7,.pointer bg),(9,.map bh),(14,.pointer bj),(15,.int .i64 bk),(18,(.pointer (some bl))),(19,(.pointer (some bm))),(20,.bool x.1),(107,Sl.val bn),(108,.int .i64 bo),(109,.int .i64 bp),(118,Sl.val bq),(119,.int .i64 br),(120,.int .i64 x.2)]) (fun X x=>zD.b10 Q b c d (fun f g=>X (f,g)) be bf bg bh bj bk bl bm bn bo bp bq br x.1 x.2):=by intros; exact ⟨⟩
 have:DH 46 2 [6] (.s [0,2,3,4,5] (.a [(1,1,.a [(6,0,.s [7] .e)])])):=⟨⟩
 have:∀ b,XH 11 b→∀ c,XH 21 c→∀ bs bt bu bv bw bx bz b0,LH 28 (fun x:Int=>[(1,Sl.val bs),(5,(.pointer (some bt))),(7,.pointer bu),(9,.map bv),(14,.pointer bw),(15,.int .i64 bx),(107,Sl.val bz),(108,.int .i64 b0),(109,.int .i64 x)]) (fun X x=>zD.b8 Q b c X bs bt bu bv bw bx bz b0 x):=by intros; exact ⟨⟩
 have:DH 27 2 [11] (.s [0,1,2,3,4,6,7,13,5] (.a [(8,1,.s [9] (.a [(10,2,.a [(11,0,.s [12] .e)])]))])):=⟨⟩
 have:DH 26 2 [] (.s [0,1,3,4,5,6,7] (.a [(2,1,.s [8] .e)])):=⟨⟩
 have:∀ b,XH 11 b→∀ c,XH 21 c→JH 26 fun D=>∃ ap aq ar au av aw,D [(1,Sl.val ap),(5,(.pointer (some aq))),(7,.pointer ar),(9,.map au),(14,.pointer av),(15,.int .i64 aw)] (fun C=>∀ b1,C [(1,Sl.val ap),(5,(.pointer (some aq))),(7,.pointer ar),(9,.map au),(14,.pointer av),(15,.int .i64 aw),(16,.int .i64 b1)] (zD.s7 Q b c ap aq ar au av aw b1)):=by intros; exact ⟨fun _ ⟨_,_,_,_,_,_,h⟩=>⟨_,_,h⟩⟩
 have:∀ b,XH 11 b→∀ b2 b6 b7 b9 ca,LH 21 (fun x:Int=>[(1,Sl.val b2),(5,(.pointer (some b6))),(7,.pointer b7),(9,.map b9),(14,.pointer ca),(15,.int .i64 x)]) (fun X x=>zD.b5 Q b X b2 b6 b7 b9 ca x):=by intros; exact ⟨⟩
 have:∀ cb cc cd ce cf,LH 11 (fun x:Int=>[(1,Sl.val cb),(5,(.pointer (some cc))),(7,.pointer cd),(9,.map ce),(52,.agg cf),(53,.int .i64 x)]) (fun X x=>zD.b3 Q X cb cc cd ce cf x):=fun _ _ _ _ _=>⟨⟩
 have:JH 8 fun D=>∃ ax ay az,D [(1,Sl.val ax),(5,(.pointer (some ay))),(7,.pointer az)] (fun C=>∀ cg,C [(1,Sl.val ax),(5,(.pointer (some ay))),(7,.pointer az),(49,.bool cg)] (zD.s2 Q ax ay az cg)):=⟨fun _ ⟨_,_,_,h⟩=>⟨_,_,h⟩⟩
 have:JH 4 fun D=>∃ a0 a1,D [(0,Sl.val a0),(1,Sl.val a1)] (fun C=>∀ ch,C [(0,Sl.val a0),(1,Sl.val a1),(34,.bool ch)] (zD.s1 Q a0 a1 ch)):=⟨fun _ ⟨_,_,h⟩=>⟨_,_,h⟩⟩
 exact zUH 176 h Tryz.func5
end
section
open Go Go.Sep Go.Sep.Bt
def zQf (w:World) (x:zLB):Prop:=zCX w x.t∧∀ y ∈ x.t.ops,-9223372036854775808 ≤ y.1.n∧y.1.n ≤ 9223372036854775807
theorem zYX {w:World} {cs:List Value} (hc:cs.length = 7) (y:Rdy w (.fld 0 1 (.int .i64) (.fld 1 1 (.int .i64) (.fld 2 5 zIc .nil))) cs):∃ x:zLB,cs = zEm x∧zQf w x:=by
 match cs,hc with
 | [a,b,c,d,e,f,g],_=>
  obtain ⟨⟨x0,e0,_⟩,⟨x1,e1,_⟩,y2,_⟩:=y
  cases e0; cases e1
  obtain ⟨t,e,h3,h4⟩:=zZc (cs:=#[c,d,e,f,g]) rfl y2
  cases e
  exact ⟨⟨x0,x1,t⟩,rfl,h3,h4⟩
theorem zV6 {W:World} {s:Sl} (y0:Rdy W zBO (Sl.val s).cells.toList):∃ L:List zLB,RdC W s 7 (L.flatMap zEm)∧∀ x ∈ L,zQf W x:=by
 obtain ⟨h1,h2⟩:=zWo y0
 obtain ⟨L,_,hL,hm⟩:=zJS zEm (fun o=>zQf W o) zF8 h1 h2 fun cs hc hr=>zYX hc hr
 exact ⟨L,hL,hm⟩
section
variable {B:World} {Γ Δ:List zC} {k:Sep.K} {q:Bool→Sep.K}
theorem zN0 {L:List zLB} {ss:Sl} (hL:∀ w,Holds B Γ w→RdC w ss 7 (L.flatMap zEm)) (hLr:∀ x ∈ L,∀ w,Holds B Γ w→zCX w x.t) (h1:HG B Γ (q true)) (h2:L.length ≤ 50→(∀ x ∈ L,¬ zGG x.t)→HG B Γ (q false)):HG B Γ (uE.call ss q):=fun w hw=>by
 refine zIT _ _ _ ?_
 have hsn:ss.n = L.length:=zA3 zF8 (by omega) (hL w hw)
 refine hg hw ?_
 clear hw w
 unfold uE
 refine zF (fun hb=>h1) fun hb=>?_
 have hl:L.length ≤ 50:=by simp only [decide_eq_false_iff_not] at hb; omega
 refine zAP (α:=Int) (fun y=>∃ i:Nat,y = (i:Int)∧i ≤ L.length∧∀ x ∈ L.take i,¬ zGG x.t) (fun y=>L.length - y.toNat) ⟨0,rfl,Nat.zero_le _,by simp⟩ fun k' y hy hk'=>?_
 obtain ⟨i,rfl,hi,hno⟩:=hy
 unfold uE.b1
 refine zF (fun hc=>?_) fun hc=>?_
 ·have hil:i < L.length:=by simp only [decide_eq_true_eq] at hc; omega
  have hge:L[i]? = some L[i]:=List.getElem?_eq_getElem hil
  have hmem:L[i] ∈ L:=List.getElem_mem hil
  have htk:L.take (i + 1) = L.take i++[L[i]]:=List.take_succ_eq_append_getElem hil
  generalize L[i] = st at hge hmem htk
  refine zAc zEm zF8 hL hge ?_
  refine zH fun x4=>?_
  refine qA (b:=x4) (l':=zEm st) ?_
  refine qI (b:=x4) (off:=2) (l:=zEm st) (l':=txL st.t) ?_
  refine zSx (t:=st.t) (fun w hw=>hLr st hmem w (hw.drops (Δ:=Γ))) ?_
  refine zF (fun hg=>zB h1) fun hg=>?_
  refine qB ?_
  refine zB (hk' _ ⟨i + 1,by simp,hil,fun x hx=>?_⟩ (by omega))
  rw [htk] at hx
  rcases List.mem_append.1 hx with hx | hx
  ·exact hno x hx
  ·rw [List.mem_singleton.1 hx]; simpa using hg
 ·have hil:i = L.length:=by simp only [decide_eq_false_iff_not] at hc; omega
  rw [hil,List.take_length] at hno
  exact h2 hl hno
theorem zbf {sd n T:Nat} {S:zBS} (h:S.fils.length = n→S.M.length ≤ 40 * T→S.jobs.length ≤ T→(∀ x ∈ S.fed,0 ≤ x)→(∀ j ∈ S.jobs,xR (n:Int) j.tx = true)→HG B (zA2 sd n T S::Γ) k):HG B (zA2 sd n T S::Γ) k:=zJ0 fun st l a b c F J ho=>zDE ho (h (by
  have h1:=congrArg List.length ho.fils
  have h2:=congrArg List.length ho.rgs
  simp only [List.length_map,List.length_range] at h1 h2
  omega) (by have:=ho.ml; omega) (by rw [← ho.jobs,List.length_map]; exact ho.jl) (fun x hx=>(ho.fedr x hx).1) (fun j hj=>by
  rw [← ho.jobs] at hj
  obtain ⟨y,hy,rfl⟩:=List.mem_map.1 hj
  show xR (n:Int) (zEi y.t) = true
  rw [zFH (zH4 y.t)]
  exact (ho.ok y hy).ord.1))
end
end
end Go.Proofs.YtdemfamgieonbaaGreat
