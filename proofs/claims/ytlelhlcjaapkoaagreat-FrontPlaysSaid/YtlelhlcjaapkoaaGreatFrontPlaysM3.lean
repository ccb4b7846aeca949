/- Texts of the claim FrontPlays, one behind the other. -/
import Derived.Test.YtlelhlcjaapkoaaGreatFrontPlaysM2
import Derived.Deep.OwnRows
set_option linter.all false
set_option maxRecDepth 100000
namespace Go.Proofs.YtlelhlcjaapkoaaGreat
section
open Go Go.Sep
set_option maxHeartbeats 4000000
attribute [local irreducible] G Gp Cx Tx Ex Sx Dx Ox Ax Lx Rx Fx Bx Bj Al Do Ld LdN St StN New zI Ar DoU Rd Rd2 Pu Cd Ite Fv vZ zAe uZ yH jm zCj zCt zCx Ext Dead Dr yV Sv LdS xJ RdS zDD Nn Idx zBW zCs Fld Bld Slc zDE Cat All zq jE jY zAp
instance:CB Tryz.prog 115:=⟨by kernel_rfl⟩
instance:CB Tryz.prog 116:=⟨by kernel_rfl⟩
instance:CB Tryz.prog 207:=⟨by kernel_rfl⟩
instance:CB Tryz.prog 208:=⟨by kernel_rfl⟩
instance:CB Tryz.prog 209:=⟨by kernel_rfl⟩
instance:CB Tryz.prog 210:=⟨by kernel_rfl⟩
instance:CB Tryz.prog 257:=⟨by kernel_rfl⟩
instance:CB Tryz.prog 258:=⟨by kernel_rfl⟩
instance:CB Tryz.prog 259:=⟨by kernel_rfl⟩
instance:CB Tryz.prog 260:=⟨by kernel_rfl⟩
instance:CB Tryz.prog 261:=⟨by kernel_rfl⟩
instance:CT Tryz.prog 33:=⟨by kernel_rfl⟩
instance:FT Tryz.prog 118 0 0 1:=⟨by kernel_rfl⟩
instance:FT Tryz.prog 118 1 1 1:=⟨by kernel_rfl⟩
instance:FT Tryz.prog 49 0 0 1:=⟨by kernel_rfl⟩
instance:FT Tryz.prog 49 1 1 1:=⟨by kernel_rfl⟩
instance:PLT Tryz.prog 42 [(0,1),(1,1),(2,1),(3,1),(4,1)]:=⟨_,Tryz.underlying42,by kernel_rfl⟩
instance:UN Tryz.prog 4 .bool:=⟨Tryz.underlying4⟩
instance:ZT Tryz.prog 42 (.agg #[(.int .i64 0),(Sl.val ⟨none,0,0⟩),(Sl.val ⟨none,0,0⟩),(Sl.val ⟨none,0,0⟩),(.int .i64 0)]):=⟨Tryz.t42,by kernel_rfl,by kernel_rfl⟩
def vo.s3(Q:Bool→K)(b:Int→K)(f g:Addr)(c:Int)(d:Bool): K :=
 Ite d
  (Q false)
  (Ar (IntKind.wrap .i64 (c+1)) fun a=>
  b a)
def vo.b2(Q:Bool→K)(d:Int→K)(b c:Addr)(a:Int): K :=
 Ld (b.add 1) Sl.val fun f=>
 Ite (decide (a<(f.n:Int)))
  (Dr<|
  Ld (b.add 1) Sl.val fun g=>
  Idx g a 2 fun i=>
  Ld i Value.bool fun j=>
  Ld (c.add 1) Sl.val fun k=>
  Idx k a 2 fun l=>
  Ld l Value.bool fun m=>
  Ite (!(j==m))
   (vo.s3 Q d b c a true)
   (Ld (b.add 1) Sl.val fun o=>
   Idx o a 2 fun p=>
   Ld (p.add 1) Sl.val fun q=>
   Rd Tryz.prog (convert 88 9 (Sl.val q)) Value.string fun r=>
   Ld (c.add 1) Sl.val fun s=>
   Idx s a 2 fun t=>
   Ld (t.add 1) Sl.val fun u=>
   Rd Tryz.prog (convert 88 9 (Sl.val u)) Value.string fun v=>
   vo.s3 Q d b c a (!(r.toList==v.toList))))
  (Q true)
def vo.s1(Q:Bool→K)(a b:Addr)(c:Bool): K :=
 Ite c
  (Q false)
  (zq (α:=Int) (fun X x=>vo.b2 Q X a b x) 0)
def vo(i j:Av)(Q:Bool→K): K :=
 New 49 i fun a=>
 New 49 j fun b=>
 Ld a (Value.int .i64) fun c=>
 Ld b (Value.int .i64) fun d=>
 Ite (decide (c≠d))
  (vo.s1 Q a b true)
  (Ld (a.add 1) Sl.val fun f=>
  Ld (b.add 1) Sl.val fun g=>
  vo.s1 Q a b (decide ((f.n:Int)≠(g.n:Int))))
theorem zNp(g i Q w)(h:vo g i Q w):vo.call g i Q w:=by
 have:∀j,XH 4 j→JH 7 fun D=>∃a b c,D [(2,(.pointer (some a))),(3,(.pointer (some b))),(5,.int .i64 c)] (fun C=>∀k,C [(2,(.pointer (some a))),(3,(.pointer (some b))),(5,.int .i64 c),(56,.bool k)] (vo.s3 Q j a b c k)):=by intros;exact⟨fun _ ⟨_,_,_,h⟩=>⟨_,_,h⟩⟩
 have:∀l m,LH 4 (fun x:Int=>[(2,(.pointer (some l))),(3,(.pointer (some m))),(5,.int .i64 x)]) (fun X x=>vo.b2 Q X l m x):=fun _ _=>⟨⟩
 have:JH 2 fun D=>∃d f,D [(2,(.pointer (some d))),(3,(.pointer (some f)))] (fun C=>∀n,C [(2,(.pointer (some d))),(3,(.pointer (some f))),(19,.bool n)] (vo.s1 Q d f n)):=⟨fun _ ⟨_,_,h⟩=>⟨_,_,h⟩⟩
 exact zJ 57 h Tryz.func65
def xO.s1(Q:Av→Sl→K)(b:Addr)(c:Sl): K :=
 LdN b 2 fun a=>
 Q a c
def xO.s3(Q:Av→Sl→K)(b:Sl→Sl→Int→K)(g i:Addr)(j:Pt)(c d:Sl)(f:Int): K :=
 Ar (IntKind.wrap .i64 (f+1)) fun a=>
 b c d a
def xO.s4(Q:Av→Sl→K)(a:Sl→Sl→Int→K)(b c:Addr)(d:Pt)(f g:Sl)(i:Int)(m:Addr)(n:Bool): K :=
 Ite n
  (Ld (m.add 1) Value.string fun j=>
  New 9 #[.string j] fun k=>
  Do Tryz.prog (Builtin.append_ #[39,39] 39 #[Sl.val g,(Sl.val (Sl.mk (some k) 1 1))]) Sl.val fun l=>
  xO.s3 Q a b c d f l i)
  (xO.s3 Q a b c d f g i)
def xO.b5(Q:Av→Sl→K)(x:Sl→Sl→Int→K)(t:Sl→Int→K)(c:Addr)(u:Pt)(v b d:Sl)(a:Int): K :=
 Ite (decide (a<(b.n:Int)))
  (Dr<|yV fun S=>
  Idx b a 1 fun f=>
  Idx b a 1 fun g=>
  LdS S f Value.string fun j=>
  LdS S g Value.string fun k=>
  qo.call u k fun l=>
  Sv S<|
  Bld #[(.string ⟨#[]⟩),.bool false,Sl.val ⟨none,0,0⟩,.int .i64 0,.int .u64 0] ([(0,1),(1,4)][·]?) [(0,.string j),(1,.agg l)] fun m=>
  Bld #[(.string ⟨#[]⟩),.bool false,Sl.val ⟨none,0,0⟩,.int .i64 0,.int .u64 0] (fun i=>some (i*5,5)) [(0,.agg m)] fun o=>
  New 210 o fun p=>
  Do Tryz.prog (Builtin.append_ #[105,105] 105 #[Sl.val d,(Sl.val (Sl.mk (some p) 1 1))]) Sl.val fun q=>
  Ar (IntKind.wrap .i64 (a+1)) fun r=>
  t q r)
  (StN c 2 #[.int .i64 0,Sl.val v]<|
  LdN c 2 fun s=>
  Q s d)
def xO.b2(Q:Av→Sl→K)(g:Sl→Sl→Int→K)(c b:Addr)(d:Pt)(l i:Sl)(f:Int): K :=
 Ld (c.add 3) Sl.val fun m=>
 Ite (decide (f<(m.n:Int)))
  (Ld (c.add 3) Sl.val fun o=>
  Idx o f 4 fun p=>
  LdN p 4 fun q=>
  New 217 #[.int .i64 0,(.string ⟨#[]⟩),Sl.val ⟨none,0,0⟩,.int .i64 0] fun a=>
  StN a 4 q<|
  LdN a 4 fun r=>
  zAF.call d r fun s k=>
  Ite (decide (k≠0))
   (New 210 #[] fun t=>
   StN b 2 #[.int .i64 k,Sl.val ⟨none,0,0⟩]<|
   LdN b 2 fun u=>
   Q u (Sl.mk (some t) 0 0))
   (Do Tryz.prog (Builtin.append_ #[47,47] 47 #[Sl.val l,Sl.val s]) Sl.val fun j=>
   Ld a (Value.int .i64) fun v=>
   Ite (decide (v=2))
    (xO.s4 Q g c b d j i f a true)
    (Ld a (Value.int .i64) fun y=>
    Ite (decide (y=3))
     (xO.s4 Q g c b d j i f a true)
     (Ld a (Value.int .i64) fun z=>
     xO.s4 Q g c b d j i f a (decide (z=6))))))
  (New 210 #[] fun aa=>
  qU.call #[.int .i64 0,Sl.val ⟨none,0,0⟩,Sl.val i,Sl.val ⟨none,0,0⟩,.int .i64 0] fun ab=>
  zq (α:=Sl×Int) (fun X x=>xO.b5 Q g (fun ac ad=>X (ac,ad)) b d l ab x.1 x.2) ((Sl.mk (some aa) 0 0),0))
def xO(af:Pt)(ag:Av)(Q:Av→Sl→K): K :=
 New 42 ag fun b=>
 New 49 #[.int .i64 0,Sl.val ⟨none,0,0⟩] fun a=>
 zBF.call af fun c=>
 New 118 #[] fun j=>
 New 9 #[] fun k=>
 Ld b (Value.int .i64) fun l=>
 Ite (decide (l=2))
  (Dr<|
  Ld (b.add 2) Sl.val fun m=>
  Idx m 0 1 fun n=>
  Ld n Value.string fun o=>
  Ld (b.add 4) (Value.int .i64) fun p=>
  vD.call c o p fun q=>
  Ite (decide (q≠0))
   (New 210 #[] fun r=>
   StN a 2 #[.int .i64 111,Sl.val ⟨none,0,0⟩]<|
   LdN a 2 fun s=>
   Q s (Sl.mk (some r) 0 0))
   (Dr<|yV fun S=>
   LdS S (b.add 2) Sl.val fun t=>
   Idx t 0 1 fun u=>
   LdS S u Value.string fun v=>
   LdS S (b.add 2) Sl.val fun y=>
   Idx y 0 1 fun z=>
   LdS S z Value.string fun aa=>
   qo.call c aa fun ab=>
   Sv S<|
   Bld #[(.string ⟨#[]⟩),.bool false,Sl.val ⟨none,0,0⟩,.int .i64 0,.int .u64 0] ([(0,1),(1,4)][·]?) [(0,.string v),(1,.agg ab)] fun g=>
   All [
    (Bld #[(.string ⟨#[]⟩),.bool false,Sl.val ⟨none,0,0⟩,.int .i64 0,.int .u64 0] (fun i=>some (i*5,5)) [(0,.agg g)] fun d=>
    New 210 d fun f=>
    StN a 2 #[.int .i64 0,Sl.val ⟨none,0,0⟩]<|
    xO.s1 Q a (Sl.mk (some f) 1 1)),
    (StN a 2 #[.int .i64 0,Sl.val ⟨none,0,0⟩]<|
    Sv S<|
    Bld #[(.string ⟨#[]⟩),.bool false,Sl.val ⟨none,0,0⟩,.int .i64 0,.int .u64 0] (fun i=>some (i*5,5)) [(0,.agg g)] fun d=>
    New 210 d fun f=>
    xO.s1 Q a (Sl.mk (some f) 1 1))
    ]))
  (zq (α:=Sl×Sl×Int) (fun X x=>xO.b2 Q (fun ac ad ae=>X (ac,ad,ae)) b a c x.1 x.2.1 x.2.2) ((Sl.mk (some j) 0 0),(Sl.mk (some k) 0 0),0))
theorem zPq(u v Q w)(h:xO u v Q w):xO.call u v Q w:=by
 have:JH 1000005 fun D=>∃g,D [(4,(.pointer (some g)))] (fun C=>∀y,C [(4,(.pointer (some g))),(5,Sl.val y)] (xO.s1 Q g y)):=⟨fun _ ⟨_,h⟩=>⟨_,_,h⟩⟩
 have:DH 5 2 [12] (.s [0,1,5,6,2,3,4,7,8,9] (.a [(10,1,.s [11] (.a [(12,0,.a [(13,0,.s [14] .e)]),(13,1,.a [(12,0,.s [14] .e)])]))])):=⟨⟩
 have:DH 3 1 [7] (.s [0,1,5,2,3,4,6] (.a [(7,0,.s [8] .e)])):=⟨⟩
 have:∀b,XH 7 b→JH 8 fun D=>∃i j k l,D [(3,(.pointer (some i))),(4,(.pointer (some j))),(6,.pointer k),(9,.int .i64 l)] (fun C=>∀z aa,C [(3,(.pointer (some i))),(4,(.pointer (some j))),(6,.pointer k),(7,Sl.val z),(8,Sl.val aa),(9,.int .i64 l)] (xO.s3 Q (fun c d f=>b (c,d,f)) i j k z aa l)):=by intros;exact⟨fun _ ⟨_,_,_,_,h⟩=>⟨_,_,h⟩⟩
 have:∀b,XH 7 b→JH 15 fun D=>∃m n o p q r t,D [(3,(.pointer (some m))),(4,(.pointer (some n))),(6,.pointer o),(7,Sl.val p),(8,Sl.val q),(9,.int .i64 r),(10,(.pointer (some t)))] (fun C=>∀ab,C [(3,(.pointer (some m))),(4,(.pointer (some n))),(6,.pointer o),(7,Sl.val p),(8,Sl.val q),(9,.int .i64 r),(10,(.pointer (some t))),(85,.bool ab)] (xO.s4 Q (fun c d f=>b (c,d,f)) m n o p q r t ab)):=by intros;exact⟨fun _ ⟨_,_,_,_,_,_,_,h⟩=>⟨_,_,h⟩⟩
 have:DH 21 2 [12,13] (.s [0,1,2,3,5,6,7,8,4,9] (.a [(10,1,.s [11] (.a [(12,0,.a [(13,0,.s [14] .e)])]))])):=⟨⟩
 have:∀b,XH 7 b→∀ac ad ae af,LH 19 (fun x:Sl×Int=>[(4,(.pointer (some ac))),(6,.pointer ad),(7,Sl.val ae),(13,Sl.val x.1),(14,Sl.val af),(15,.int .i64 x.2)]) (fun X x=>xO.b5 Q (fun c d f=>b (c,d,f)) (fun ak al=>X (ak,al)) ac ad ae af x.1 x.2):=by intros;exact⟨⟩
 have:∀ag ah aj,LH 7 (fun x:Sl×Sl×Int=>[(3,(.pointer (some ag))),(4,(.pointer (some ah))),(6,.pointer aj),(7,Sl.val x.1),(8,Sl.val x.2.1),(9,.int .i64 x.2.2)]) (fun X x=>xO.b2 Q (fun c d f=>X (c,d,f)) ag ah aj x.1 x.2.1 x.2.2):=fun _ _ _=>⟨⟩
 exact zJ 118 h Tryz.func144
def zAj.b1(Q:K)(j:Int→K)(k:Pt)(b:Sl)(a:Int): K :=
 Ite (decide (a<(b.n:Int)))
  (Dr<|
  Idx b a 5 fun c=>
  Idx b a 5 fun d=>
  Ld c Value.string fun f=>
  LdN (d.add 1) 4 fun g=>
  zR.call k f g<|
  Ar (IntKind.wrap .i64 (a+1)) fun i=>
  j i)
  (Q)
def zAj(a:Pt)(b:Sl)(Q:K): K :=
 zq (α:=Int) (fun X x=>zAj.b1 Q X a b x) 0
theorem zMi(b c Q w)(h:zAj b c Q w):zAj.call b c Q w:=by
 have:DH 3 1 [11] (.s [0,1,2,3,4,6,7,8,9,5,10] (.a [(11,0,.e)])):=⟨⟩
 have:∀d f,LH 1 (fun x:Int=>[(0,.pointer d),(1,Sl.val f),(4,.int .i64 x)]) (fun X x=>zAj.b1 Q X d f x):=fun _ _=>⟨⟩
 exact zJ 23 h Tryz.func145
def zAF.s1(Q:Sl→Int→K): K :=
 New 118 #[] fun a=>
 Q (Sl.mk (some a) 0 0) 0
def zAF.s2(Q:Sl→Int→K)(b:Bool): K :=
 Ite b
  (New 118 #[] fun a=>
  Q (Sl.mk (some a) 0 0) 110)
  (zAF.s1 Q)
def zAF.s3(Q:Sl→Int→K)(k:Pt)(a:Addr)(l:Int)(m:Bool): K :=
 Ite m
  (New 118 #[] fun b=>
  Q (Sl.mk (some b) 0 0) 110)
  (Ld (a.add 3) (Value.int .i64) fun c=>
  zBG.call l c fun d f=>
  Ite (!f)
   (New 118 #[] fun g=>
   Q (Sl.mk (some g) 0 0) 111)
   (Dr<|yV fun S=>
   LdS S (a.add 1) Value.string fun i=>
   zFS.call d fun j=>
   Sv S<|
   zEg.call k i j<|
   zAF.s1 Q))
def zAF(d:Pt)(af:Av)(Q:Sl→Int→K): K :=
 New 217 af fun a=>
 Ld (a.add 1) Value.string fun g=>
 qo.call d g fun j=>
 New 208 #[.bool false,Sl.val ⟨none,0,0⟩,.int .i64 0,.int .u64 0] fun b=>
 StN b 4 j<|
 Ld a (Value.int .i64) fun c=>
 Ite (decide (c=1))
  (Ld b Value.bool fun k=>
  Ld (b.add 1) Sl.val fun l=>
  Bld #[.bool false,Sl.val ⟨none,0,0⟩] (fun i=>some (i*2,2)) [(0,(.agg #[.bool k,Sl.val l]))] fun m=>
  New 118 m fun n=>
  Q (Sl.mk (some n) 1 1) 0)
  (Ite (decide (c=7))
   (Ld (a.add 2) Sl.val fun o=>
   Bld #[.bool false,Sl.val ⟨none,0,0⟩] (fun i=>some (i*2,2)) [(0,(.agg #[.bool true,Sl.val o]))] fun p=>
   New 118 p fun q=>
   Q (Sl.mk (some q) 1 1) 0)
   (Ite (decide (c=2))
    (Ld (a.add 1) Value.string fun r=>
    Ld (a.add 2) Sl.val fun s=>
    zEg.call d r s<|
    zAF.s1 Q)
    (Ite (decide (c=3))
     (Ld (a.add 1) Value.string fun t=>
     zFA.call d t<|
     zAF.s1 Q)
     (Ite (decide (c=4))
      (Ld b Value.bool fun u=>
      Ite (!u)
       (zAF.s2 Q true)
       (Ld (b.add 1) Sl.val fun v=>
       Rd Tryz.prog (convert 88 9 (Sl.val v)) Value.string fun x=>
       Ld (a.add 2) Sl.val fun y=>
       Rd Tryz.prog (convert 88 9 (Sl.val y)) Value.string fun z=>
       zAF.s2 Q (!(x.toList==z.toList))))
      (Ite (decide (c=5))
       (Ld b Value.bool fun aa=>
       Ite aa
        (New 118 #[] fun ab=>
        Q (Sl.mk (some ab) 0 0) 110)
        (zAF.s1 Q))
       (Ld (b.add 1) Sl.val fun ac=>
       zEt.call ac fun f ad=>
       Ld b Value.bool fun ae=>
       Ite ae
        (zAF.s3 Q d a f (!ad))
        (zAF.s3 Q d a f false)))))))
def zEt.b1(Q:Int→Bool→K)(l:Int→Int→K)(m:Sl)(b a:Int): K :=
 Ite (decide (a<8))
  (Ar (IntKind.wrap .u64 (b*256)) fun c=>
  Idx m a 1 fun d=>
  Ld d (Value.int .u8) fun f=>
  Ar (IntKind.wrap .u64 f) fun g=>
  Ar (IntKind.wrap .u64 (c+g)) fun i=>
  Ar (IntKind.wrap .i64 (a+1)) fun j=>
  l i j)
  (Ar (IntKind.wrap .i64 b) fun k=>
  Q k true)
def zEt(a:Sl)(Q:Int→Bool→K): K :=
 Ite (decide ((a.n:Int)≠8))
  (Q 0 false)
  (zq (α:=Int×Int) (fun X x=>zEt.b1 Q (fun b c=>X (b,c)) a x.1 x.2) (0,0))
def zBG.s1(Q:Int→Bool→K)(a:Int)(b:Bool): K :=
 Ite b
  (Q 0 false)
  (Q a true)
def zBG(b c:Int)(Q:Int→Bool→K): K :=
 Ar (IntKind.wrap .u64 b) fun d=>
 Ar (IntKind.wrap .u64 c) fun f=>
 Ar (IntKind.wrap .u64 (d+f)) fun g=>
 Ar (IntKind.wrap .i64 g) fun a=>
 Ite (decide ((0:Int)≤b))
  (Ite (decide ((0:Int)≤c))
   (Ite (decide (a<0))
    (zBG.s1 Q a true)
    (Ite (decide (b<0))
     (Ite (decide (c<0))
      (zBG.s1 Q a (decide ((0:Int)≤a)))
      (zBG.s1 Q a false))
     (zBG.s1 Q a false)))
   (Ite (decide (b<0))
    (Ite (decide (c<0))
     (zBG.s1 Q a (decide ((0:Int)≤a)))
     (zBG.s1 Q a false))
    (zBG.s1 Q a false)))
  (Ite (decide (b<0))
   (Ite (decide (c<0))
    (zBG.s1 Q a (decide ((0:Int)≤a)))
    (zBG.s1 Q a false))
   (zBG.s1 Q a false))
def zFS.b1(Q:Sl→K)(k:Int→Int→K)(b:Sl)(c a:Int): K :=
 Ite (decide ((0:Int)≤a))
  (Cd ((256:Int)≠0)<|
  Ar (Int.tmod c 256) fun d=>
  Ar (IntKind.wrap .u8 d) fun f=>
  Idx b a 1 fun g=>
  St g (.int .u8 f)<|
  Cd ((256:Int)≠0)<|
  Ar (IntKind.wrap .u64 (Int.tdiv c 256)) fun i=>
  Ar (IntKind.wrap .i64 (a-1)) fun j=>
  k i j)
  (Q b)
def zFS(f:Int)(Q:Sl→K): K :=
 Do Tryz.prog (Instr.makeSlice 88 (.int .i64 8) (.int .i64 8)) Sl.val fun a=>
 Ar (IntKind.wrap .u64 f) fun b=>
 zq (α:=Int×Int) (fun X x=>zFS.b1 Q (fun c d=>X (c,d)) a x.1 x.2) (b,7)
instance:CB Tryz.prog 167:=⟨by kernel_rfl⟩
instance:CB Tryz.prog 168:=⟨by kernel_rfl⟩
instance:CB Tryz.prog 169:=⟨by kernel_rfl⟩
instance:CB Tryz.prog 187:=⟨by kernel_rfl⟩
instance:FT Tryz.prog 42 1 1 1:=⟨by kernel_rfl⟩
instance:SZ Tryz.prog 40 1:=⟨by kernel_rfl⟩
instance:SZ Tryz.prog 42 5:=⟨by kernel_rfl⟩
def qB.s5(Q:Bool→K)(f g b:Int→K)(i:Addr)(c:Int)(d:Bool): K :=
 Ite d
  (Q true)
  (Ar (IntKind.wrap .i64 (c+1)) fun a=>
  b a)
def qB.b4(Q:Bool→K)(c d f:Int→K)(a:Addr)(b:Int): K :=
 Ld (a.add 3) Sl.val fun g=>
 Ite (decide (b<(g.n:Int)))
  (Ld (a.add 3) Sl.val fun i=>
  Idx i b 4 fun j=>
  Ld (j.add 1) Value.string fun k=>
  Ite (decide ((200:Int)<(k.size:Int)))
   (qB.s5 Q c d f a b true)
   (Ld (a.add 3) Sl.val fun l=>
   Idx l b 4 fun m=>
   Ld (m.add 2) Sl.val fun o=>
   qB.s5 Q c d f a b (decide ((200:Int)<(o.n:Int)))))
  (Q false)
def qB.b3(Q:Bool→K)(k c:Int→K)(a:Addr)(b:Int): K :=
 Ld (a.add 2) Sl.val fun d=>
 Ite (decide (b<(d.n:Int)))
  (Ld (a.add 2) Sl.val fun f=>
  Idx f b 1 fun g=>
  Ld g Value.string fun i=>
  Ite (decide ((200:Int)<(i.size:Int)))
   (Q true)
   (Ar (IntKind.wrap .i64 (b+1)) fun j=>
   c j))
  (zq (α:=Int) (fun X x=>qB.b4 Q k c X a x) 0)
def qB.b2(Q:Bool→K)(c:Int→K)(a:Addr)(b:Int): K :=
 Ld (a.add 1) Sl.val fun d=>
 Ite (decide (b<(d.n:Int)))
  (Ld (a.add 1) Sl.val fun f=>
  Idx f b 1 fun g=>
  Ld g Value.string fun i=>
  Ite (decide ((200:Int)<(i.size:Int)))
   (Q true)
   (Ar (IntKind.wrap .i64 (b+1)) fun j=>
   c j))
  (zq (α:=Int) (fun X x=>qB.b3 Q c X a x) 0)
def qB.s1(Q:Bool→K)(a:Addr)(b:Bool): K :=
 Ite b
  (Q true)
  (zq (α:=Int) (fun X x=>qB.b2 Q X a x) 0)
def qB(f:Av)(Q:Bool→K): K :=
 New 42 f fun a=>
 Ld (a.add 1) Sl.val fun b=>
 Ite (decide ((40:Int)<(b.n:Int)))
  (qB.s1 Q a true)
  (Ld (a.add 2) Sl.val fun c=>
  Ite (decide ((40:Int)<(c.n:Int)))
   (qB.s1 Q a true)
   (Ld (a.add 3) Sl.val fun d=>
   qB.s1 Q a (decide ((60:Int)<(d.n:Int)))))
theorem zMj(g Q w)(h:qB g Q w):qB.call g Q w:=by
 have:∀a,XH 4 a→∀b,XH 9 b→∀i,XH 14 i→JH 17 fun D=>∃c d,D [(1,(.pointer (some c))),(5,.int .i64 d)] (fun C=>∀j,C [(1,(.pointer (some c))),(5,.int .i64 d),(74,.bool j)] (qB.s5 Q a b i c d j)):=by intros;exact⟨fun _ ⟨_,_,h⟩=>⟨_,_,h⟩⟩
 have:∀a,XH 4 a→∀b,XH 9 b→∀k,LH 14 (fun x:Int=>[(1,(.pointer (some k))),(5,.int .i64 x)]) (fun X x=>qB.b4 Q a b X k x):=by intros;exact⟨⟩
 have:∀a,XH 4 a→∀l,LH 9 (fun x:Int=>[(1,(.pointer (some l))),(4,.int .i64 x)]) (fun X x=>qB.b3 Q a X l x):=by intros;exact⟨⟩
 have:∀m,LH 4 (fun x:Int=>[(1,(.pointer (some m))),(3,.int .i64 x)]) (fun X x=>qB.b2 Q X m x):=fun _=>⟨⟩
 have:JH 2 fun D=>∃f,D [(1,(.pointer (some f)))] (fun C=>∀n,C [(1,(.pointer (some f))),(21,.bool n)] (qB.s1 Q f n)):=⟨fun _ ⟨_,h⟩=>⟨_,_,h⟩⟩
 exact zJ 75 h Tryz.func38
def qx.b2(Q:Av→K)(ab:Int→K)(c f d:Addr)(a:Int): K :=
 Ld (c.add 3) Sl.val fun g=>
 Ite (decide (a<(g.n:Int)))
  (Ld (c.add 3) Sl.val fun j=>
  Idx j a 4 fun k=>
  LdN k 4 fun l=>
  New 217 #[.int .i64 0,(.string ⟨#[]⟩),Sl.val ⟨none,0,0⟩,.int .i64 0] fun b=>
  StN b 4 l<|
  New 5 #[] fun m=>
  Ld (c.add 3) Sl.val fun o=>
  Idx o a 4 fun p=>
  Ld (p.add 2) Sl.val fun q=>
  Do Tryz.prog (Builtin.append_ #[88,88] 88 #[(Sl.val (Sl.mk (some m) 0 0)),Sl.val q]) Sl.val fun r=>
  St (b.add 2) (Sl.val r)<|
  Ld (d.add 3) Sl.val fun s=>
  LdN b 4 fun t=>
  Bld #[.int .i64 0,(.string ⟨#[]⟩),Sl.val ⟨none,0,0⟩,.int .i64 0] (fun i=>some (i*4,4)) [(0,.agg t)] fun u=>
  New 217 u fun v=>
  Do Tryz.prog (Builtin.append_ #[40,40] 40 #[Sl.val s,(Sl.val (Sl.mk (some v) 1 1))]) Sl.val fun x=>
  St (d.add 3) (Sl.val x)<|
  Ar (IntKind.wrap .i64 (a+1)) fun y=>
  ab y)
  (LdN d 5 fun z=>
  StN f 5 z<|
  LdN f 5 fun aa=>
  Q aa)
def qx.s1(Q:Av→K)(a b c:Addr): K :=
 zq (α:=Int) (fun X x=>qx.b2 Q X a b c x) 0
def qx(n:Av)(Q:Av→K): K :=
 New 42 n fun f=>
 New 42 #[.int .i64 0,Sl.val ⟨none,0,0⟩,Sl.val ⟨none,0,0⟩,Sl.val ⟨none,0,0⟩,.int .i64 0] fun g=>
 Dr<|yV fun S=>
 LdS S f (Value.int .i64) fun i=>
 LdS S (f.add 4) (Value.int .i64) fun j=>
 LdS S (f.add 1) Sl.val fun m=>
 LdS S (f.add 2) Sl.val fun k=>
 All [
  (New 9 #[] fun l=>
  Sv S<|
  All [
   (Do Tryz.prog (Builtin.append_ #[39,39] 39 #[(Sl.val (Sl.mk (some l) 0 0)),Sl.val m]) Sl.val fun c=>
   Sv S<|
   All [
    (New 9 #[] fun d=>
    Sv S<|
    All [
     (Do Tryz.prog (Builtin.append_ #[39,39] 39 #[(Sl.val (Sl.mk (some d) 0 0)),Sl.val k]) Sl.val fun b=>
     Sv S<|
     New 42 #[.int .i64 0,Sl.val ⟨none,0,0⟩,Sl.val ⟨none,0,0⟩,Sl.val ⟨none,0,0⟩,.int .i64 0] fun a=>
     Sv S<|
     StN a 5 #[.int .i64 i,Sl.val c,Sl.val b,Sl.val ⟨none,0,0⟩,.int .i64 j]<|
     qx.s1 Q f g a),
     (New 42 #[.int .i64 0,Sl.val ⟨none,0,0⟩,Sl.val ⟨none,0,0⟩,Sl.val ⟨none,0,0⟩,.int .i64 0] fun a=>
     Sv S<|
     Do Tryz.prog (Builtin.append_ #[39,39] 39 #[(Sl.val (Sl.mk (some d) 0 0)),Sl.val k]) Sl.val fun b=>
     Sv S<|
     StN a 5 #[.int .i64 i,Sl.val c,Sl.val b,Sl.val ⟨none,0,0⟩,.int .i64 j]<|
     qx.s1 Q f g a)
     ]),
    (New 42 #[.int .i64 0,Sl.val ⟨none,0,0⟩,Sl.val ⟨none,0,0⟩,Sl.val ⟨none,0,0⟩,.int .i64 0] fun a=>
    Sv S<|
    New 9 #[] fun d=>
    Sv S<|
    Do Tryz.prog (Builtin.append_ #[39,39] 39 #[(Sl.val (Sl.mk (some d) 0 0)),Sl.val k]) Sl.val fun b=>
    Sv S<|
    StN a 5 #[.int .i64 i,Sl.val c,Sl.val b,Sl.val ⟨none,0,0⟩,.int .i64 j]<|
    qx.s1 Q f g a)
    ]),
   (New 9 #[] fun d=>
   Sv S<|
   All [
    (Do Tryz.prog (Builtin.append_ #[39,39] 39 #[(Sl.val (Sl.mk (some l) 0 0)),Sl.val m]) Sl.val fun c=>
    Sv S<|
    All [
     (Do Tryz.prog (Builtin.append_ #[39,39] 39 #[(Sl.val (Sl.mk (some d) 0 0)),Sl.val k]) Sl.val fun b=>
     Sv S<|
     New 42 #[.int .i64 0,Sl.val ⟨none,0,0⟩,Sl.val ⟨none,0,0⟩,Sl.val ⟨none,0,0⟩,.int .i64 0] fun a=>
     Sv S<|
     StN a 5 #[.int .i64 i,Sl.val c,Sl.val b,Sl.val ⟨none,0,0⟩,.int .i64 j]<|
     qx.s1 Q f g a),
     (New 42 #[.int .i64 0,Sl.val ⟨none,0,0⟩,Sl.val ⟨none,0,0⟩,Sl.val ⟨none,0,0⟩,.int .i64 0] fun a=>
     Sv S<|
     Do Tryz.prog (Builtin.append_ #[39,39] 39 #[(Sl.val (Sl.mk (some d) 0 0)),Sl.val k]) Sl.val fun b=>
     Sv S<|
     StN a 5 #[.int .i64 i,Sl.val c,Sl.val b,Sl.val ⟨none,0,0⟩,.int .i64 j]<|
     qx.s1 Q f g a)
     ]),
    (New 42 #[.int .i64 0,Sl.val ⟨none,0,0⟩,Sl.val ⟨none,0,0⟩,Sl.val ⟨none,0,0⟩,.int .i64 0] fun a=>
    Sv S<|
    Do Tryz.prog (Builtin.append_ #[39,39] 39 #[(Sl.val (Sl.mk (some l) 0 0)),Sl.val m]) Sl.val fun c=>
    Sv S<|
    Do Tryz.prog (Builtin.append_ #[39,39] 39 #[(Sl.val (Sl.mk (some d) 0 0)),Sl.val k]) Sl.val fun b=>
    Sv S<|
    StN a 5 #[.int .i64 i,Sl.val c,Sl.val b,Sl.val ⟨none,0,0⟩,.int .i64 j]<|
    qx.s1 Q f g a)
    ]),
   (New 42 #[.int .i64 0,Sl.val ⟨none,0,0⟩,Sl.val ⟨none,0,0⟩,Sl.val ⟨none,0,0⟩,.int .i64 0] fun a=>
   Sv S<|
   All [
    (Do Tryz.prog (Builtin.append_ #[39,39] 39 #[(Sl.val (Sl.mk (some l) 0 0)),Sl.val m]) Sl.val fun c=>
    Sv S<|
    New 9 #[] fun d=>
    Sv S<|
    Do Tryz.prog (Builtin.append_ #[39,39] 39 #[(Sl.val (Sl.mk (some d) 0 0)),Sl.val k]) Sl.val fun b=>
    Sv S<|
    StN a 5 #[.int .i64 i,Sl.val c,Sl.val b,Sl.val ⟨none,0,0⟩,.int .i64 j]<|
    qx.s1 Q f g a),
    (New 9 #[] fun d=>
    Sv S<|
    Do Tryz.prog (Builtin.append_ #[39,39] 39 #[(Sl.val (Sl.mk (some l) 0 0)),Sl.val m]) Sl.val fun c=>
    Sv S<|
    Do Tryz.prog (Builtin.append_ #[39,39] 39 #[(Sl.val (Sl.mk (some d) 0 0)),Sl.val k]) Sl.val fun b=>
    Sv S<|
    StN a 5 #[.int .i64 i,Sl.val c,Sl.val b,Sl.val ⟨none,0,0⟩,.int .i64 j]<|
    qx.s1 Q f g a)
    ])
   ]),
  (New 9 #[] fun d=>
  Sv S<|
  All [
   (New 9 #[] fun l=>
   Sv S<|
   All [
    (Do Tryz.prog (Builtin.append_ #[39,39] 39 #[(Sl.val (Sl.mk (some l) 0 0)),Sl.val m]) Sl.val fun c=>
    Sv S<|
    All [
     (Do Tryz.prog (Builtin.append_ #[39,39] 39 #[(Sl.val (Sl.mk (some d) 0 0)),Sl.val k]) Sl.val fun b=>
     Sv S<|
     New 42 #[.int .i64 0,Sl.val ⟨none,0,0⟩,Sl.val ⟨none,0,0⟩,Sl.val ⟨none,0,0⟩,.int .i64 0] fun a=>
     Sv S<|
     StN a 5 #[.int .i64 i,Sl.val c,Sl.val b,Sl.val ⟨none,0,0⟩,.int .i64 j]<|
     qx.s1 Q f g a),
     (New 42 #[.int .i64 0,Sl.val ⟨none,0,0⟩,Sl.val ⟨none,0,0⟩,Sl.val ⟨none,0,0⟩,.int .i64 0] fun a=>
     Sv S<|
     Do Tryz.prog (Builtin.append_ #[39,39] 39 #[(Sl.val (Sl.mk (some d) 0 0)),Sl.val k]) Sl.val fun b=>
     Sv S<|
     StN a 5 #[.int .i64 i,Sl.val c,Sl.val b,Sl.val ⟨none,0,0⟩,.int .i64 j]<|
     qx.s1 Q f g a)
     ]),
    (New 42 #[.int .i64 0,Sl.val ⟨none,0,0⟩,Sl.val ⟨none,0,0⟩,Sl.val ⟨none,0,0⟩,.int .i64 0] fun a=>
    Sv S<|
    Do Tryz.prog (Builtin.append_ #[39,39] 39 #[(Sl.val (Sl.mk (some l) 0 0)),Sl.val m]) Sl.val fun c=>
    Sv S<|
    Do Tryz.prog (Builtin.append_ #[39,39] 39 #[(Sl.val (Sl.mk (some d) 0 0)),Sl.val k]) Sl.val fun b=>
    Sv S<|
    StN a 5 #[.int .i64 i,Sl.val c,Sl.val b,Sl.val ⟨none,0,0⟩,.int .i64 j]<|
    qx.s1 Q f g a)
    ]),
   (New 42 #[.int .i64 0,Sl.val ⟨none,0,0⟩,Sl.val ⟨none,0,0⟩,Sl.val ⟨none,0,0⟩,.int .i64 0] fun a=>
   Sv S<|
   New 9 #[] fun l=>
   Sv S<|
   Do Tryz.prog (Builtin.append_ #[39,39] 39 #[(Sl.val (Sl.mk (some l) 0 0)),Sl.val m]) Sl.val fun c=>
   Sv S<|
   Do Tryz.prog (Builtin.append_ #[39,39] 39 #[(Sl.val (Sl.mk (some d) 0 0)),Sl.val k]) Sl.val fun b=>
   Sv S<|
   StN a 5 #[.int .i64 i,Sl.val c,Sl.val b,Sl.val ⟨none,0,0⟩,.int .i64 j]<|
   qx.s1 Q f g a)
   ]),
  (New 42 #[.int .i64 0,Sl.val ⟨none,0,0⟩,Sl.val ⟨none,0,0⟩,Sl.val ⟨none,0,0⟩,.int .i64 0] fun a=>
  Sv S<|
  All [
   (New 9 #[] fun l=>
   Sv S<|
   All [
    (Do Tryz.prog (Builtin.append_ #[39,39] 39 #[(Sl.val (Sl.mk (some l) 0 0)),Sl.val m]) Sl.val fun c=>
    Sv S<|
    New 9 #[] fun d=>
    Sv S<|
    Do Tryz.prog (Builtin.append_ #[39,39] 39 #[(Sl.val (Sl.mk (some d) 0 0)),Sl.val k]) Sl.val fun b=>
    Sv S<|
    StN a 5 #[.int .i64 i,Sl.val c,Sl.val b,Sl.val ⟨none,0,0⟩,.int .i64 j]<|
    qx.s1 Q f g a),
    (New 9 #[] fun d=>
    Sv S<|
    Do Tryz.prog (Builtin.append_ #[39,39] 39 #[(Sl.val (Sl.mk (some l) 0 0)),Sl.val m]) Sl.val fun c=>
    Sv S<|
    Do Tryz.prog (Builtin.append_ #[39,39] 39 #[(Sl.val (Sl.mk (some d) 0 0)),Sl.val k]) Sl.val fun b=>
    Sv S<|
    StN a 5 #[.int .i64 i,Sl.val c,Sl.val b,Sl.val ⟨none,0,0⟩,.int .i64 j]<|
    qx.s1 Q f g a)
    ]),
   (New 9 #[] fun d=>
   Sv S<|
   New 9 #[] fun l=>
   Sv S<|
   Do Tryz.prog (Builtin.append_ #[39,39] 39 #[(Sl.val (Sl.mk (some l) 0 0)),Sl.val m]) Sl.val fun c=>
   Sv S<|
   Do Tryz.prog (Builtin.append_ #[39,39] 39 #[(Sl.val (Sl.mk (some d) 0 0)),Sl.val k]) Sl.val fun b=>
   Sv S<|
   StN a 5 #[.int .i64 i,Sl.val c,Sl.val b,Sl.val ⟨none,0,0⟩,.int .i64 j]<|
   qx.s1 Q f g a)
   ])
  ]
theorem zNq(d Q w)(h:qx d Q w):qx.call d Q w:=by
 have:∀f g i,LH 3 (fun x:Int=>[(1,(.pointer (some f))),(2,(.pointer (some g))),(3,(.pointer (some i))),(4,.int .i64 x)]) (fun X x=>qx.b2 Q X f g i x):=fun _ _ _=>⟨⟩
 have:JH 2 fun D=>∃b c,D [(1,(.pointer (some b))),(2,(.pointer (some c)))] (fun C=>∀j,C [(1,(.pointer (some b))),(2,(.pointer (some c))),(3,(.pointer (some j)))] (qx.s1 Q b c j)):=⟨fun _ ⟨_,_,h⟩=>⟨_,_,h⟩⟩
 have:DH 1 2 [14] (.s [0,2,5,9,1,3,6,10] (.a [(4,1,.a [(7,1,.a [(8,1,.a [(11,1,.s [12] (.a [(13,1,.a [(14,0,.e)])])),(13,1,.a [(11,1,.s [12] (.a [(14,0,.e)]))])]),(13,1,.a [(8,1,.a [(11,1,.s [12] (.a [(14,0,.e)]))])])]),(8,1,.a [(7,1,.a [(11,1,.s [12] (.a [(13,1,.a [(14,0,.e)])])),(13,1,.a [(11,1,.s [12] (.a [(14,0,.e)]))])]),(13,1,.a [(7,1,.a [(11,1,.s [12] (.a [(14,0,.e)]))])])]),(13,1,.a [(7,1,.a [(8,1,.a [(11,1,.s [12] (.a [(14,0,.e)]))])]),(8,1,.a [(7,1,.a [(11,1,.s [12] (.a [(14,0,.e)]))])])])]),(8,1,.a [(4,1,.a [(7,1,.a [(11,1,.s [12] (.a [(13,1,.a [(14,0,.e)])])),(13,1,.a [(11,1,.s [12] (.a [(14,0,.e)]))])]),(13,1,.a [(7,1,.a [(11,1,.s [12] (.a [(14,0,.e)]))])])]),(13,1,.a [(4,1,.a [(7,1,.a [(11,1,.s [12] (.a [(14,0,.e)]))])])])]),(13,1,.a [(4,1,.a [(7,1,.a [(8,1,.a [(11,1,.s [12] (.a [(14,0,.e)]))])]),(8,1,.a [(7,1,.a [(11,1,.s [12] (.a [(14,0,.e)]))])])]),(8,1,.a [(4,1,.a [(7,1,.a [(11,1,.s [12] (.a [(14,0,.e)]))])])])])])):=⟨⟩
 exact zJ 47 h Tryz.func51
def zy.s3(Q:Bool→K)(b:Int→K)(f:Int)(g:Addr)(i:Sl)(c:Int)(d:Bool): K :=
 Ite d
  (Q false)
  (Ar (IntKind.wrap .i64 (c+1)) fun a=>
  b a)
def zy.s4(Q:Bool→K)(b:Int→K)(a:Bool): K :=
 Q a
def zy.b6(Q:Bool→K)(m l:Int→K)(a:Addr)(b:Int): K :=
 Ld (a.add 3) Sl.val fun c=>
 Ite (decide (b<(c.n:Int)))
  (Dr<|
  LdN a 5 fun d=>
  Ld (a.add 3) Sl.val fun f=>
  Idx f b 4 fun g=>
  LdN g 4 fun i=>
  xY.call d i fun j=>
  Ite (!j)
   (Q false)
   (Ar (IntKind.wrap .i64 (b+1)) fun k=>
   l k))
  (Q true)
def zy.s5(Q:Bool→K)(a:Int→K)(b:Addr)(c:Bool): K :=
 Ite c
  (Q false)
  (zq (α:=Int) (fun X x=>zy.b6 Q a X b x) 0)
def zy.b2(Q:Bool→K)(b:Int→K)(f:Int)(a:Addr)(d:Sl)(c:Int): K :=
 Ite (decide (c<(d.n:Int)))
  (Dr<|
  Idx d c 1 fun g=>
  Ld g Value.string fun i=>
  Ite (decide ((i.size:Int)<1))
   (zy.s3 Q b f a d c true)
   (Idx d c 1 fun j=>
   Ld j Value.string fun k=>
   Ite (decide ((16:Int)<(k.size:Int)))
    (zy.s3 Q b f a d c true)
    (Ld (a.add 1) Sl.val fun l=>
    Ite (decide (c<(l.n:Int)))
     (Idx d c 1 fun m=>
     Ld (a.add 2) Sl.val fun o=>
     Ld m Value.string fun p=>
     zBs.call o p fun q=>
     zy.s3 Q b f a d c q)
     (zy.s3 Q b f a d c false))))
  (Ld a (Value.int .i64) fun r=>
  Ite (decide (r=2))
   (Ld (a.add 1) Sl.val fun s=>
   Ite (decide ((s.n:Int)=0))
    (Ld (a.add 3) Sl.val fun t=>
    Ite (decide ((t.n:Int)=0))
     (Ld (a.add 2) Sl.val fun u=>
     Ite (decide ((u.n:Int)=1))
      (Ld (a.add 4) (Value.int .i64) fun v=>
      Ite (decide ((0:Int)≤v))
       (Ld (a.add 4) (Value.int .i64) fun x=>
       zy.s4 Q b (decide (x<f)))
       (zy.s4 Q b false))
      (zy.s4 Q b false))
     (zy.s4 Q b false))
    (zy.s4 Q b false))
   (Ld a (Value.int .i64) fun y=>
   Ite (decide (y≠1))
    (zy.s5 Q b a true)
    (Ld (a.add 4) (Value.int .i64) fun z=>
    Ite (decide (z≠0))
     (zy.s5 Q b a true)
     (Ld (a.add 3) Sl.val fun aa=>
     zy.s5 Q b a (decide ((16:Int)<(aa.n:Int)))))))
def zy.s1(Q:Bool→K)(i:Int)(a:Addr)(j:Bool): K :=
 Ite j
  (Q false)
  (Dr<|yV fun S=>
  LdS S (a.add 1) Sl.val fun b=>
  LdS S (a.add 2) Sl.val fun c=>
  New 9 #[] fun d=>
  Sv S<|
  Do Tryz.prog (Builtin.append_ #[39,39] 39 #[(Sl.val (Sl.mk (some d) 0 0)),Sl.val b]) Sl.val fun f=>
  Sv S<|
  Do Tryz.prog (Builtin.append_ #[39,39] 39 #[Sl.val f,Sl.val c]) Sl.val fun g=>
  zq (α:=Int) (fun X x=>zy.b2 Q X i a g x) 0)
def zy(o:Av)(b:Int)(Q:Bool→K): K :=
 New 42 o fun a=>
 Ite (decide (b<1))
  (zy.s1 Q b a true)
  (Ite (decide ((3:Int)<b))
   (zy.s1 Q b a true)
   (Ld (a.add 1) Sl.val fun c=>
   zA0.call c fun d=>
   Ite (!d)
    (zy.s1 Q b a true)
    (Ld (a.add 2) Sl.val fun f=>
    zA0.call f fun g=>
    Ite (!g)
     (zy.s1 Q b a true)
     (Ld (a.add 1) Sl.val fun i=>
     Ite (decide ((8:Int)<(i.n:Int)))
      (zy.s1 Q b a true)
      (Ld (a.add 2) Sl.val fun j=>
      Ite (decide ((8:Int)<(j.n:Int)))
       (zy.s1 Q b a true)
       (Ld (a.add 1) Sl.val fun k=>
       Ld (a.add 2) Sl.val fun l=>
       Ar (IntKind.wrap .i64 ((k.n:Int)+(l.n:Int))) fun m=>
       zy.s1 Q b a (decide ((8:Int)<m))))))))
theorem zMk(m n Q w)(h:zy m n Q w):zy.call m n Q w:=by
 have:∀b,XH 5 b→JH 8 fun D=>∃c d f g,D [(1,.int .i64 c),(2,(.pointer (some d))),(5,Sl.val f),(6,.int .i64 g)] (fun C=>∀o,C [(1,.int .i64 c),(2,(.pointer (some d))),(5,Sl.val f),(6,.int .i64 g),(90,.bool o)] (zy.s3 Q b c d f g o)):=by intros;exact⟨fun _ ⟨_,_,_,_,h⟩=>⟨_,_,h⟩⟩
 have:DH 7 1 [27] (.s [0,1,2,3,4,5,6] (.i (.s [7,8,9,10,11,12,13,14,15,16,17,18,19,20,21,22,23,24,25,26,27,28,29] .e) (.s [7,8,9,10,11,12,13,14] (.i (.s [15,16,17,18,19,20,21,22,23,24,25,26,27,28,29] .e) (.s [15,16,17,18,19,20] (.i (.s [21,23,24,25,22,26] (.a [(27,0,.s [28,29] .e)])) (.s [21,22,23,24,25,26,27,28,29] .e))))))):=⟨⟩
 have:∀b,XH 5 b→JH 1000010 fun D=>D [] (fun C=>∀p,C [(4,.bool p)] (zy.s4 Q b p)):=by intros;exact⟨fun _ h=>⟨_,_,h⟩⟩
 have:DH 16 1 [6] (.s [1,3,0,2,4,5] (.a [(6,0,.s [7] .e)])):=⟨⟩
 have:∀b,XH 5 b→∀q,LH 14 (fun x:Int=>[(2,(.pointer (some q))),(7,.int .i64 x)]) (fun X x=>zy.b6 Q b X q x):=by intros;exact⟨⟩
 have:∀b,XH 5 b→JH 12 fun D=>∃j,D [(2,(.pointer (some j)))] (fun C=>∀r,C [(2,(.pointer (some j))),(134,.bool r)] (zy.s5 Q b j r)):=by intros;exact⟨fun _ ⟨_,h⟩=>⟨_,_,h⟩⟩
 have:∀t u v,LH 5 (fun x:Int=>[(1,.int .i64 t),(2,(.pointer (some u))),(5,Sl.val v),(6,.int .i64 x)]) (fun X x=>zy.b2 Q X t u v x):=fun _ _ _=>⟨⟩
 have:DH 3 2 [6] (.s [1,4,2,5] (.a [(0,1,.a [(3,1,.a [(6,0,.s [7] .e)])])])):=⟨⟩
 have:JH 2 fun D=>∃k l,D [(1,.int .i64 k),(2,(.pointer (some l)))] (fun C=>∀y,C [(1,.int .i64 k),(2,(.pointer (some l))),(47,.bool y)] (zy.s1 Q k l y)):=⟨fun _ ⟨_,_,h⟩=>⟨_,_,h⟩⟩
 exact zJ 150 h Tryz.func94
def qF.s4(Q:Bool→K)(b:Int→K)(f g:Addr)(c:Int)(d:Bool): K :=
 Ite d
  (Q false)
  (Ar (IntKind.wrap .i64 (c+1)) fun a=>
  b a)
def qF.s3(Q:Bool→K)(a:Int→K)(b c:Addr)(d:Int)(f g:Addr): K :=
 Ld f (Value.int .i64) fun i=>
 Ld g (Value.int .i64) fun j=>
 Ite (decide (i≠j))
  (qF.s4 Q a b c d true)
  (Ld (f.add 1) Value.string fun k=>
  Ld (g.add 1) Value.string fun l=>
  Ite (!(k.toList==l.toList))
   (qF.s4 Q a b c d true)
   (Ld (f.add 3) (Value.int .i64) fun m=>
   Ld (g.add 3) (Value.int .i64) fun n=>
   Ite (decide (m≠n))
    (qF.s4 Q a b c d true)
    (Ld (f.add 2) Sl.val fun o=>
    Rd Tryz.prog (convert 88 9 (Sl.val o)) Value.string fun p=>
    Ld (g.add 2) Sl.val fun q=>
    Rd Tryz.prog (convert 88 9 (Sl.val q)) Value.string fun r=>
    qF.s4 Q a b c d (!(p.toList==r.toList)))))
def qF.b2(Q:Bool→K)(j:Int→K)(d f:Addr)(c:Int): K :=
 Ld (d.add 3) Sl.val fun k=>
 Ite (decide (c<(k.n:Int)))
  (Dr<|yV fun S=>
  LdS S (d.add 3) Sl.val fun l=>
  Idx l c 4 fun m=>
  xJ S m 4 fun g=>
  LdS S (f.add 3) Sl.val fun o=>
  Idx o c 4 fun p=>
  xJ S p 4 fun i=>
  All [
   (New 217 #[.int .i64 0,(.string ⟨#[]⟩),Sl.val ⟨none,0,0⟩,.int .i64 0] fun a=>
   Sv S<|
   New 217 #[.int .i64 0,(.string ⟨#[]⟩),Sl.val ⟨none,0,0⟩,.int .i64 0] fun b=>
   Sv S<|
   StN a 4 g<|
   Sv S<|
   StN b 4 i<|
   qF.s3 Q j d f c a b),
   (New 217 #[.int .i64 0,(.string ⟨#[]⟩),Sl.val ⟨none,0,0⟩,.int .i64 0] fun b=>
   Sv S<|
   New 217 #[.int .i64 0,(.string ⟨#[]⟩),Sl.val ⟨none,0,0⟩,.int .i64 0] fun a=>
   Sv S<|
   StN a 4 g<|
   Sv S<|
   StN b 4 i<|
   qF.s3 Q j d f c a b)
   ])
  (Q true)
def qF.s1(Q:Bool→K)(a b:Addr)(c:Bool): K :=
 Ite c
  (Q false)
  (zq (α:=Int) (fun X x=>qF.b2 Q X a b x) 0)
def qF(r s:Av)(Q:Bool→K): K :=
 New 42 r fun a=>
 New 42 s fun b=>
 Ld a (Value.int .i64) fun c=>
 Ld b (Value.int .i64) fun d=>
 Ite (decide (c≠d))
  (qF.s1 Q a b true)
  (Ld (a.add 4) (Value.int .i64) fun f=>
  Ld (b.add 4) (Value.int .i64) fun g=>
  Ite (decide (f≠g))
   (qF.s1 Q a b true)
   (Ld (a.add 1) Sl.val fun i=>
   Ld (b.add 1) Sl.val fun j=>
   uM.call i j fun k=>
   Ite (!k)
    (qF.s1 Q a b true)
    (Ld (a.add 2) Sl.val fun l=>
    Ld (b.add 2) Sl.val fun m=>
    uM.call l m fun o=>
    Ite (!o)
     (qF.s1 Q a b true)
     (Ld (a.add 3) Sl.val fun p=>
     Ld (b.add 3) Sl.val fun q=>
     qF.s1 Q a b (decide ((p.n:Int)≠(q.n:Int)))))))
theorem zNr(m n Q w)(h:qF m n Q w):qF.call m n Q w:=by
 have:∀b,XH 4 b→JH 8 fun D=>∃c d f,D [(2,(.pointer (some c))),(3,(.pointer (some d))),(5,.int .i64 f)] (fun C=>∀o,C [(2,(.pointer (some c))),(3,(.pointer (some d))),(5,.int .i64 f),(89,.bool o)] (qF.s4 Q b c d f o)):=by intros;exact⟨fun _ ⟨_,_,_,h⟩=>⟨_,_,h⟩⟩
 have:∀b,XH 4 b→JH 7 fun D=>∃g i j,D [(2,(.pointer (some g))),(3,(.pointer (some i))),(5,.int .i64 j)] (fun C=>∀p q,C [(2,(.pointer (some g))),(3,(.pointer (some i))),(5,.int .i64 j),(6,(.pointer (some p))),(7,(.pointer (some q)))] (qF.s3 Q b g i j p q)):=by intros;exact⟨fun _ ⟨_,_,_,h⟩=>⟨_,_,h⟩⟩
 have:DH 6 2 [13] (.s [0,2,5,7,1,3,4,6,8,9] (.a [(10,1,.a [(11,1,.a [(12,1,.a [(13,0,.e)])])]),(11,1,.a [(10,1,.a [(12,1,.a [(13,0,.e)])])])])):=⟨⟩
 have:∀r t,LH 4 (fun x:Int=>[(2,(.pointer (some r))),(3,(.pointer (some t))),(5,.int .i64 x)]) (fun X x=>qF.b2 Q X r t x):=fun _ _=>⟨⟩
 have:JH 2 fun D=>∃k l,D [(2,(.pointer (some k))),(3,(.pointer (some l)))] (fun C=>∀u,C [(2,(.pointer (some k))),(3,(.pointer (some l))),(44,.bool u)] (qF.s1 Q k l u)):=⟨fun _ ⟨_,_,h⟩=>⟨_,_,h⟩⟩
 exact zJ 90 h Tryz.func114
def qU.s2(Q:Sl→K)(b:Sl→Int→K)(c f:Sl)(d:Int): K :=
 Ar (IntKind.wrap .i64 (d+1)) fun a=>
 b c a
def qU.s4(Q:Sl→K)(n:Sl→Int→K)(o:Int→K)(a p:Sl)(q b:Int)(r:Bool): K :=
 Ite r
  (Idx a b 1 fun c=>
  Ld c Value.string fun d=>
  Ar (IntKind.wrap .i64 (b-1)) fun f=>
  Idx a f 1 fun g=>
  Ld g Value.string fun i=>
  Idx a b 1 fun j=>
  St j (.string i)<|
  Ar (IntKind.wrap .i64 (b-1)) fun k=>
  Idx a k 1 fun l=>
  St l (.string d)<|
  Ar (IntKind.wrap .i64 (b-1)) fun m=>
  o m)
  (qU.s2 Q n a p q)
def qU.b3(Q:Sl→K)(c:Sl→Int→K)(d:Int→K)(b f:Sl)(g a:Int): K :=
 Dr<|
 Ite (decide ((0:Int)<a))
  (Idx b a 1 fun i=>
  Ld i Value.string fun j=>
  Ar (IntKind.wrap .i64 (a-1)) fun k=>
  Idx b k 1 fun l=>
  Ld l Value.string fun m=>
  qU.s4 Q c d b f g a (Op.bytesLess j.toList m.toList))
  (qU.s4 Q c d b f g a false)
def qU.b1(Q:Sl→K)(f:Sl→Int→K)(a c:Sl)(b:Int): K :=
 Ite (decide (b<(a.n:Int)))
  (Idx a b 1 fun g=>
  Ld g Value.string fun i=>
  zBs.call c i fun j=>
  Ite j
   (qU.s2 Q f c a b)
   (Idx a b 1 fun k=>
   Ld k Value.string fun l=>
   New 9 #[.string l] fun m=>
   Do Tryz.prog (Builtin.append_ #[39,39] 39 #[Sl.val c,(Sl.val (Sl.mk (some m) 1 1))]) Sl.val fun d=>
   Ar (IntKind.wrap .i64 ((d.n:Int)-1)) fun o=>
   zq (α:=Int) (fun X x=>qU.b3 Q f X d a b x) o))
  (Q c)
def qU(l:Av)(Q:Sl→K): K :=
 New 42 l fun a=>
 New 9 #[] fun b=>
 Dr<|yV fun S=>
 LdS S (a.add 1) Sl.val fun c=>
 LdS S (a.add 2) Sl.val fun d=>
 New 9 #[] fun f=>
 Sv S<|
 Do Tryz.prog (Builtin.append_ #[39,39] 39 #[(Sl.val (Sl.mk (some f) 0 0)),Sl.val c]) Sl.val fun g=>
 Sv S<|
 Do Tryz.prog (Builtin.append_ #[39,39] 39 #[Sl.val g,Sl.val d]) Sl.val fun i=>
 zq (α:=Sl×Int) (fun X x=>qU.b1 Q (fun j k=>X (j,k)) i x.1 x.2) ((Sl.mk (some b) 0 0),0)
theorem zNs(m Q w)(h:qU m Q w):qU.call m Q w:=by
 have:∀b,XH 4 b→JH 5 fun D=>∃f g,D [(4,Sl.val f),(5,.int .i64 g)] (fun C=>∀n,C [(3,Sl.val n),(4,Sl.val f),(5,.int .i64 g)] (qU.s2 Q (fun c d=>b (c,d)) n f g)):=by intros;exact⟨fun _ ⟨_,_,h⟩=>⟨_,_,h⟩⟩
 have:∀b,XH 4 b→∀o,XH 9 o→JH 1000009 fun D=>∃i j k l,D [(3,Sl.val i),(4,Sl.val j),(5,.int .i64 k),(6,.int .i64 l)] (fun C=>∀p,C [(3,Sl.val i),(4,Sl.val j),(5,.int .i64 k),(6,.int .i64 l),(51,.bool p)] (qU.s4 Q (fun c d=>b (c,d)) o i j k l p)):=by intros;exact⟨fun _ ⟨_,_,_,_,h⟩=>⟨_,_,h⟩⟩
 have:∀b,XH 4 b→∀q r t,LH 9 (fun x:Int=>[(3,Sl.val q),(4,Sl.val r),(5,.int .i64 t),(6,.int .i64 x)]) (fun X x=>qU.b3 Q (fun c d=>b (c,d)) X q r t x):=by intros;exact⟨⟩
 have:∀u,LH 4 (fun x:Sl×Int=>[(3,Sl.val x.1),(4,Sl.val u),(5,.int .i64 x.2)]) (fun X x=>qU.b1 Q (fun c d=>X (c,d)) u x.1 x.2):=fun _=>⟨⟩
 have:DH 2 2 [6] (.s [1,4,2,5] (.a [(0,1,.a [(3,1,.a [(6,0,.s [7] .e)])])])):=⟨⟩
 exact zJ 72 h Tryz.func115
def zA0.b1(Q:Bool→K)(k:Int→K)(b:Sl)(a:Int): K :=
 Ite (decide (a<(b.n:Int)))
  (Dr<|
  Ar (IntKind.wrap .i64 (a-1)) fun c=>
  Idx b c 1 fun d=>
  Ld d Value.string fun f=>
  Idx b a 1 fun g=>
  Ld g Value.string fun i=>
  Ite (!(Op.bytesLess f.toList i.toList))
   (Q false)
   (Ar (IntKind.wrap .i64 (a+1)) fun j=>
   k j))
  (Q true)
def zA0(a:Sl)(Q:Bool→K): K :=
 zq (α:=Int) (fun X x=>zA0.b1 Q X a x) 1
theorem zLc(a Q w)(h:zA0 a Q w):zA0.call a Q w:=by
 have:∀b,LH 2 (fun x:Int=>[(0,Sl.val b),(3,.int .i64 x)]) (fun X x=>zA0.b1 Q X b x):=fun _=>⟨⟩
 exact zJ 20 h Tryz.func167
def zBs.b1(Q:Bool→K)(g:Int→K)(b:Sl)(i:ByteArray)(a:Int): K :=
 Ite (decide (a<(b.n:Int)))
  (Idx b a 1 fun c=>
  Ld c Value.string fun d=>
  Ite (d.toList==i.toList)
   (Q true)
   (Ar (IntKind.wrap .i64 (a+1)) fun f=>
   g f))
  (Q false)
def zBs(a:Sl)(b:ByteArray)(Q:Bool→K): K :=
 zq (α:=Int) (fun X x=>zBs.b1 Q X a b x) 0
theorem zRH(a b Q w)(h:zBs a b Q w):zBs.call a b Q w:=by
 have:∀c d,LH 2 (fun x:Int=>[(0,Sl.val c),(1,.string d),(5,.int .i64 x)]) (fun X x=>zBs.b1 Q X c d x):=fun _ _=>⟨⟩
 exact zJ 18 h Tryz.func168
def xY.s2(Q:Bool→K)(a:Bool): K :=
 Q a
def xY.s5(Q:Bool→K)(a:Bool): K :=
 Q a
def xY.s4(Q:Bool→K)(a:Addr)(f:Bool): K :=
 Ite f
  (Q false)
  (Ld a (Value.int .i64) fun b=>
  Ite (decide (b=2))
   (xY.s5 Q true)
   (Ld a (Value.int .i64) fun c=>
   Ite (decide (c=4))
    (xY.s5 Q true)
    (Ld (a.add 2) Sl.val fun d=>
    xY.s5 Q (decide ((d.n:Int)=0)))))
def xY.s3(Q:Bool→K)(a:Addr)(d:Bool): K :=
 Ite d
  (Q false)
  (Ld a (Value.int .i64) fun b=>
  Ite (decide (b≠6))
   (Ld (a.add 3) (Value.int .i64) fun c=>
   xY.s4 Q a (decide (c≠0)))
   (xY.s4 Q a false))
def xY.s1(Q:Bool→K)(b a:Addr)(q:Bool): K :=
 Ite q
  (Q false)
  (Ld a (Value.int .i64) fun c=>
  Ite (decide (c=7))
   (Ld (a.add 1) Value.string fun d=>
   Ite (d.toList==(⟨#[]⟩:ByteArray).toList)
    (Ld (a.add 3) (Value.int .i64) fun f=>
    xY.s2 Q (decide (f=0)))
    (xY.s2 Q false))
   (Ld (b.add 2) Sl.val fun g=>
   Ld (a.add 1) Value.string fun i=>
   zBs.call g i fun j=>
   Ite (!j)
    (Ld (b.add 1) Sl.val fun k=>
    Ld (a.add 1) Value.string fun l=>
    zBs.call k l fun m=>
    Ite (!m)
     (xY.s3 Q a true)
     (Ld a (Value.int .i64) fun n=>
     Ite (decide (n=2))
      (xY.s3 Q a true)
      (Ld a (Value.int .i64) fun o=>
      Ite (decide (o=3))
       (xY.s3 Q a true)
       (Ld a (Value.int .i64) fun p=>
       xY.s3 Q a (decide (p=6))))))
    (xY.s3 Q a false)))
def xY(g i:Av)(Q:Bool→K): K :=
 New 42 g fun b=>
 New 217 i fun a=>
 Ld (a.add 2) Sl.val fun c=>
 Ite (decide ((32:Int)<(c.n:Int)))
  (xY.s1 Q b a true)
  (Ld a (Value.int .i64) fun d=>
  Ite (decide (d<1))
   (xY.s1 Q b a true)
   (Ld a (Value.int .i64) fun f=>
   xY.s1 Q b a (decide ((7:Int)<f))))
theorem zRI(f g Q w)(h:xY f g Q w):xY.call f g Q w:=by
 have:JH 1000004 fun D=>D [] (fun C=>∀i,C [(4,.bool i)] (xY.s2 Q i)):=⟨fun _ h=>⟨_,_,h⟩⟩
 have:JH 1000009 fun D=>D [] (fun C=>∀j,C [(4,.bool j)] (xY.s5 Q j)):=⟨fun _ h=>⟨_,_,h⟩⟩
 have:JH 8 fun D=>∃a,D [(3,(.pointer (some a)))] (fun C=>∀k,C [(3,(.pointer (some a))),(66,.bool k)] (xY.s4 Q a k)):=⟨fun _ ⟨_,h⟩=>⟨_,_,h⟩⟩
 have:JH 6 fun D=>∃b,D [(3,(.pointer (some b)))] (fun C=>∀l,C [(3,(.pointer (some b))),(58,.bool l)] (xY.s3 Q b l)):=⟨fun _ ⟨_,h⟩=>⟨_,_,h⟩⟩
 have:JH 2 fun D=>∃c d,D [(2,(.pointer (some c))),(3,(.pointer (some d)))] (fun C=>∀m,C [(2,(.pointer (some c))),(3,(.pointer (some d))),(18,.bool m)] (xY.s1 Q c d m)):=⟨fun _ ⟨_,_,h⟩=>⟨_,_,h⟩⟩
 exact zJ 81 h Tryz.func169
def uM.b1(Q:Bool→K)(j:Int→K)(b k:Sl)(a:Int): K :=
 Ite (decide (a<(b.n:Int)))
  (Dr<|
  Idx b a 1 fun c=>
  Ld c Value.string fun d=>
  Idx k a 1 fun f=>
  Ld f Value.string fun g=>
  Ite (!(d.toList==g.toList))
   (Q false)
   (Ar (IntKind.wrap .i64 (a+1)) fun i=>
   j i))
  (Q true)
def uM(a b:Sl)(Q:Bool→K): K :=
 Ite (decide ((a.n:Int)≠(b.n:Int)))
  (Q false)
  (zq (α:=Int) (fun X x=>uM.b1 Q X a b x) 0)
theorem zJG(a b Q w)(h:uM a b Q w):uM.call a b Q w:=by
 have:∀c d,LH 4 (fun x:Int=>[(0,Sl.val c),(1,Sl.val d),(5,.int .i64 x)]) (fun X x=>uM.b1 Q X c d x):=fun _ _=>⟨⟩
 exact zJ 26 h Tryz.func187
end
section
open Go Go.Sep
theorem zUU:zFw Tryz.prog zCY .string zAJ:=⟨yO,by kernel_rfl,by kernel_rfl⟩
section
variable{B w:World}{Γ:List zB}{β:Type}{cV:β→Value}
end
end
section
open Go Go.Sep Go.Sep.Bt
structure zCT where
 key:List UInt8
 home:Int
 cnt:Int
deriving DecidableEq
abbrev zBN(m:zCT):List Value:=[qE m.key,.int .i64 m.home,.int .u64 m.cnt]
abbrev Claim:=zx×zCT
abbrev clF(c:Claim):List Value:=[.int .i64 c.1.node,.int .u64 c.1.epoch,.int .u64 c.1.seq,.int .i64 c.1.tr,qE c.2.key,.int .i64 c.2.home,.int .u64 c.2.cnt]
theorem xW(c:Claim):(clF c).length=7:=rfl
theorem zIB(c:zCT):(zBN c).length=3:=rfl
theorem zKh(L:List Claim):∀v∈L.flatMap clF,qD v=true:=fun v hv=>by
 obtain⟨x,_,hx⟩:=zhS.1 hv;simp only[clF,zgS,zhg,or_false] at hx;rcases hx with rfl|rfl|rfl|rfl|rfl|rfl|rfl <;> rfl
theorem zRJ:Tryz.prog.underlying zDG=some (.map zN zDF):=by kernel_rfl
theorem zDq:zLa Tryz.prog zN zQ:=⟨by kernel_rfl,⟨zJ2,by kernel_rfl,fun _=>rfl⟩,fun a b h=>zBw.1 h,fun a=>by simp[Instr.sameBits]⟩
abbrev GM:=List (List UInt8×(List Claim×List Claim))
abbrev DM:=zx→Bool
abbrev zBm{ν:Type}(W:List (List UInt8×ν)):Prop:=(W.map Prod.fst).Nodup
def zBA(k:List UInt8)(M:GM):GM:=if(qj k M).isNone then M++[(k,([],[]))] else M
def atM(k:List UInt8)(M:GM):List Claim×List Claim:=(qj k M).getD ([],[])
def zEi(tag:zx)(L:List Claim):Bool:=L.any fun c=>decide (c.1=tag)
def zGj(dm:DM)(tag:zx)(b:Bool):DM:=fun t=>if t=tag then b else dm t
def zCG(n:Nat)(S:zo)(m:zCT):Int:=zBa (yt n S (bs m.key)).cnt m.cnt (yt n S (bs m.key)).home m.home
def zA3(n:Nat)(S:zo)(tag:zx)(x:GM×DM)(m:zCT):GM×DM :=
 if zEi tag (atM m.key x.1).1||zEi tag (atM m.key x.1).2 then(zBA m.key x.1,x.2)
 else if zCG n S m=0 then(uH m.key ((atM m.key x.1).1++[(tag,m)],(atM m.key x.1).2) (zBA m.key x.1),x.2)
 else if zCG n S m=1 then(uH m.key ((atM m.key x.1).1,(atM m.key x.1).2++[(tag,m)]) (zBA m.key x.1),x.2)
 else(zBA m.key x.1,zGj x.2 tag true)
def zBO(n:Nat)(S:zo)(tag:zx)(ms:List zCT)(x:GM×DM):GM×DM:=ms.foldl (zA3 n S tag) x
def noT(tag:zx)(L:List Claim):List Claim:=L.filter fun c=>!decide (c.1=tag)
def uE(tag:zx)(x:GM×DM):GM×DM:=(x.1.map fun p=>(p.1,(noT tag p.2.1,noT tag p.2.2)),zGj x.2 tag false)
def gsz(M:GM)(N:Nat):Prop:=M.length≤N∧∀p∈M,p.2.1.length≤N∧p.2.2.length≤N
theorem zci{M:GM}{a b:Nat}(h:gsz M a)(hab:a≤b):gsz M b:=⟨by have:=h.1;omega,fun p hp=>by have:=h.2 p hp;omega⟩
theorem zSv{M:GM}{k:List UInt8}{N:Nat}(h:gsz M N):(atM k M).1.length≤N∧(atM k M).2.length≤N:=by
 unfold atM;cases hm:qj k M with
 | none=>simp
 | some v=>exact h.2 _ (zFx hm)
theorem zXu{M:GM}{k:List UInt8}{N:Nat}(h:gsz M N):gsz (zBA k M) (N+1):=by
 unfold zBA;split
 ·refine⟨by simp;exact h.1,fun p hp=>?_⟩;rcases zgP.1 hp with hp|hp
  ·have:=h.2 p hp;omega
  ·rw[zgM.1 hp];simp
 ·exact zci h (by omega)
theorem zIC{M:GM}{k:List UInt8}{v:List Claim×List Claim}(h:(qj k M).isSome=true):(uH k v M).length=M.length:=by
 rcases zFE k M with⟨h1,_⟩|⟨j,x,hj,_,_,_,h2,_⟩
 ·rw[h1] at h;cases h
 ·rw[h2];simp
theorem zE3{M:GM}{k:List UInt8}:(qj k (zBA k M)).isSome=true:=by
 unfold zBA;split
 ·rename_i h;have h':qj k M=none:=by simpa using h
  have:=zH8 (v:=([],[])) h';rw[←this,zDS];simp
 ·rename_i h;simpa[Option.isNone_iff_eq_none,Option.isSome_iff_ne_none] using h
theorem zRK{ν:Type}{M:List (List UInt8×ν)}{k:List UInt8}{v:ν}{p:List UInt8×ν}(h:p∈uH k v M):p=(k,v)∨p∈M:=by
 rcases zFE k M with⟨_,h2,_⟩|⟨j,x,hj,_,_,_,h2,_⟩
 ·rw[h2] at h;rcases zgP.1 h with h|h
  ·exact .inr h
  ·exact .inl (zgM.1 h)
 ·rw[h2] at h;rcases zh3 h with h|h
  ·exact .inr h
  ·exact .inl h
theorem zRL{M:GM}{k:List UInt8}{v:List Claim×List Claim}{N:Nat}(h:gsz M N)(hs:(qj k M).isSome=true)(h1:v.1.length≤N)(h2:v.2.length≤N):gsz (uH k v M) N :=
 ⟨by rw[zIC hs];exact h.1,fun p hp=>by
  rcases zRK hp with rfl|hp
  ·exact⟨h1,h2⟩
  ·exact h.2 p hp⟩
theorem zVe{n:Nat}{S:zo}{tag:zx}{x:GM×DM}{m:zCT}{N:Nat}(h:gsz x.1 N):gsz (zA3 n S tag x m).1 (N+1):=by
 have h1:=zXu (k:=m.key) h;have h2:=zSv (k:=m.key) h;unfold zA3;split
 ·exact h1
 ·split
  ·exact zRL h1 zE3 (by simp;omega) (by simp only;omega)
  ·split
   ·exact zRL h1 zE3 (by simp only;omega) (by simp;omega)
   ·exact h1
theorem zOX{ν:Type}{M:List (List UInt8×ν)}{k:List UInt8}{v:ν}(h:zBm M)(hk:qj k M=none):zBm (M++[(k,v)]):=by
 have e:=zH8 (v:=v) hk;have h2:=zEK M k v;unfold zBm;rw[←e,h2];split
 ·exact h
 ·rename_i hk;refine zhd.2 ⟨h,by simp,fun a ha b hb=>?_⟩;rw[zgM.1 hb];exact fun e=>hk (e▸ha)
theorem zSw{ν:Type}{M:List (List UInt8×ν)}{k:List UInt8}{v:ν}(h:qj k M=some v):∃A C,M=A++(k,v)::C:=by
 induction M with
 | nil=>cases h
 | cons p M ih=>
  unfold qj at h;split at h
  ·rename_i e;injection h with h;exact⟨[],M,by rw[e,←h];rfl⟩
  ·obtain⟨A,C,rfl⟩:=ih h;exact⟨p::A,C,rfl⟩
theorem zJ5{ν:Type}{A C:List (List UInt8×ν)}{k:List UInt8}{v:ν}(h:zBm (A++(k,v)::C)):(∀p∈A,p.1≠k)∧∀p∈C,p.1≠k:=by
 unfold zBm at h;rw[zgT,zgd] at h;obtain⟨_,h2,h3⟩:=zhd.1 h;refine⟨fun p hp=>h3 _ (zgV.2 ⟨p,hp,rfl⟩) _ zgN,fun p hp e=>(zh7.1 h2).1 (e▸zgV.2 ⟨p,hp,rfl⟩)⟩
theorem zRM{ν:Type}{A C:List (List UInt8×ν)}{k:List UInt8}{v:ν}(h:∀p∈A,p.1≠k):qj k (A++(k,v)::C)=some v:=by
 induction A with
 | nil=>simp[qj]
 | cons p A ih=>
  rw[zhC,qj,if_neg (fun e=>h p zgN e.symm)];exact ih fun q hq=>h q (zgI _ hq)
theorem zXv{ν:Type}{A C:List (List UInt8×ν)}{k:List UInt8}{v v':ν}(h:∀p∈A,p.1≠k):uH k v' (A++(k,v)::C)=A++(k,v')::C:=by
 induction A with
 | nil=>simp[uH]
 | cons p A ih=>
  rw[zhC,uH,if_neg (fun e=>h p zgN e.symm),ih fun q hq=>h q (zgI _ hq)];rfl
structure zDU where
 b:Nat
 ls:Sl
 ps:Sl
 line:List Claim
 park:List Claim
abbrev gV(g:zDU):Value:=.pointer (some ⟨g.b,0,none⟩)
abbrev gL(g:zDU)(Γ:List zB):List zB:=blk g.b (.cells [g.ls.val,g.ps.val].toArray zCK (0,0))::SlC vP 7 g.ls (g.line.flatMap clF)::SlC vP 7 g.ps (g.park.flatMap clF)::Γ
abbrev gB(x:List UInt8×zDU):zB:=Sep.stars (gL x.2 [])
abbrev GX:=List (List UInt8×zDU)
abbrev zPr(X:GX):GM:=X.map fun p=>(p.1,(p.2.line,p.2.park))
abbrev zFz(l gm db:Nat)(X Y:GX)(D:List (zx×Int))(Γ:List zB):List zB :=
 blk l (.cells [.map (some gm),.map (some db)].toArray zAi (0,0))::vv qE gV gm X::Sep.stars (Y.map gB)::vv (kyS zQ) (Value.int .i64) db D::Γ
structure LF(M:GM)(dm:DM)(X:GX)(D:List (zx×Int)):Prop where
 mod:zPr X=M
 once:zBm X
 doom:∀t,dm t=decide (0<(qj t D).getD 0)
 nd:(D.map Prod.fst).Nodup
def vL(l:Nat)(M:GM)(dm:DM):zB:=ex fun gm=>ex fun db=>ex fun X:GX=>ex fun D=>Sep.stars (pur (LF M dm X D)::zFz l gm db X X D [])
section
variable{B:World}{Γ Δ:List zB}{k:K}{l gm db st n:Nat}{M:GM}{dm:DM}{X:GX}{D:List (zx×Int)}{S:zo}{tag:zx}
instance(priority:=high) zdG:Sep.Own l (vL l M dm::Γ) (vL l M dm) Γ:=⟨.refl _⟩
theorem zL5(h:∀gm db X D,LF M dm X D→HG B (zFz l gm db X X D Γ) k):HG B (vL l M dm::Γ) k :=
 zCE fun gm=>zCE fun db=>zCE fun X=>zCE fun D=>zBL<|zHK fun h1=>h gm db X D h1
theorem zE4(h1:LF M dm X D)(h:HG B (vL l M dm::Γ) k):HG B (zFz l gm db X X D Γ) k:=fun w hw=>by
 refine h w ?_;have h3:Holds B (Sep.stars (pur (LF M dm X D)::zFz l gm db X X D [])::Γ) w:=Holds.flat.2 (Holds.pur.2 ⟨h1,hw⟩);exact h3.imp fun g hg=>⟨gm,db,X,D,hg⟩
theorem zOY{α β:Type}[DecidableEq α]{enc:α→Value}{cV:β→Value}{b:Nat}{m m':List (α×β)}(h:(m.map fun p=>(enc p.1,cV p.2))=m'.map fun p=>(enc p.1,cV p.2)):∀g,vv enc cV b m g→vv enc cV b m' g:=fun g hg=>by
 obtain⟨es,c,⟨h1,h2⟩,h3⟩:=hg;exact⟨es,c,⟨by unfold zFF at h1 ⊢;rw[h1,h],h2⟩,h3⟩
theorem zcj{A C:GX}{key:List UInt8}{g:zDU}(hX:X=A++(key,g)::C)(h:HG B (gL g (zFz l gm db X (A++C) D Γ)) k):HG B (zFz l gm db X X D Γ) k:=by
 refine qc (Sep.stars (X.map gB)) ?_;rw[show Sep.stars (X.map gB)=Sep.stars ((A++(key,g)::C).map gB) by rw[hX]];refine zFB<|zBL ?_;show HG B (gL g (_::_::_::_::Γ)) k;exact zA h
theorem zRN{A C:GX}{key:List UInt8}{g g':zDU}{dm':DM}{D':List (zx×Int)}(hX:X=A++(key,g)::C)(hb:g'.b=g.b)(hf:LF M dm X D)(hd:(∀t,dm' t=decide (0<(qj t D').getD 0))∧(D'.map Prod.fst).Nodup)
  (h:HG B (vL l (uH key (g'.line,g'.park) M) dm'::Γ) k):HG B (gL g' (zFz l gm db X (A++C) D' Γ)) k:=by
 have ho:=hf.once;rw[hX] at ho;have hA:=(zJ5 ho).1;refine zFu (Δ:=gL g' [])<|qc (Sep.stars ((A++C).map gB))<|qc (Sep.stars (gL g' []))<|zAb (F:=gB) (x:=(key,g'))<|qc (vv qE gV gm X)<|zBg (zOY (m':=A++(key,g')::C) ?_) ?_
 ·rw[hX];simp[gV,hb]
 refine qc (Sep.stars ((A++(key,g')::C).map gB))<|qc (vv qE gV gm (A++(key,g')::C))<|yN l<|zE4 ⟨?_,?_,hd.1,hd.2⟩ h
 ·rw[←hf.mod,hX];simp only[zPr,zgT,zgd];rw[zXv];intro p hp;obtain⟨q,hq,rfl⟩:=zgV.1 hp;exact hA q hq
 ·unfold zBm at ho ⊢;simpa using ho
theorem zbX{A C:GX}{key:List UInt8}{g:zDU}(hX:X=A++(key,g)::C)(hf:LF M dm X D):atM key M=(g.line,g.park):=by
 have ho:=hf.once;rw[hX] at ho;unfold atM;rw[←hf.mod,hX];simp only[zPr,zgT,zgd];rw[zRM];rfl;intro p hp;obtain⟨q,hq,rfl⟩:=zgV.1 hp;exact(zJ5 ho).1 q hq
abbrev g0(gb:Nat):zDU:=⟨gb,⟨none,0,0⟩,⟨none,0,0⟩,[],[]⟩
theorem zVf:zCD Tryz.prog zAJ (.pointer none):=zHE
theorem zUV{key:List UInt8}{Q:Option Addr→K}(h:∀gm db X D A g C,LF (zBA key M) dm X D→X=A++(key,g)::C→HG B (gL g (zFz l gm db X (A++C) D Γ)) (Q (some ⟨g.b,0,none⟩))):
  HG B (vL l M dm::Γ) (vC.call (some ⟨l,0,none⟩) (bs key) Q):=by
 refine fun w hw=>zIR _ _ _ _ ?_;refine hg hw ?_;refine zL5 fun gm db X D hf=>?_;unfold vC
 repeat refine zT ?_
 have hl:∀{Γ:List zB} {q:Option Addr→K} {X:GX} {Δ:List zB} [p:Sep.Own gm Γ (vv qE gV gm X) Δ],HG B Γ (q ((qj key X).map fun g=>⟨g.b,0,none⟩))→HG B Γ (Rd Tryz.prog (Instr.lookup zCY (.map (some gm)) (qE key) false) Value.pointer q):=fun {Γ q X Δ p} h w hw=>by
  obtain⟨es,c,⟨hr,hst⟩,h1⟩:=vv.opens (hw.perm p.perm);have:=zVa (a:=key) zUU zHS zVf h1.block hr false;refine⟨(qj key X).map fun g=>⟨g.b,0,none⟩,?_,h w hw⟩;rw[this];cases qj key X <;> rfl
 have fin:∀{Γ:List zB} (M2:GM) (X:GX) (g:zDU),qj key X=some g→LF M2 dm X D→(∀A C,X=A++(key,g)::C→HG B (gL g (zFz l gm db X (A++C) D Γ)) (Q (some ⟨g.b,0,none⟩)))→HG B (zFz l gm db X X D Γ) (vC.s1 Q (some ⟨l,0,none⟩) (bs key)):=fun M2 X g hg hf hk=>by
  unfold vC.s1
  repeat refine zT ?_
  refine hl ?_;rw[hg];obtain⟨A,C,hX⟩:=zSw hg;exact zcj hX (hk A C hX)
 refine hl ?_;have hmm:qj key M=(qj key X).map fun g=>(g.line,g.park):=by rw[←hf.mod];exact zJz (fun g:zDU=>(g.line,g.park)) key X
 cases hm:qj key X with
 | none=>
  rw[hm] at hmm;have hgm:zBA key M=M++[(key,([],[]))]:=by unfold zBA;rw[hmm];rfl
  rw[hgm] at h;refine s_t ?_
  repeat refine zT ?_
  refine zD fun gb=>?_;refine zbV (cG:=Value.bool) (enc:=qE) (v:=g0 gb) rfl zUU zHS ?_;have hms:=zH8 (v:=g0 gb) hm;rw[hms];refine fun w hw=>?_;refine hg (show Holds B (SlC vP 7 ⟨none,0,0⟩ []::_) w from hw.ji _ _)<|fun w hw=>?_;refine hg (show Holds B (SlC vP 7 ⟨none,0,0⟩ []::_) w from hw.ji _ _)<|yN gb<|zFu (Δ:=gL (g0 gb) [])<|qc (Sep.stars (X.map gB))<|qc (Sep.stars (gL (g0 gb) [])) ?_;rw[show Sep.stars (X.map gB)=Sep.stars ((X++[]).map gB) by rw[zgy]];refine zAb (F:=gB) (x:=(key,g0 gb))<|qc (Sep.stars ((X++[(key,g0 gb)]).map gB))<|yN gm<|yN l ?_;have hf':LF (M++[(key,([],[]))]) dm (X++[(key,g0 gb)]) D:=⟨by simp[zPr,←hf.mod],zOX hf.once hm,hf.doom,hf.nd⟩
  refine fin _ _ (g0 gb) ?_ hf' fun A C hX=>h gm db _ D A _ C hf' hX;rw[←hms,zDS];simp
 | some g=>
  rw[hm] at hmm;have hgm:zBA key M=M:=by unfold zBA;rw[hmm];rfl
  rw[hgm] at h;exact s_f<|fin M X g hm hf fun A C hX=>h gm db X D A g C hf hX
abbrev ofV(b:Nat):Value:=.func (.func 201) #[] #[.pointer (some ⟨b,0,none⟩)]
theorem zE5{Q:Value→K}(h:∀b,HG B (blk b (.cells (zQ tag).toArray zN (0,0))::Γ) (Q (ofV b))):HG B Γ (zC1.call (zQ tag).toArray Q):=by
 refine fun w hw=>zRF _ _ _ ?_;exact hg hw<|zD fun b=>h b
theorem zbY{b:Nat}{c:Claim}{q:Bool→K}(h:HG B Γ (q (decide (c.1=tag))))[p:Sep.Own b Γ (blk b (.cells (zQ tag).toArray zN (0,0))) Δ]:
  HG B Γ (vZ Tryz.prog (ofV b) [.agg (clF c).toArray] (yH (fun(t:Bool)=>Value.bool t) q)):=by
 refine zEa (cs:=[.pointer (some ⟨b,0,none⟩)])<|fun w hw=>zNn _ _ _ _<|hg hw<|zD fun c2=>?_
 repeat refine zT ?_
 exact zHQ (ks:=zJ2) zBw<|zA h
theorem zXw{s:Sl}{L:List Claim}{b:Nat}{Δ2:List zB}{Q:Int→K}(hL:L.length<1000000000)(h:HG B Γ (Q (zFH (L.findIdx? fun c=>decide (c.1=tag)))))[o:zDH s Γ (SlC vP 7 s (L.flatMap clF)) Δ2][p:Sep.Own b Γ (blk b (.cells (zQ tag).toArray zN (0,0))) Δ]:
  HG B Γ (zm.call s (ofV b) Q):=by
 refine yw s fun a1 a2 a3 a4=>?_;rw[zH _ 7 xW] at a1;refine fun w hw=>vY _ _ _ _ ?_;exact hg hw<|zIA (fun c=>decide (c.1=tag)) (by omega) hL (fun i x k hx hk=>zUR xW (by omega) hx hk) (fun x q _ hq=>zbY hq) h
theorem zKi{s:Sl}{L:List Claim}{b:Nat}{Δ2:List zB}{Q:Bool→K}(hL:L.length<1000000000)(h:HG B Γ (Q (zEi tag L)))[o:zDH s Γ (SlC vP 7 s (L.flatMap clF)) Δ2][p:Sep.Own b Γ (blk b (.cells (zQ tag).toArray zN (0,0))) Δ]:
  HG B Γ (yT.call s (ofV b) Q):=by
 refine fun w hw=>zBT _ _ _ _ ?_;refine hg hw<|zXw hL ?_;rw[zHR,zPp];exact h
theorem zUW{s:Sl}{L:List Claim}{b:Nat}{Q:Sl→K}(hL:L.length<1000000000)(h:∀s',HG B (SlC vP 7 s' ((noT tag L).flatMap clF)::Γ) (Q s'))[p:Sep.Own b Γ (blk b (.cells (zQ tag).toArray zN (0,0))) Δ]:
  HG B (SlC vP 7 s (L.flatMap clF)::Γ) (zL.call s (ofV b) Q):=by
 refine fun w hw=>jU _ _ _ _ ?_;refine hg hw<|zUS (R:=fun _=>Γ) (fun(_:Unit) c=>decide (c.1=tag)) (fun _ _=>()) () (fun _ _=>True) trivial (fun _ _ _ _=>trivial) (fun s fv Q w h=>vY _ _ _ _ h) xW (by omega) (fun _=>rfl) rfl hL (fun Ξ g x C q _ _ hq=>zbY hq) fun s' _=>?_;rw[zKe];exact h s'
theorem zLJ{Q:Option Addr→K}(h:∀l,HG B (vL l [] (fun _=>false)::Γ) (Q (some ⟨l,0,none⟩))):HG B Γ (zDP.call Q):=by
 refine fun w hw=>zJ4 _ _ ?_;refine hg hw<|zGL (enc:=qE) (cV:=gV) fun gm=>?_;refine zGL (enc:=kyS zQ) (cV:=Value.int .i64) fun db=>?_;refine zD fun l=>?_;refine fun w hw=>?_;exact hg (show Holds B (Sep.stars (([]:GX).map gB)::_) w from Holds.flat.2 hw)<|qc (Sep.stars (([]:GX).map gB))<|yN gm<|yN l<|zE4 ⟨rfl,by simp[zBm],fun t=>by simp[qj],by simp⟩ (h l)
theorem zMl(hf:∀t,dm t=decide (0<(qj t D).getD 0)):∀t,zGj dm tag true t=decide (0<(qj t (uH tag 1 D)).getD 0):=fun t=>by
 rw[zDS];unfold zGj;split
 ·simp
 ·exact hf t
theorem zSx{v:Int}(h:(D.map Prod.fst).Nodup):((uH tag v D).map Prod.fst).Nodup:=by
 rw[zEK];split
 ·exact h
 ·rename_i hk;refine zhd.2 ⟨h,by simp,fun a ha b hb=>?_⟩;rw[zgM.1 hb];exact fun e=>hk (e▸ha)
theorem zVg{ν:Type}{M:List (List UInt8×ν)}{key:List UInt8}{v:ν}(h:qj key M=some v):uH key v M=M:=by
 induction M with
 | nil=>cases h
 | cons p M ih=>
  unfold qj at h;unfold uH;split
  ·rename_i e;rw[if_pos e] at h;injection h with h
   rw[e,←h]
  ·rename_i e;rw[if_neg e] at h;rw[ih h]
theorem zPs{key:List UInt8}:atM key (zBA key M)=atM key M:=by
 unfold zBA;split
 ·rename_i h;have h':qj key M=none:=by simpa using h
  unfold atM;rw[h',←zH8 h',zDS];simp
 ·rfl
theorem zUX{key:List UInt8}:uH key (atM key M) (zBA key M)=zBA key M:=by
 refine zVg ?_;have h:=zE3 (M:=M) (k:=key);rw[←zPs];unfold atM;cases hm:qj key (zBA key M) with
 | none=>rw[hm] at h;cases h
 | some v=>rfl
theorem zXx{ms:Sl}{L:List zCT}{N:Nat}{Q:K}(hr:∀w,Holds B Γ w→RdC w ms 3 (L.flatMap zBN))(hk:∀m∈L,m.key.length<1000000000)(hN:gsz M N)(hNl:N+L.length≤1000000)
  (h:HG B (vL l (zBO n S tag L (M,dm)).1 (zBO n S tag L (M,dm)).2::yM st n S::Γ) Q) :
  HG B (vL l M dm::yM st n S::Γ) (yu.call (some ⟨l,0,none⟩) (some ⟨st,0,none⟩) (zQ tag).toArray ms Q):=fun w hw=>by
 refine zHT _ _ _ _ _ _ ?_;have hlen:ms.n=L.length:=zAM zIB (by omega) (hr w hw.tail.tail);refine hg hw ?_;clear hw w;refine zD fun t6=>?_;refine qH (α:=Int) (ι:=(GM×DM)×Nat) (fun x i=>x=(i.2:Int)∧i.2≤L.length∧gsz i.1.1 (N+i.2)∧zBO n S tag (L.drop i.2) i.1=zBO n S tag L (M,dm))
  (fun x i=>blk t6 (.cells (zQ tag).toArray zN (0,0))::vL l i.1.1 i.1.2::yM st n S::Γ) (fun x i=>L.length-i.2) ((M,dm),0) ⟨rfl,zgW _,hN,rfl⟩ ?_
 rintro k' _ ⟨⟨M1,d1⟩,j⟩ ⟨rfl,hj,hz,he⟩ hk';refine zF (fun hb=>?_) fun hb=>?_
 ·have hjl:j<L.length:=by simp only[zgH] at hb;omega
  have hge:L[j]?=some L[j]:=zgG hjl;have hmem:L[j]∈L:=zgX hjl;rw[zgj hjl] at he;generalize L[j]=m at hge hmem he;have hkl:=hk m hmem;have hz2:=zVe (n:=n) (S:=S) (tag:=tag) (m:=m) hz;have he2:zBO n S tag (L.drop (j+1)) (zA3 n S tag (M1,d1) m)=zBO n S tag L (M,dm):=he;refine uT zBN zIB (fun w hw=>hr w hw.drops) hge ?_;refine zD fun m9=>?_
  repeat refine zT ?_
  refine yN l ?_;refine zUV fun gm db X D A g C hf hX=>?_;have hat:=zbX hX hf;rw[zPs] at hat;have hgz:=zSv (k:=m.key) hz;rw[hat] at hgz;simp only at hgz;refine yw g.ls fun c1 c2 c3 c4=>?_;refine yw g.ps fun e1 e2 e3 e4=>?_;rw[zH _ 7 xW] at c1 e1;have fin:∀{Δ:List zB} {g':zDU} {d':DM} {D':List (zx×Int)},zA3 n S tag (M1,d1) m=(uH m.key (g'.line,g'.park) (zBA m.key M1),d')→g'.b=g.b→((∀t,d' t=decide (0<(qj t D').getD 0))∧(D'.map Prod.fst).Nodup)→HG B (gL g' (zFz l gm db X (A++C) D' (blk t6 (.cells (zQ tag).toArray zN (0,0))::yM st n S::Γ))) (yu.s2 Q k' (some ⟨l,0,none⟩) (some ⟨st,0,none⟩) ⟨t6,0,none⟩ ms (ms.n:Int) (j:Int)):=fun {Δ g' d' D'} e1 e2 e3=>by
   refine zRN hX e2 hf e3<|qJ ?_;have h:=hk' ((j:Int)+1) (zA3 n S tag (M1,d1) m,j+1) ⟨by simp,hjl,hz2,he2⟩ (by simp only;omega);rw[e1] at h;exact zA h
  have keep:(zEi tag g.line||zEi tag g.park)=true→zA3 n S tag (M1,d1) m=(uH m.key (g.line,g.park) (zBA m.key M1),d1):=fun hh=>by
   unfold zA3;rw[hat,if_pos hh,show(g.line,g.park)=atM m.key M1 from hat.symm,zUX]
  repeat refine zT ?_
  refine zE5 fun b1=>?_
  repeat refine zT ?_
  refine zKi (by omega) ?_
  repeat refine zT ?_
  have rest:∀(b:Nat) (hh:Bool),hh=(zEi tag g.line||zEi tag g.park)→HG B (gL g (zFz l gm db X (A++C) D (blk m9 (.cells (zBN m).toArray zi (0,0))::blk t6 (.cells (zQ tag).toArray zN (0,0))::yM st n S::Γ))) (yu.s3 Q k' (some ⟨l,0,none⟩) (some ⟨st,0,none⟩) ⟨t6,0,none⟩ ⟨m9,0,none⟩ (some ⟨g.b,0,none⟩) ms (ms.n:Int) (j:Int) hh):=fun b hh hhe=>by
   refine zF (fun hb2=>?_) fun hb2=>?_
   ·exact zA (fin (Δ:=Γ) (keep (by rw[←hhe];exact hb2)) rfl ⟨hf.doom,hf.nd⟩)
   rw[hb2] at hhe;have hno:¬(zEi tag g.line||zEi tag g.park)=true:=by rw[←hhe];simp
   repeat refine zT ?_
   refine yN st<|zBi (by show m.key.length<_;omega) fun s _=>?_
   repeat refine zT ?_
   refine zSn ?_;have hlk:zBa (yt n S (bs m.key)).cnt m.cnt (yt n S (bs m.key)).home m.home=zCG n S m:=rfl;rw[hlk];refine zF (fun h0=>?_) fun h0=>?_
   ·have h0':zCG n S m=0:=by simpa using h0
    repeat refine zT ?_
    refine zD fun t=>?_
    repeat refine zT ?_
    refine qp (zBM rfl) (by intro v hv;exact zKh [(tag,m)] v (by simpa using hv)) (by simp only;omega) fun ls' _=>?_;rw[show g.line.flatMap clF++clF (tag,m)=(g.line++[(tag,m)]).flatMap clF by simp]
    repeat refine zT ?_
    refine zA (fin (Δ:=Γ) (g':={ g with ls:=ls',line:=g.line++[(tag,m)] }) ?_ rfl ⟨hf.doom,hf.nd⟩);unfold zA3;rw[hat,if_neg hno,if_pos h0']
   ·have h0':¬zCG n S m=0:=by simpa using h0
    refine zF (fun h1=>?_) fun h1=>?_
    ·have h1':zCG n S m=1:=by simpa using h1
     repeat refine zT ?_
     refine zD fun t=>?_
     repeat refine zT ?_
     refine qp (zBM rfl) (by intro v hv;exact zKh [(tag,m)] v (by simpa using hv)) (by simp only;omega) fun ps' _=>?_;rw[show g.park.flatMap clF++clF (tag,m)=(g.park++[(tag,m)]).flatMap clF by simp]
     repeat refine zT ?_
     refine zA (fin (Δ:=Γ) (g':={ g with ps:=ps',park:=g.park++[(tag,m)] }) ?_ rfl ⟨hf.doom,hf.nd⟩);unfold zA3;rw[hat,if_neg hno,if_neg h0',if_pos h1']
    ·have h1':¬zCG n S m=1:=by simpa using h1
     repeat refine zT ?_
     refine zSs (a:=tag) (v:=1) zDq rfl ?_ zRJ;refine zA (fin (Δ:=Γ) (d':=zGj d1 tag true) ?_ rfl ⟨zMl hf.doom,zSx hf.nd⟩);unfold zA3;rw[hat,if_neg hno,if_neg h0',if_neg h1',show(g.line,g.park)=atM m.key M1 from hat.symm,zUX]
  refine zF (fun hb2=>?_) fun hb2=>?_
  ·exact zA (rest b1 true (by rw[hb2];rfl))
  repeat refine zT ?_
  refine zE5 fun b2=>?_
  repeat refine zT ?_
  exact zKi (by omega)<|zA (rest b2 _ (by rw[hb2];rfl))
 ·have hjl:j=L.length:=by simp only[zgF] at hb;omega
  rw[hjl,zhx] at he;have he':(M1,d1)=zBO n S tag L (M,dm):=he;rw[←he'] at h;exact zA h
end
end
section
open Go Go.Sep Go.Sep.Bt
section
variable{B:World}{Γ Δ:List zB}{k:K}{l gm db st n:Nat}{M:GM}{dm:DM}{X:GX}{D:List (zx×Int)}{S:zo}{tag:zx}
theorem zOZ{Q:Bool→K}(h:HG B (vL l M dm::Γ) (Q (dm tag))):HG B (vL l M dm::Γ) (jd.call (some ⟨l,0,none⟩) (zQ tag).toArray Q):=by
 refine fun w hw=>zGh _ _ _ _ ?_;refine hg hw ?_;clear hw w;refine zL5 fun gm db X D hf=>?_;unfold jd;refine zD fun t3=>?_
 repeat refine zT ?_
 refine zMf (b:=db) (a:=tag) (z:=0) zDq zEX ?_ zRJ;rw[←hf.doom];exact yN db<|qc (Sep.stars (X.map gB))<|yN gm<|yN l<|zE4 hf (zA h)
theorem zXy{m:List (zx×Int)}{a b:zx}(h:(m.map Prod.fst).Nodup):qj b (zJE a m)=if b=a then none else qj b m:=by
 induction m with
 | nil=>simp[zJE,qj]
 | cons p m ih=>
  have h1:=zh7.1 (show(p.1::m.map Prod.fst).Nodup from h);unfold zJE;split
  ·rename_i e;split
   ·rename_i e2;have hn:∀m:List (zx×Int),p.1∉m.map Prod.fst→qj p.1 m=none:=fun m=>by
     induction m with
     | nil=>intro _;rfl
     | cons q m ih=>intro hq;simp only[zgd,zgS,not_or] at hq;unfold qj;rw[if_neg hq.1];exact ih hq.2
    rw[e2,e];exact hn m h1.1
   ·rename_i e2;simp only[qj];rw[if_neg (fun e3=>e2 (by rw[e3,e]))]
  ·rename_i e;by_cases h2:b=p.1
   ·have h3:¬b=a:=fun h4=>e (by rw[←h4,h2]);simp only[qj,h2,zhX];rw[if_neg (by rw[←h2];exact h3)]
   ·simp only[qj,h2,zhG];exact ih h1.2
theorem zck{m:List (zx×Int)}(h:(m.map Prod.fst).Nodup):((zJE tag m).map Prod.fst).Nodup:=by
 rcases zFE tag m with⟨_,_,h3,_⟩|⟨j,x,_,_,_,_,_,h3⟩
 ·rw[h3];exact h
 ·rw[h3];exact List.Pairwise.sublist ((List.eraseIdx_sublist m j).map Prod.fst) h
theorem zSy{X Y:GX}{A C:GX}{p:List UInt8×zDU}(hY:(Y.map fun q=>(q.1,q.2.b))=X.map fun q=>(q.1,q.2.b))(hX:X=A++p::C):∃A' g C',Y=A'++(p.1,g)::C'∧g.b=p.2.b∧A'.length=A.length∧(A'.map Prod.fst)=A.map Prod.fst∧C'.map Prod.fst=C.map Prod.fst:=by
 rw[hX,zgT,zgd] at hY;obtain⟨A',Y2,rfl,h1,h2⟩:=List.map_eq_append_iff.1 hY;obtain⟨⟨k,g⟩,C',rfl,h3,h4⟩:=List.map_eq_cons_iff.1 h2;simp only[zhj] at h3;obtain⟨rfl,h5⟩:=h3;refine⟨A',g,C',rfl,h5,by simpa using congrArg List.length h1,?_,?_⟩
 ·have:=congrArg (List.map Prod.fst) h1;simpa[zhc] using this
 ·have:=congrArg (List.map Prod.fst) h4;simpa[zhc] using this
theorem zUY{Y A' C':GX}{key:List UInt8}{g:zDU}(hY:Y=A'++(key,g)::C')(h:HG B (gL g (Sep.stars ((A'++C').map gB)::Γ)) k):HG B (Sep.stars (Y.map gB)::Γ) k:=by
 rw[hY];exact zFB<|zBL<|h
theorem zOa{A' C':GX}{key:List UInt8}{g:zDU}(h:HG B (Sep.stars ((A'++(key,g)::C').map gB)::Γ) k):HG B (gL g (Sep.stars ((A'++C').map gB)::Γ)) k:=by
 exact zFu (Δ:=gL g [])<|zAb h
theorem zOb{N:Nat}{Q:K}(hN:gsz M N)(hNl:N≤1000000)(h:HG B (vL l (uE tag (M,dm)).1 (uE tag (M,dm)).2::Γ) Q):
  HG B (vL l M dm::Γ) (qK (some ⟨l,0,none⟩) (zQ tag).toArray Q):=by
 refine zL5 fun gm db X D hf=>?_;have hsz:∀p∈X,p.2.line.length≤N∧p.2.park.length≤N:=fun p hp=>hN.2 (p.1,(p.2.line,p.2.park)) (by rw[←hf.mod];exact zgV.2 ⟨p,hp,rfl⟩);unfold qK;refine zD fun t3=>?_
 repeat refine zT ?_
 refine zUP zUU fun r=>?_
 let cl:List (List UInt8)→List UInt8×(List Claim×List Claim)→List UInt8×(List Claim×List Claim):=fun ks p=>if p.1∈ks then p else(p.1,(noT tag p.2.1,noT tag p.2.2))
 refine qH (α:=Unit) (ι:=GX×GX×Option (List UInt8×zDU)) (fun _ i=>(i.1.map fun q=>(q.1,q.2.b))=(X.map fun q=>(q.1,q.2.b))∧zPr i.1=(zPr X).map (cl (i.2.1.map Prod.fst))∧(i.2.1.map Prod.fst).Nodup)
  (fun _ i=>zA9 qE gV gm r X i.2.1 i.2.2::Sep.stars (i.1.map gB)::blk t3 (.cells (zQ tag).toArray zN (0,0))::blk l (.cells [.map (some gm),.map (some db)].toArray zAi (0,0))::vv (kyS zQ) (Value.int .i64) db D::Γ)
  (fun _ i=>i.2.1.length) (X,X,none) ⟨rfl,?_,hf.once⟩ ?_|>fun h=>zA h
 ·simp only;rw[List.map_congr_left (g:=id)]
  ·simp
  ·intro p hp;simp only[cl,id];rw[if_pos];obtain⟨q,hq,rfl⟩:=zgV.1 hp;exact zgV.2 ⟨q,hq,rfl⟩
 rintro k' _ ⟨Y,left,cur⟩ ⟨hYb,hYm,hnd⟩ hk';simp only at hYb hYm hnd hk' ⊢;unfold qK.b1;refine zXq (fun hl0=>?_) fun l1 p l2 hl1 hp=>?_
 ·repeat refine zT ?_
  refine zSt (b:=db) (a:=tag) zDq ?_ zRJ;subst hl0;refine yN gm<|zBg (zOY (m':=Y) ?_) ?_
  ·have:=congrArg (List.map fun q:List UInt8×Nat=>(qE q.1,Value.pointer (some ⟨q.2,0,none⟩))) hYb;simpa[gV,zhc] using this.symm
  refine yN db<|qc (Sep.stars (Y.map gB))<|yN gm<|yN l<|zE4 (M:=(uE tag (M,dm)).1) (dm:=(uE tag (M,dm)).2) ⟨?_,?_,fun t=>?_,zck hf.nd⟩ (zA h)
  ·rw[hYm,hf.mod];simp[uE,cl]
  ·unfold zBm;have:=congrArg (List.map Prod.fst) hYb;simp only[List.map_map,zhc] at this;rw[this];exact hf.once
  ·show zGj dm tag false t=_;unfold zGj;rw[zXy hf.nd];split
   ·simp
   ·exact hf.doom t
 ·obtain⟨A,C,hX⟩:=zhf hp;obtain⟨A',g,C',hY,hgb,_,hA1,hC1⟩:=zSy hYb hX;have hpl:p.1∈left.map Prod.fst:=by rw[hl1];simp
  have hXo:=hf.once;rw[hX] at hXo;have hmid:=zJ5 hXo;have hgm2:(g.line,g.park)=(p.2.line,p.2.park):=by
   rw[hY,hX] at hYm;simp only[zPr,zgT,zgd] at hYm;have hlen:(A'.map fun p:List UInt8×zDU=>(p.1,(p.2.line,p.2.park))).length=((A.map fun p:List UInt8×zDU=>(p.1,(p.2.line,p.2.park))).map (cl (left.map Prod.fst))).length:=by
    have:=congrArg List.length hA1;simpa using this
   have h2:=(List.append_inj hYm hlen).2;simp only[zhZ,cl] at h2;rw[if_pos hpl] at h2;exact(Prod.mk.inj h2.1).2
  simp only[zhj] at hgm2;have hps:=hsz p hp
  repeat refine zT ?_
  refine zUQ<|zT<|qc (Sep.stars (Y.map gB))<|zUY hY ?_;rw[←hgb]
  repeat refine zT ?_
  refine zE5 fun b1=>?_
  repeat refine zT ?_
  refine uL g.ls<|zUW (by rw[hgm2.1];omega) fun ls'=>?_
  repeat refine zT ?_
  refine zE5 fun b2=>?_
  repeat refine zT ?_
  refine uL g.ps<|zUW (by rw[hgm2.2];omega) fun ps'=>?_
  repeat refine zT ?_
  refine qc (Sep.stars ((A'++C').map gB))<|uL ps'<|uL ls'<|yN g.b<|zOa (key:=p.1) (g:=⟨g.b,ls',ps',noT tag g.line,noT tag g.park⟩)<|zA (hk' () (A'++(p.1,⟨g.b,ls',ps',noT tag g.line,noT tag g.park⟩)::C',l1++l2,some p) ⟨?_,?_,?_⟩ (by rw[hl1];simp))
  ·rw[←hYb,hY];simp
  ·simp only;have hne:∀q:List UInt8,q≠p.1→(q∈l1.map Prod.fst++l2.map Prod.fst↔q∈left.map Prod.fst):=fun q hq=>by
    rw[hl1];simp only[zgT,zgd,zgP,zgS];constructor
    ·rintro(h|h)
     ·exact .inl h
     ·exact .inr (.inr h)
    ·rintro(h|h|h)
     ·exact .inl h
     ·exact absurd h hq
     ·exact .inr h
   have hpn:p.1∉l1.map Prod.fst++l2.map Prod.fst:=fun h5=>by
    rw[hl1,zgT,zgd] at hnd;obtain⟨_,h6,h7⟩:=zhd.1 hnd;rcases zgP.1 h5 with h5|h5
    ·exact h7 _ h5 _ zgN rfl
    ·exact(zh7.1 h6).1 h5
   rw[hY,hX] at hYm;rw[hX];simp only[zPr,zgT,zgd] at hYm ⊢;have hlen:(A'.map fun p:List UInt8×zDU=>(p.1,(p.2.line,p.2.park))).length=((A.map fun p:List UInt8×zDU=>(p.1,(p.2.line,p.2.park))).map (cl (left.map Prod.fst))).length:=by
    have:=congrArg List.length hA1;simpa using this
   obtain⟨h8,h9⟩:=List.append_inj hYm hlen;simp only[zhZ] at h9;rw[h8,h9.2];congr 1
   ·refine List.map_congr_left fun q hq=>?_;obtain⟨q,hq',rfl⟩:=zgV.1 hq;have hq2:=hmid.1 q hq';simp only[cl];by_cases h10:q.1∈left.map Prod.fst
    ·rw[if_pos h10,if_pos ((hne _ hq2).2 h10)]
    ·rw[if_neg h10,if_neg fun h11=>h10 ((hne _ hq2).1 h11)]
   ·congr 1
    ·simp only[cl];rw[if_neg hpn,hgm2.1,hgm2.2]
    ·refine List.map_congr_left fun q hq=>?_;obtain⟨q,hq',rfl⟩:=zgV.1 hq;have hq2:=hmid.2 q hq';simp only[cl];by_cases h10:q.1∈left.map Prod.fst
     ·rw[if_pos h10,if_pos ((hne _ hq2).2 h10)]
     ·rw[if_neg h10,if_neg fun h11=>h10 ((hne _ hq2).1 h11)]
  ·rw[hl1,zgT,zgd] at hnd;rw[zgT];obtain⟨h5,h6,h7⟩:=zhd.1 hnd;exact zhd.2 ⟨h5,(zh7.1 h6).2,fun a ha b hb=>h7 a ha b (zgI _ hb)⟩
theorem zXz{N:Nat}{Q:K}(hN:gsz M N)(hNl:N≤1000000)(h:HG B (vL l (uE tag (M,dm)).1 (uE tag (M,dm)).2::Γ) Q):
  HG B (vL l M dm::Γ) (qK.call (some ⟨l,0,none⟩) (zQ tag).toArray Q):=fun w hw=>zHV _ _ _ _ (zOb hN hNl h w hw)
def zFi(tag:zx)(p:List Claim×List Claim):Bool:=!zEi tag p.2 && !decide (0<zFH (p.1.findIdx? fun c=>decide (c.1=tag)))
def zFj(tag:zx)(M:GM):Bool:=M.all fun p=>zFi tag p.2
theorem zX0{N:Nat}{Q:Bool→K}(hN:gsz M N)(hNl:N≤1000000)(h:HG B (vL l M dm::Γ) (Q (zFj tag M))):HG B (vL l M dm::Γ) (qd.call (some ⟨l,0,none⟩) (zQ tag).toArray Q):=by
 refine fun w hw=>zHU _ _ _ _ ?_;refine hg hw ?_;clear hw w;refine zL5 fun gm db X D hf=>?_;have hsz:∀p∈X,p.2.line.length≤N∧p.2.park.length≤N:=fun p hp=>hN.2 (p.1,(p.2.line,p.2.park)) (by rw[←hf.mod];exact zgV.2 ⟨p,hp,rfl⟩);have hrm:zFj tag M=X.all fun p=>zFi tag (p.2.line,p.2.park):=by unfold zFj;rw[←hf.mod];simp[zPr,zhc]
 unfold qd;refine zD fun t3=>?_
 repeat refine zT ?_
 refine zUP zUU fun r=>?_;refine qH (α:=Unit) (ι:=GX×Option (List UInt8×zDU)) (fun _ i=>(∀p∈X,p∈i.1∨zFi tag (p.2.line,p.2.park)=true))
  (fun _ i=>zA9 qE gV gm r X i.1 i.2::Sep.stars (X.map gB)::blk t3 (.cells (zQ tag).toArray zN (0,0))::blk l (.cells [.map (some gm),.map (some db)].toArray zAi (0,0))::vv (kyS zQ) (Value.int .i64) db D::Γ)
  (fun _ i=>i.1.length) (X,none) (fun p hp=>.inl hp) ?_|>fun h=>zA h
 rintro k' _ ⟨left,cur⟩ hJ hk';simp only at hJ hk' ⊢;unfold qd.b1;refine zXq (r:=r) (fun hl0=>?_) fun l1 p l2 hl1 hp=>?_
 ·repeat refine zT ?_
  subst hl0;have e:zFj tag M=true:=by
   rw[hrm,zg2];intro p hp;rcases hJ p hp with h1|h1
   ·cases h1
   ·exact h1
  rw[e] at h;exact yN db<|qc (Sep.stars (X.map gB))<|yN gm<|yN l<|zE4 hf (zA h)
 ·obtain⟨A,C,hX⟩:=zhf hp;have hps:=hsz p hp
  repeat refine zT ?_
  refine zUQ (r:=r) (q:=p)<|zT ?_;have bad:zFi tag (p.2.line,p.2.park)=false→HG B (zA9 qE gV gm r X (l1++l2) (some p)::Sep.stars (X.map gB)::blk t3 (.cells (zQ tag).toArray zN (0,0))::blk l (.cells [.map (some gm),.map (some db)].toArray zAi (0,0))::vv (kyS zQ) (Value.int .i64) db D::Γ) (Q false):=fun hb=>by
   have e:zFj tag M=false:=by
    rw[hrm,List.all_eq_false];exact⟨p,hp,by simp[hb]⟩
   rw[e] at h;exact zaC (r:=r)<|yN db<|qc (Sep.stars (X.map gB))<|yN gm<|yN l<|zE4 hf (zA h)
  refine qc (Sep.stars (X.map gB))<|zUY (key:=p.1) (g:=p.2) hX ?_;have back:∀(b:Bool),zFi tag (p.2.line,p.2.park) = !b→HG B (gL p.2 (Sep.stars ((A++C).map gB)::zA9 qE gV gm r X (l1++l2) (some p)::blk t3 (.cells (zQ tag).toArray zN (0,0))::blk l (.cells [.map (some gm),.map (some db)].toArray zAi (0,0))::vv (kyS zQ) (Value.int .i64) db D::Γ)) (qd.s2 Q (k' ()) ⟨t3,0,none⟩ (some ⟨r,0,none⟩) b):=fun b hb=>by
   refine zOa (key:=p.1) ?_;rw[show A++(p.1,p.2)::C=X from hX.symm];unfold qd.s2;refine zF (fun h2=>?_) fun h2=>?_
   ·exact zA (bad (by rw[hb,h2];rfl))
   ·refine zA (hk' () (l1++l2,some p) (fun q hq=>?_) (by rw[hl1];simp));rcases hJ q hq with h3|h3
    ·rw[hl1] at h3;rcases zgP.1 h3 with h3|h3
     ·exact .inl (zhF _ h3)
     ·rcases zgS.1 h3 with rfl|h3
      ·exact .inr (by rw[hb,h2];rfl)
      ·exact .inl (zg3 _ h3)
    ·exact .inr h3
  repeat refine zT ?_
  refine zE5 fun b1=>?_
  repeat refine zT ?_
  refine zKi (by omega) ?_
  repeat refine zT ?_
  refine zF (fun h2=>?_) fun h2=>?_
  ·exact zA (back true (by unfold zFi;rw[h2];rfl))
  repeat refine zT ?_
  refine zE5 fun b2=>?_
  repeat refine zT ?_
  exact zXw (by omega)<|zA (back _ (by unfold zFi;rw[h2];rfl))
def zRO(M:GM):List (List UInt8):=(zCe (M.map Prod.fst)).filter fun k=>!decide ((atM k M).1.length+(atM k M).2.length=0)
end
end
section
open Go Go.Sep Go.Sep.Bt
section
variable{B:World}{Γ Δ:List zB}{k:K}{l gm db st n:Nat}{M:GM}{dm:DM}{X:GX}{D:List (zx×Int)}{S:zo}{tag:zx}
def zAm(out:List zx)(t:zx):List zx:=if t∈out then out else out++[t]
def zF0(tag:zx)(L:List zx):List zx:=L.take ((L.findIdx? fun t=>decide (t=tag)).getD 0)
theorem zRP(L out:List zx):(L.foldl zAm out).length≤out.length+L.length:=by
 induction L generalizing out with
 | nil=>simp
 | cons t L ih=>
  have h1:=ih (zAm out t);have h2:(zAm out t).length≤out.length+1:=by unfold zAm;split <;> simp
  simp only[zhK,zgO];omega
def uF(r:Rec)(c:Claim):Int:=zBa r.cnt c.2.cnt r.home c.2.home
def zDV(r:Rec)(L:List Claim)(dm:DM):DM:=L.foldl (fun d c=>if uF r c≠0 then zGj d c.1 true else d) dm
def mvP(r:Rec)(_:List Claim×DM)(c:Claim):Bool:=decide (uF r c≠1)
def mvS(r:Rec)(x:List Claim×DM)(c:Claim):List Claim×DM:=if uF r c=0 then(x.1++[c],x.2) else if uF r c=2 then(x.1,zGj x.2 c.1 true) else x
def zBx(n:Nat)(S:zo)(key:List UInt8)(x:GM×DM):GM×DM :=
 (uH key ((zB2 (mvP (yt n S (bs key))) (mvS (yt n S (bs key))) ((atM key x.1).1,zDV (yt n S (bs key)) (atM key x.1).1 x.2) (atM key x.1).2).1.1,(zB2 (mvP (yt n S (bs key))) (mvS (yt n S (bs key))) ((atM key x.1).1,zDV (yt n S (bs key)) (atM key x.1).1 x.2) (atM key x.1).2).2) (zBA key x.1),
  (zB2 (mvP (yt n S (bs key))) (mvS (yt n S (bs key))) ((atM key x.1).1,zDV (yt n S (bs key)) (atM key x.1).1 x.2) (atM key x.1).2).1.2)
theorem zeL{ι:Type}{k:(World→Prop)→K}(Γ0:ι→List zB)(i:ι)(h:HG B Γ (k fun w=>∃i,Holds B (Γ0 i) w))[d:Drops Γ (Γ0 i)]:HG B Γ (yV k):=fun w hw=>⟨_,⟨i,hw.drops⟩,h w hw⟩
theorem zSz{ι:Type}{Γ0:ι→List zB}{α:Type}{a:Addr}{c:α→Value}{x:α}{k:α→K}(h0:∀i w,Holds B (Γ0 i) w→w.cell? a=some (c x))(h:HG B Γ (k x)):HG B Γ (LdS (fun w=>∃i,Holds B (Γ0 i) w) a c k):=fun w hw=>⟨x,fun w ⟨i,hi⟩=>h0 i w hi,h w hw⟩
theorem zeM{ι:Type}{Γ0:ι→List zB}(i:ι)(h:HG B Γ k)[d:Drops Γ (Γ0 i)]:HG B Γ (Sv (fun w=>∃i,Holds B (Γ0 i) w) k):=fun w hw=>⟨⟨i,hw.drops⟩,h w hw⟩
theorem zaG(a b c d:Int):zBa a b c d=0∨zBa a b c d=1∨zBa a b c d=2:=by
 unfold zBa;split
 ·exact .inr (.inl rfl)
 ·split
  ·exact .inl rfl
  ·exact .inr (.inr rfl)
abbrev zJ6(db:Nat)(d:DM):zB:=ex fun D:List (zx×Int)=>Sep.stars [pur ((∀t,d t=decide (0<(qj t D).getD 0))∧(D.map Prod.fst).Nodup),vv (kyS zQ) (Value.int .i64) db D]
theorem zPt{d:DM}(h:∀D,(∀t,d t=decide (0<(qj t D).getD 0))→(D.map Prod.fst).Nodup→HG B (vv (kyS zQ) (Value.int .i64) db D::Γ) k):HG B (zJ6 db d::Γ) k :=
 zCE fun D=>zBL<|zHK fun⟨h1,h2⟩=>h D h1 h2
theorem zMm{d:DM}{D:List (zx×Int)}(h1:∀t,d t=decide (0<(qj t D).getD 0))(h2:(D.map Prod.fst).Nodup)(h:HG B (zJ6 db d::Γ) k):HG B (vv (kyS zQ) (Value.int .i64) db D::Γ) k:=fun w hw=>by
 refine h w ?_;have h3:Holds B (Sep.stars [pur ((∀t,d t=decide (0<(qj t D).getD 0))∧(D.map Prod.fst).Nodup),vv (kyS zQ) (Value.int .i64) db D]::Γ) w:=Holds.flat.2 (Holds.pur.2 ⟨⟨h1,h2⟩,hw⟩);exact h3.imp fun g hg=>⟨D,hg⟩
abbrev zMn(gb:Nat)(ps:Sl)(L:List Claim):zB:=ex fun ls:Sl=>Sep.stars [blk gb (.cells [ls.val,ps.val].toArray zCK (0,0)),SlC vP 7 ls (L.flatMap clF)]
theorem zUZ{gb:Nat}{ps:Sl}{L:List Claim}(h:∀ls,HG B (blk gb (.cells [ls.val,ps.val].toArray zCK (0,0))::SlC vP 7 ls (L.flatMap clF)::Γ) k):HG B (zMn gb ps L::Γ) k :=
 zCE fun ls=>zBL (h ls)
theorem zRQ{gb:Nat}{ls ps:Sl}{L:List Claim}(h:HG B (zMn gb ps L::Γ) k):HG B (blk gb (.cells [ls.val,ps.val].toArray zCK (0,0))::SlC vP 7 ls (L.flatMap clF)::Γ) k :=
 zFu (zSd ls h)
theorem zPu(r:Rec)(x:List Claim×DM)(c:Claim):(mvS r x c).1.length≤x.1.length+1:=by
 unfold mvS
 repeat' split
 all_goals simp
theorem zRR(r:Rec):∀(L:List Claim) (x:List Claim×DM),(zB2 (mvP r) (mvS r) x L).1.1.length≤x.1.length+L.length∧(zB2 (mvP r) (mvS r) x L).2.length≤L.length
 | [],x=>by simp[zB2]
 | c::L,x=>by
  rw[zEL];have h1:=zRR r L (mvS r x c);have h2:=zPu r x c;refine⟨by simp only[zgO];omega,?_⟩;simp only;split
  ·simp;omega
  ·simp;exact h1.2
theorem zaH{s:Sl}{fv:Value}{Q:Sl→K}(h:HG B Γ (zXs Tryz.prog zm.call vP zKX 0 7 [(.int .i64 0),(.int .u64 0),(.int .u64 0),(.int .i64 0),(.string ⟨#[]⟩),(.int .i64 0),(.int .u64 0)] s fv Q)):HG B Γ (zL.call s fv Q):=fun w hw=>
 jU _ _ _ _ (h w hw)
theorem zX1{key:List UInt8}{N:Nat}{Q:K}(hk:key.length<1000000000)(hN:gsz M N)(hNl:N≤1000000)(h:HG B (vL l (zBx n S key (M,dm)).1 (zBx n S key (M,dm)).2::yM st n S::Γ) Q):
  HG B (vL l M dm::yM st n S::Γ) (qz.call (some ⟨l,0,none⟩) (some ⟨st,0,none⟩) (bs key) Q):=by
 refine fun w hw=>zHW _ _ _ _ _ ?_;refine hg hw ?_;clear hw w;unfold qz;refine zD fun l3=>?_
 repeat refine zT ?_
 refine yN l<|zUV fun gm db X D A g C hf hX=>?_;have hat:=zbX hX hf;rw[zPs] at hat;have hz:=zSv (k:=key) hN;rw[hat] at hz;simp only at hz;refine yN st<|zBi (k:=bs key) (by show key.length<_;omega) fun s hok=>?_;have hmv:zBx n S key (M,dm)=zBx n S key (M,dm):=rfl
 conv at hmv=>rhs;unfold zBx
 simp only[hat] at hmv;rw[hmv] at h;generalize yt n S (bs key)=r at *;refine zD fun g6=>?_;refine zD fun r7=>?_
 repeat refine zT ?_
 have hcl:∀c:Claim,zBa r.cnt c.2.cnt r.home c.2.home=uF r c:=fun c=>rfl;refine yw g.ls fun a1 a2 a3 a4=>?_;refine yw g.ps fun b1 b2 b3 b4=>?_;rw[zH _ 7 xW] at a1 b1;refine yN db<|zMm (d:=zDV r (g.line.take 0) dm) hf.doom hf.nd ?_;refine qH (α:=Int) (ι:=Nat) (fun x i=>x=(i:Int)∧i≤g.line.length)
  (fun x i=>zJ6 db (zDV r (g.line.take i) dm)::blk r7 (.cells (zDn r s).toArray zw (0,0))::blk g6 (.cells [.pointer (some ⟨g.b,0,none⟩)].toArray zAJ (0,0))::blk l3 (.cells [.pointer (some ⟨l,0,none⟩)].toArray zEA (0,0))::yM st n S::gL g (blk l (.cells [.map (some gm),.map (some db)].toArray zAi (0,0))::vv qE gV gm X::Sep.stars ((A++C).map gB)::Γ)) (fun x i=>g.line.length-i) 0 ⟨rfl,zgW _⟩ ?_|>fun h=>zA h
 rintro k' _ i ⟨rfl,hi⟩ hk';unfold qz.b1;refine zF (fun hb=>?_) fun hb=>?_
 ·have hil:i<g.line.length:=by simp only[zgH] at hb;omega
  have hge:g.line[i]?=some g.line[i]:=zgG hil;have htk:g.line.take (i+1)=g.line.take i++[g.line[i]]:=zgJ hil;generalize g.line[i]=c at hge htk;have hdm:zDV r (g.line.take (i+1)) dm=if uF r c≠0 then zGj (zDV r (g.line.take i) dm) c.1 true else zDV r (g.line.take i) dm:=by
   rw[htk];unfold zDV;rw[zhQ];rfl
  refine uT clF xW (fun w hw=>(zO (s:=g.ls) hw).1) hge<|zD fun c9=>?_
  repeat refine zT ?_
  refine zSn ?_;rw[hcl];unfold qz.s2;have h5:=hk' ((i:Int)+1) (i+1) ⟨by simp,hil⟩ (by omega);rw[hdm] at h5;refine zF (fun h0=>?_) fun h0=>?_
  ·rw[if_pos (by simpa using h0)] at h5;refine qc (zJ6 db (zDV r (g.line.take i) dm))<|zPt fun D1 hd1 hd2=>?_
   repeat refine zT ?_
   refine zSs (b:=db) (cel:=zQ) (a:=c.1) (v:=1) zDq rfl ?_ zRJ;refine zMm (zMl hd1) (zSx hd2)<|qJ ?_;exact zA h5
  ·rw[if_neg (by simpa using h0)] at h5;exact qJ<|zA h5
 have hil:i=g.line.length:=by simp only[zgF] at hb;omega
 rw[hil,zgQ];clear hk' hb hi hil;have hlen:=zRR r g.park (g.line,zDV r g.line dm);refine xg<|zeL (fun ls:Sl=>[blk g6 (.cells [.pointer (some ⟨g.b,0,none⟩)].toArray zAJ (0,0)),blk g.b (.cells [ls.val,g.ps.val].toArray zCK (0,0))]) g.ls ?_;refine zSz (x:=some ⟨g.b,0,none⟩) (fun ls w hw=>y9 (xZ (b:=g6) hw) rfl)<|zSz (x:=some ⟨g.b,0,none⟩) (fun ls w hw=>y9 (xZ (b:=g6) hw) rfl)<|uf<|zSz (x:=g.ps) (fun ls w hw=>?_) ?_
 ·rw[jD];exact y9 (xZ hw) rfl
 refine uL g.ls<|yN g.b ?_;refine zRQ<|zaH<|yN l3<|yN g6<|yN r7<|qc (zJ6 db (zDV r g.line dm))<|qc (zMn g.b g.ps g.line)<|uL g.ps<|zA (Δ:=SlC vP 7 g.ps (g.park.flatMap clF)::zMn g.b g.ps g.line::zJ6 db (zDV r g.line dm)::blk r7 (.cells (zDn r s).toArray zw (0,0))::blk g6 (.cells [.pointer (some ⟨g.b,0,none⟩)].toArray zAJ (0,0))::blk l3 (.cells [.pointer (some ⟨l,0,none⟩)].toArray zEA (0,0))::blk l (.cells [.map (some gm),.map (some db)].toArray zAi (0,0))::yM st n S::vv qE gV gm X::Sep.stars ((A++C).map gB)::Γ)<|zUS (γ:=List Claim×DM) (R:=fun x=>zMn g.b g.ps x.1::zJ6 db x.2::blk r7 (.cells (zDn r s).toArray zw (0,0))::blk g6 (.cells [.pointer (some ⟨g.b,0,none⟩)].toArray zAJ (0,0))::blk l3 (.cells [.pointer (some ⟨l,0,none⟩)].toArray zEA (0,0))::blk l (.cells [.map (some gm),.map (some db)].toArray zAi (0,0))::yM st n S::vv qE gV gm X::Sep.stars ((A++C).map gB)::Γ)
  (L:=g.park) (f:=clF) (mvP r) (mvS r) (g.line,zDV r g.line dm) (fun x C=>x.1.length+C.length≤2000000) (by simp only;omega) (fun x c C h=>by have:=zPu r x c;simp only[zgO] at h;omega) (fun s fv Q w h=>vY _ _ _ _ h) xW (by omega) (fun _=>rfl) rfl (by omega) (fun Ξ x c C2 q hc hIx hq=>?_) (fun ps' _=>?_)
 ·refine zEa<|fun w hw=>zGM _ _ _ _ _ _ ?_;refine hg hw ?_;clear hw w;unfold xH;refine zD fun c4=>?_
  repeat refine zT ?_
  refine zSn ?_;rw[hcl];have e1:mvP r x c=decide (uF r c≠1):=rfl;rw[e1] at hq;refine zF (fun h0=>?_) fun h0=>?_
  ·have h0':uF r c=0:=by simpa using h0
   rw[show mvS r x c=(x.1++[c],x.2) by unfold mvS;rw[if_pos h0']] at hq;refine qc (zMn g.b g.ps x.1)<|zUZ fun ls=>?_;refine yw ls fun d1 d2 d3 d4=>?_;rw[zH _ 7 xW] at d1;refine xg<|zBl [blk g.b (.cells [ls.val,g.ps.val].toArray zCK (0,0)),blk g6 (.cells [.pointer (some ⟨g.b,0,none⟩)].toArray zAJ (0,0)),blk c4 (.cells (clF c).toArray vP (0,0))] ?_
   repeat refine zT ?_
   refine zD fun t=>?_
   repeat refine zT ?_
   refine qp (s:=ls) (esz:=7) (us:=clF c) (zBM rfl) (by intro v hv;exact zKh [c] v (by simpa using hv)) (by simp only;omega) fun ls' _=>?_;rw[show x.1.flatMap clF++clF c=(x.1++[c]).flatMap clF by simp only[zge,zgi,zhn,zgy]]
   repeat refine zT ?_
   refine uL ls'<|yN g.b<|zRQ ?_;unfold xH.s1;exact zA hq
  ·have h0':¬uF r c=0:=by simpa using h0
   refine zF (fun h2=>?_) fun h2=>?_
   ·have h2':uF r c=2:=by simpa using h2
    rw[show mvS r x c=(x.1,zGj x.2 c.1 true) by unfold mvS;rw[if_neg h0',if_pos h2']] at hq;refine qc (zJ6 db x.2)<|zPt fun D1 hd1 hd2=>?_
    repeat refine zT ?_
    refine zSs (b:=db) (cel:=zQ) (a:=c.1) (v:=1) zDq rfl ?_ zRJ;refine zMm (zMl hd1) (zSx hd2) ?_;unfold xH.s1;exact zA hq
   ·have h2':¬uF r c=2:=by simpa using h2
    rw[show mvS r x c=x by unfold mvS;rw[if_neg h0',if_neg h2']] at hq;unfold xH.s1;exact zA hq
 ·generalize(zB2 (mvP r) (mvS r) (g.line,zDV r g.line dm) g.park)=y at *;obtain⟨⟨y1,y2⟩,y3⟩:=y;simp only at h hlen ⊢;refine qc (zMn g.b g.ps y1)<|zUZ fun ls'=>?_;refine zeM ls'<|uf ?_
  repeat refine zT ?_
  refine qc (zJ6 db y2)<|zPt fun D1 hd1 hd2=>?_;exact zA (Δ:=gL ⟨g.b,ls',ps',y1,y3⟩ (zFz l gm db X (A++C) D1 (yM st n S::Γ)))<|zRN hX rfl hf ⟨hd1,hd2⟩ h
end
end
section
open Go Go.Sep Go.Sep.Bt
theorem zbZ{M:GM}{k:List UInt8}{T:Nat}(h:∀p∈M,p.2.1.length+p.2.2.length≤T):(atM k M).1.length+(atM k M).2.length≤T:=by
 unfold atM;rcases zFE k M with⟨h1,_⟩|⟨j,v,_,h0,_,h1,_⟩
 ·rw[h1];simp
 ·rw[h1];exact h _ (zgx h0)
theorem zUa{M:GM}{k:List UInt8}{T:Nat}(h:∀p∈M,p.2.1.length+p.2.2.length≤T):∀p∈zBA k M,p.2.1.length+p.2.2.length≤T:=fun p hp=>by
 unfold zBA at hp;split at hp
 ·rcases zgP.1 hp with hp|hp
  ·exact h p hp
  ·rw[zgM.1 hp];simp
 ·exact h p hp
theorem zS0{M:GM}{k:List UInt8}{v:List Claim×List Claim}{T:Nat}(h:∀p∈M,p.2.1.length+p.2.2.length≤T)(hv:v.1.length+v.2.length≤T):∀p∈uH k v M,p.2.1.length+p.2.2.length≤T:=fun p hp=>by
 rcases zRK hp with rfl|hp
 ·exact hv
 ·exact h p hp
theorem zRS{M:GM}{k:List UInt8}:(zBA k M).length≤M.length+1:=by
 unfold zBA;split <;> simp
theorem zLK{M:GM}{T T':Nat}(h:∀p∈M,p.2.1.length+p.2.2.length≤T)(ht:T≤T'):∀p∈M,p.2.1.length+p.2.2.length≤T':=fun p hp=>zhW (h p hp) ht
theorem zX2{n:Nat}{S:zo}{tag:zx}{x:GM×DM}{m:zCT}{T:Nat}(hl:x.1.length≤T)(h:∀p∈x.1,p.2.1.length+p.2.2.length≤T):(zA3 n S tag x m).1.length≤T+1∧∀p∈(zA3 n S tag x m).1,p.2.1.length+p.2.2.length≤T+1:=by
 have g1:(zBA m.key x.1).length≤T+1:=zhW zRS (by omega);have g2:=zLK (zUa (k:=m.key) h) (Nat.le_succ T);have g3:=zbZ (k:=m.key) h;unfold zA3;split
 ·exact⟨g1,g2⟩
 split
 ·exact⟨by rw[zIC zE3];exact g1,zS0 g2 (by simp only[zgK,zgO,zgl];omega)⟩
 split
 ·exact⟨by rw[zIC zE3];exact g1,zS0 g2 (by simp only[zgK,zgO,zgl];omega)⟩
 ·exact⟨g1,g2⟩
theorem zKj{n:Nat}{S:zo}{tag:zx}:∀(L:List zCT) {x:GM×DM} {T:Nat},x.1.length≤T→(∀p∈x.1,p.2.1.length+p.2.2.length≤T)→(zBO n S tag L x).1.length≤T+L.length∧∀p∈(zBO n S tag L x).1,p.2.1.length+p.2.2.length≤T+L.length
 | [],x,T,h1,h2=>⟨h1,h2⟩
 | m::L,x,T,h1,h2=>by
  obtain⟨a1,a2⟩:=zX2 (n:=n) (S:=S) (tag:=tag) (m:=m) h1 h2;obtain⟨b1,b2⟩:=zKj (n:=n) (S:=S) (tag:=tag) L a1 a2;rw[zgO];exact⟨by show(zBO n S tag L (zA3 n S tag x m)).1.length≤_;omega,zLK (T:=T+1+L.length) b2 (by omega)⟩
theorem zRT(r:Rec):∀(L:List Claim) (x:List Claim×DM),(zB2 (mvP r) (mvS r) x L).1.1.length+(zB2 (mvP r) (mvS r) x L).2.length≤x.1.length+L.length
 | [],x=>by simp[zB2]
 | c::L,x=>by
  rw[zEL];have h1:=zRT r L (mvS r x c);simp only[zgO];by_cases h0:uF r c=1
  ·rw[show mvP r x c=false by simp[mvP,h0]];rw[show mvS r x c=x by simp[mvS,h0]] at h1 ⊢;simp only[zgc,zhG,zgO];omega
  ·rw[show mvP r x c=true by simp[mvP,h0]];have h2:=zPu r x c;simp only[zhX];omega
theorem zRU{n:Nat}{S:zo}{key:List UInt8}{x:GM×DM}{T:Nat}(hl:x.1.length≤T)(h:∀p∈x.1,p.2.1.length+p.2.2.length≤T):(zBx n S key x).1.length≤T+1∧∀p∈(zBx n S key x).1,p.2.1.length+p.2.2.length≤T:=by
 have g1:(zBA key x.1).length≤T+1:=zhW zRS (by omega);have g3:=zbZ (k:=key) h;unfold zBx;refine⟨by simp only;rw[zIC zE3];exact g1,zS0 (zUa h) ?_⟩;have:=zRT (yt n S (bs key)) (atM key x.1).2 ((atM key x.1).1,zDV (yt n S (bs key)) (atM key x.1).1 x.2);simp only at this ⊢;omega
theorem zRV{tag:zx}{x:GM×DM}{T:Nat}(hl:x.1.length≤T)(h:∀p∈x.1,p.2.1.length+p.2.2.length≤T):(uE tag x).1.length≤T∧∀p∈(uE tag x).1,p.2.1.length+p.2.2.length≤T:=by
 refine⟨by simpa[uE] using hl,fun p hp=>?_⟩;obtain⟨q,hq,rfl⟩:=zgV.1 hp;have h1:=h q hq;have h2:(noT tag q.2.1).length≤q.2.1.length:=zgr _ _;have h3:(noT tag q.2.2).length≤q.2.2.length:=zgr _ _;simp only;omega
end
section
open Go Go.Sep
structure OpM where
 kind:Int
 key:List UInt8
 val:List UInt8
 n:Int
deriving DecidableEq
abbrev OpX:=OpM×Sl
abbrev opF(x:OpX):List Value:=[.int .i64 x.1.kind,qE x.1.key,x.2.val,.int .i64 x.1.n]
theorem zAs(x:OpX):(opF x).length=4:=rfl
structure TxX where
 kind:Int
 reads:List (List UInt8)
 writes:List (List UInt8)
 ops:List OpX
 to:Int
 rs:Sl
 ws:Sl
 os:Sl
abbrev txL(t:TxX):List Value:=[.int .i64 t.kind,t.rs.val,t.ws.val,t.os.val,.int .i64 t.to]
def zAn(w:World)(t:TxX):Prop:=RdC w t.rs 1 (t.reads.map qE)∧RdC w t.ws 1 (t.writes.map qE)∧RdC w t.os 4 (t.ops.flatMap opF)∧∀x∈t.ops,RdB w x.2 x.1.val
end
section
open Go Go.Sep
abbrev OX:=List ((Bool×List UInt8)×Sl)
def oF(x:(Bool×List UInt8)×Sl):List Value:=[.bool x.1.1,x.2.val]
theorem zDr(x:(Bool×List UInt8)×Sl):(oF x).length=2:=rfl
abbrev oB(x:(Bool×List UInt8)×Sl):zB:=Bytes qO x.2 x.1.2
end
section
open Go Go.Sep
theorem zeN:zFw Tryz.prog zAX .string zw:=⟨9,by kernel_rfl,by kernel_rfl⟩
section
variable{B w:World}{Γ:List zB}{β:Type}{cV:β→Value}
theorem zHX{mb t1:Nat}{m:List (List UInt8×β)}{k:Sl→K}(hm:m.length≤1000000)(h:Holds B (blk t1 (.cells #[.map (some mb)] zAX (0,0))::vv qE cV mb m::Γ) w)
  (hk:∀s ss w,ss.Perm (m.map Prod.fst)→Holds B (SlS s ss::vv qE cV mb m::Γ) w→k s w):jN.call (.func (.func 287) #[] #[.pointer (some ⟨t1,0,none⟩)]) k w:=by
 refine zFf _ _ _ ?_;unfold jN;refine zC7 _ _ _ _ ?_;unfold vR;refine zQX h ?_;clear h;intro s2 w h
 try simp only[jD,zg8,Nat.reduceAdd]
 refine zWo h rfl (by kernel_rfl) fun D l r w hr1 hr2 h hy=>?_;refine zWp (zAx (yv l) ⟨t1,0,none⟩ (fun w3=>∃Δ,Holds B (blk l (.loop r)::Δ) w3∧∀w,Holds B Δ w→(Ld ⟨s2,0,none⟩ Sl.val fun t12=>zAp D (k t12)) w) w ?_) fun v w h=>h.2;unfold z8;refine zbo (x:=(some mb)) h rfl (by first|with_reducible exact M0|with_reducible exact M1|with_reducible exact M2|with_reducible exact M3|with_reducible exact M4|with_reducible exact M5|with_reducible exact M6|with_reducible exact M7|with_reducible exact M8|with_reducible exact M9|with_reducible exact M10|with_reducible exact M11|with_reducible exact M12) ?_ ?_
 ·exact rfl
 replace h:=P3 h;replace h:=P3 h;replace h:=P3 h;replace h:=P3 h;replace h:=P4 h
 try simp only[N1,N2,N3,N4,N5,N6,N7] at h
 refine zUK zeN h fun r2 w h=>?_;replace h:=h.del 4 at4
 try simp only[N1,N2,N3,N4,N5,N6,N7] at h
 have h0:=(h.ji yO 1)
 refine zq.of (fun _ w=>∃(o:Sl) (ss:List (List UInt8)) (left:List (List UInt8×β)) (cur:Option (List UInt8×β)),(ss++left.map Prod.fst).Perm (m.map Prod.fst) ∧
   Holds B (blk l (.loop r)::blk D (.deferred (some []))::blk s2 (.cells #[o.val] zAg (0,0))::SlS o ss::zA9 qE cV mb r2 m left cur::Γ) w)
  (fun _ w=>zPn r2 m.length w) ⟨⟨none,0,0⟩,[],m,none,List.Perm.refl _,?_⟩ ?_
 ·replace h:=h0;replace h:=P1 h;replace h:=P1 h;replace h:=P4 h;replace h:=P4 h;replace h:=P4 h
  try simp only[N1,N2,N3,N4,N5,N6,N7] at h
  exact h
 clear h h0;rintro _ w ⟨o,ss,left,cur,hperm,h⟩;have hcnt:=zRB (h.pick 4 at4);have hlen:=hperm.length_eq;simp only[zgK,zgL] at hlen;unfold z8.b1;replace h:=P3 h;replace h:=P3 h;replace h:=P3 h;replace h:=P3 h;replace h:=P4 h
 try simp only[N1,N2,N3,N4,N5,N6,N7] at h
 refine zXp h (fun hl0 w h=>?_) (fun l1 p l2 w hl1 hpm h=>?_)
 ·refine⟨_,false,rfl,rfl,?_⟩;refine zO9 rfl ?_;replace h:=P4 h;replace h:=P4 h;replace h:=P4 h;replace h:=P4 h
  try simp only[N1,N2,N3,N4,N5,N6,N7] at h
  refine⟨_,h,fun w h=>?_⟩;refine zbo (x:=o) h rfl (by first|with_reducible exact M0|with_reducible exact M1|with_reducible exact M2|with_reducible exact M3|with_reducible exact M4|with_reducible exact M5|with_reducible exact M6|with_reducible exact M7|with_reducible exact M8|with_reducible exact M9|with_reducible exact M10|with_reducible exact M11|with_reducible exact M12) ?_ ?_
  ·exact rfl
  refine zZV h fun w h=>?_;replace h:=P2 h;replace h:=P2 h;replace h:=D2 h
  try simp only[N1,N2,N3,N4,N5,N6,N7] at h
  rw[hl0] at hperm;simp only[zhp,zgy] at hperm;exact hk o ss _ hperm h
 ·refine⟨_,true,rfl,rfl,?_⟩;refine zTt rfl ?_;refine zUL h ?_;refine⟨_,bs p.1,rfl,rfl,?_⟩;replace h:=P4 h;replace h:=P4 h;replace h:=P4 h;replace h:=P4 h
  try simp only[N1,N2,N3,N4,N5,N6,N7] at h
  refine zSR (hy (bs p.1) (fun w=>∃o',Holds B (blk l (.loop r)::blk D (.deferred (some []))::blk s2 (.cells #[Sl.val o'] zAg (0,0))::SlS o' (ss++[p.1])::zA9 qE cV mb r2 m (l1++l2) (some p)::Γ) w) w _ h fun W h=>?_) fun v w hv=>?_
  ·have hon:ss.length=o.n:=by have:=(h.pick 3 at3).zMS.1;simpa using this
   refine zbo (x:=o) h rfl (by first|with_reducible exact M0|with_reducible exact M1|with_reducible exact M2|with_reducible exact M3|with_reducible exact M4|with_reducible exact M5|with_reducible exact M6|with_reducible exact M7|with_reducible exact M8|with_reducible exact M9|with_reducible exact M10|with_reducible exact M11|with_reducible exact M12) ?_ ?_
   ·exact rfl
   refine zQX h ?_;clear h;intro t10 w h
   try simp only[jD,zg8,Nat.reduceAdd]
   refine zHG (us:=[qE p.1]) (h.pick 4 at4) (by kernel_rfl) (by kernel_rfl) (by':=16) (by kernel_rfl) zMP rfl (RdC.zGF (E:=yO) (b:=t10) (n:=1) (vs:=[qE p.1]) (cs:=#[qE p.1]) h zgN rfl rfl 1) (by simp[qD]) (by simp only;omega) (by decide) fun o' w h _ _=>?_
   try simp only[N1,N2,N3,N4,N5,N6,N7] at h
   first|refine S0 h rfl ?_ rfl ?_|refine S1 h rfl ?_ rfl ?_|refine S2 h rfl ?_ rfl ?_|refine S3 h rfl ?_ rfl ?_|refine S4 h rfl ?_ rfl ?_|refine S5 h rfl ?_ rfl ?_|refine S6 h rfl ?_ rfl ?_|refine S7 h rfl ?_ rfl ?_|refine S8 h rfl ?_ rfl ?_
   ·first|exact Nat.lt_of_ble_eq_true rfl|(simp;done)|(simp;omega)
   clear h;intro w h
   try simp only[N1,N2,N3,N4,N5,N6,N7] at h
   replace h:=P5 h;replace h:=P1 h;replace h:=P5 h;replace h:=P5 h;replace h:=P5 h;replace h:=D5 h
   try simp only[N1,N2,N3,N4,N5,N6,N7] at h
   refine zbq h fun w h=>?_;have e:({ ({ r with state:=.busy }:Loop) with state:=.ready,pending:=none }:Loop)=r:=by
    cases r
    simp only at hr1 hr2;simp only[hr1,hr2]
   rw[e] at h;refine⟨o',?_⟩;have e2:ss.map qE++[qE p.1]=(ss++[p.1]).map qE:=by simp
   rw[e2] at h;exact h
  ·obtain⟨rfl,o',h⟩:=hv;refine⟨true,rfl,?_⟩;refine zO9 rfl ?_;have hcnt2:=zRB (h.pick 4 at4);refine⟨⟨o',_,_,_,?_,h⟩,?_⟩
   ·refine List.Perm.trans ?_ hperm;rw[hl1];simp only[zgT,zgd,zg9];refine List.Perm.append_left _ ?_;show(p.1::(l1.map Prod.fst++l2.map Prod.fst)).Perm _;exact List.perm_middle.symm
   ·rw[hcnt,hcnt2,hl1];simp
theorem zJ7{mb:Nat}{m:List (List UInt8×β)}{k:Sl→K}(hm:m.length≤1000000)(h:Holds B (vv qE cV mb m::Γ) w)
  (hk:∀s w,Holds B (SlS s (zCe (m.map Prod.fst))::vv qE cV mb m::Γ) w→k s w) :
  yZ.call (some mb) (fun t7=>jh.call t7 k) w:=by
 refine zA2 _ _ _ ?_;unfold yZ;refine zQX h ?_;clear h;intro m1 w h
 try simp only[jD,zg8,Nat.reduceAdd]
 refine zFv _ _ _ ?_;unfold jh;refine zHX hm h fun s ss w hp h=>?_;have hl:=hp.length_eq;rw[zgL] at hl;refine zFy (by omega) h fun w h=>?_;rw[zMh hp] at h;exact hk _ _ h
end
end
section
open Go Go.Sep
section
variable{B w:World}{Γ:List zB}
theorem Bytes.len{s:Sl}{xs:List UInt8}(h:Holds B (Bytes qO s xs::Γ) w):xs.length=s.n:=by have:=h.zMS.1;simpa using this
theorem Bytes.rd{s:Sl}{xs:List UInt8}(h:Holds B Γ w)(hm:Bytes qO s xs∈Γ):RdB w s xs:=h.rdC (E:=qO) hm
end
end
section
open Go Go.Sep
def zfm(xs:List UInt8):Nat:=xs.foldl (fun n b=>n*256+b.toNat) 0
section
variable{B w:World}{Γ:List zB}
end
end
section
open Go Go.Sep
section
variable{B w:World}{Γ:List zB}
end
end
section
open Go Go.Sep
def u8(n:Nat):UInt8:=UInt8.ofNat n
theorem u8N(n:Nat):(u8 n).toNat=n%256:=by simp[u8,UInt8.toNat_ofNat']
theorem zX3(n:Nat):IntKind.wrap .u8 (n:Int)=((u8 n).toNat:Int):=by
 rw[u8N];unfold IntKind.wrap;simp[IntKind.bits,IntKind.signed]
end
section
open Go Go.Sep
def zeO(u i:Nat):List UInt8:=(List.range 8).map fun j=>if 8≤j+i then u8 (u / 256^(7-j)) else 0
def uOf(n:Int):Nat:=(IntKind.wrap .u64 n).toNat
section
variable{B w:World}{Γ:List zB}
end
end
section
open Go Go.Sep Go.Sep.Bt
abbrev WX:=List (List UInt8×(Rec×Sl))
abbrev wV(x:Rec×Sl):Value:=.agg (zLY x.1 x.2)
abbrev wB(p:List UInt8×(Rec×Sl)):zB:=Bytes qO p.2.2 p.2.1.val
abbrev zJH(rb st mb:Nat)(os:Sl)(X:WX)(O:OX)(Γ:List zB):List zB :=
 blk rb (.cells [.pointer (some ⟨st,0,none⟩),.map (some mb),os.val].toArray zEW (0,0))::vv qE wV mb X::Sep.stars (X.map wB)::SlC qA 2 os (O.flatMap oF)::Sep.stars (O.map oB)::Γ
theorem zS1:zFw Tryz.prog zAX .string zw:=⟨9,by kernel_rfl,by kernel_rfl⟩
abbrev zeP:Rec×Sl:=(⟨false,[],0,0⟩,⟨none,0,0⟩)
theorem zUb:zCD Tryz.prog zw (wV zeP):=zI6
def jy(n:Nat)(M:zo)(W:List (List UInt8×Rec))(k:List UInt8):Rec:=(qj k W).getD (yt n M (bs k))
abbrev zA4(X:WX):List (List UInt8×Rec):=X.map fun p=>(p.1,p.2.1)
section
variable{B:World}{Γ Δ:List zB}{rb st mb n:Nat}{os:Sl}{X:WX}{O:OX}{M:zo}{k:List UInt8}
theorem zOc{α:Type}{F:α→zB}{l:List α}{x:α}{w:World}(hx:x∈l)(h:Holds B (Sep.stars (l.map F)::Γ) w):∃Δ,Holds B (F x::Δ) w:=by
 obtain⟨A,C,rfl⟩:=zhf hx;exact⟨_,((Holds.flat.1 h).perm zHL).perm zhq⟩
theorem zS2{E:Nat}{w:World}{s:Sl}{xs:List UInt8}(h:Holds B (Bytes E s xs::Γ) w):RdB w s xs:=h.rdC zgN
theorem zVh{Q:Array Value→K}(hk:k.length<1000000000000)(hX:∀p∈X,p.2.1.ok)
  (hin:∀r s,qj k X=some (r,s)→r.ok→(∀w,Holds B (zJH rb st mb os X O (yM st n M::Γ)) w→RdB w s r.val)→HG B (zJH rb st mb os X O (yM st n M::Γ)) (Q (zLY r s)))
  (hout:qj k X=none→∀s,(yt n M (bs k)).ok→HG B (Bytes qO s (yt n M (bs k)).val::zJH rb st mb os X O (yM st n M::Γ)) (Q (zLY (yt n M (bs k)) s))) :
  HG B (zJH rb st mb os X O (yM st n M::Γ)) (zBZ.call (some ⟨rb,0,none⟩) (bs k) Q):=fun w hw=>by
 refine zLb _ _ _ _<|hg hw<|zD fun t4=>?_;refine uf<|zh<|zZ9 (b:=mb) (enc:=qE) (cV:=wV) (a:=k) (fun _=>rfl) zS1 zHS zUb<|zD fun x5=>?_;cases hm:qj k X with
 | some p=>
  obtain⟨r,s⟩:=p;have hmem:=zFx hm;have hok:=hX _ hmem;refine yX<|s_t<|yC ?_;refine yX<|yC<|zA (Δ:=zJH rb st mb os X O (yM st n M::Γ))<|hin r s hm hok fun w hw=>?_;obtain⟨Δ,h1⟩:=zOc hmem (hw.tail.tail);exact zS2 h1
 | none=>
  refine yX<|s_f<|zh<|yN st<|zBi (by simpa[ByteArray.size] using hk) fun s hok=>?_;exact yX<|yC<|zA (hout hm s hok)
end
def OpM.ok(o:OpM):Prop:=o.key.length<1000000000000∧o.val.length≤1000000000∧-9223372036854775808≤o.n∧o.n≤9223372036854775807
abbrev WM:=List (List UInt8×Rec)
abbrev OM:=List (Bool×List UInt8)
def numOf(v:List UInt8):Int:=IntKind.wrap .i64 (zfm v:Int)
abbrev valOf(n:Int):List UInt8:=zeO (uOf n) 8
def zUc(a b:Int):Bool:=decide (0<b∧9223372036854775807-b<a∨b<0∧a < -9223372036854775808-b)
def setW(n:Nat)(M:zo)(W:WM)(k:List UInt8)(has:Bool)(val:List UInt8):WM:=uH k { jy n M W k with has:=has,val:=val } W
def zNt(n:Nat)(M:zo)(W:WM)(k:List UInt8)(d:Int):WM×Int :=
 if(jy n M W k).has=true∧(jy n M W k).val.length≠8 then(W,110) else
 if zUc (if(jy n M W k).has then numOf (jy n M W k).val else 0) d then(W,111) else
 (setW n M W k true (valOf ((if(jy n M W k).has then numOf (jy n M W k).val else 0)+d)),0)
def stepW(n:Nat)(M:zo)(W:WM)(O:OM)(o:OpM):WM×OM×Int :=
 if o.kind=1 then(W,O++[((jy n M W o.key).has,(jy n M W o.key).val)],0) else
 if o.kind=7 then(W,O++[(true,o.val)],0) else
 if o.kind=2 then(setW n M W o.key true o.val,O,0) else
 if o.kind=3 then(setW n M W o.key false [],O,0) else
 if o.kind=4 then(W,O,if(jy n M W o.key).has=true∧(jy n M W o.key).val=o.val then 0 else 110) else
 if o.kind=5 then(W,O,if(jy n M W o.key).has then 110 else 0) else
 if o.kind=6 then((zNt n M W o.key o.n).1,O,(zNt n M W o.key o.n).2) else(W,O,0)
section
variable{B:World}{Γ Δ:List zB}{rb st mb n:Nat}{os:Sl}{X:WX}{O:OX}{M:zo}{k:List UInt8}
theorem zX4{r:Rec}{s:Sl}:zA4 (uH k (r,s) X)=uH k r (zA4 X):=(zQ7 (fun p:Rec×Sl=>p.1) k (r,s) X).symm
theorem zaI{r:Rec}{s:Sl}(hX:∀p∈X,p.2.1.ok)(hr:r.ok):∀p∈uH k (r,s) X,p.2.1.ok:=fun p hp=>by
 rcases zFE k X with⟨_,h2,_,_⟩|⟨j,x,hj,h0,_,_,h2,_⟩
 ·rw[h2] at hp;rcases zgP.1 hp with hp|hp
  ·exact hX p hp
  ·rw[zgM.1 hp];exact hr
 ·rw[h2] at hp;rcases zh3 hp with hp|rfl
  ·exact hX p hp
  ·exact hr
end
end
section
open Go Go.Sep Go.Sep.Bt
def zeQ(t:TxX):Prop:=(∀k∈t.writes,k.length<1000000000000)∧(∀x∈t.ops,x.1.ok)∧t.ops.length<1000000∧t.writes.length<1000000∧t.reads.length<1000000∧∀k∈t.reads,k.length<1000000000000
def zEc(n:Nat)(M:zo)(to:Int):List (List UInt8)→WM→WM×Int
 | [],W=>(W,0)
 | k::ks,W=>if(jy n M W k).cnt=18446744073709551615 then(W,111) else zEc n M to ks (uH k { jy n M W k with home:=to,cnt:=(jy n M W k).cnt+1 } W)
theorem zEM{n:Nat}{M:zo}{to:Int}{k:List UInt8}{ks:List (List UInt8)}{W:WM}:zEc n M to (k::ks) W=if(jy n M W k).cnt=18446744073709551615 then(W,111) else zEc n M to ks (uH k { jy n M W k with home:=to,cnt:=(jy n M W k).cnt+1 } W):=rfl
theorem zID{n:Nat}{M:zo}{to:Int}{W:WM}:zEc n M to [] W=(W,0):=rfl
def zJI(n:Nat)(M:zo):List OpX→WM→OM→WM×OM×Int
 | [],W,O=>(W,O,0)
 | x::xs,W,O=>if(stepW n M W O x.1).2.2≠0 then stepW n M W O x.1 else zJI n M xs (stepW n M W O x.1).1 (stepW n M W O x.1).2.1
def jV(n:Nat)(M:zo)(t:TxX):WM×OM×Int :=
 if t.kind=2 then((zEc n M t.to t.writes []).1,[],(zEc n M t.to t.writes []).2) else zJI n M t.ops [] []
section
variable{B:World}{Γ Δ:List zB}{rb st mb n:Nat}{os:Sl}{X:WX}{O:OX}{M:zo}{k:List UInt8}
theorem zIE{r r':Rec}{s:Sl}(hm:qj k X=some (r,s))(hv:r'.val=r.val):(uH k (r',s) X).map wB=X.map wB:=by
 rcases zFE k X with⟨h1,_⟩|⟨j,x,hj,h0,_,h1,h2,_⟩
 ·rw[h1] at hm;cases hm
 ·rw[h1] at hm;injection hm with hm
  subst hm;rw[h2,zh8];apply zhV;intro i;rw[List.getElem?_set];split
  ·rename_i h3;subst h3;simp only[zgk,h0,zg1,zgL,hj,zhX];show some (Bytes qO s r'.val)=some (Bytes qO s r.val);rw[hv]
  ·rfl
theorem zS3{Q:Int→K}{t:TxX}(hX:∀p∈X,p.2.1.ok)(htx:zeQ t)(ht:∀w,Holds B Γ w→RdC w t.ws 1 (t.writes.map qE))
  (h:∀X',zA4 X'=(zEc n M t.to t.writes (zA4 X)).1→(∀p∈X',p.2.1.ok)→HG B (zJH rb st mb os X' O (yM st n M::Γ)) (Q (zEc n M t.to t.writes (zA4 X)).2)) :
  HG B (zJH rb st mb os X O (yM st n M::Γ)) (j6.call (some ⟨rb,0,none⟩) (txL t).toArray Q):=fun w hw=>by
 refine zKg _ _ _ _ ?_;have hlen:t.ws.n=t.writes.length:=by have:=(ht w hw.drops).len;simpa using this.symm
 refine hg hw ?_;clear hw w;unfold j6;refine zD fun t3=>?_;refine zh (b:=t3) (x:=t.ws) ?_;refine zA (Δ:=zJH rb st mb os X O (yM st n M::blk t3 (.cells (txL t).toArray zn (0,0))::Γ)) ?_;refine qH (α:=Int) (ι:=WX×Nat) (fun x i=>x=(i.2:Int)∧i.2≤t.writes.length∧(∀p∈i.1,p.2.1.ok)∧zEc n M t.to (t.writes.drop i.2) (zA4 i.1)=zEc n M t.to t.writes (zA4 X))
  (fun x i=>zJH rb st mb os i.1 O (yM st n M::blk t3 (.cells (txL t).toArray zn (0,0))::Γ)) (fun x i=>t.writes.length-i.2) (X,0) ⟨rfl,zgW _,hX,rfl⟩ ?_
 rintro k' _ ⟨X1,j⟩ ⟨rfl,hj,hX1,he⟩ hk';simp only at hj hX1 he hk' ⊢;unfold j6.b1;refine zF (fun hb=>?_) fun hb=>?_
 ·have hjl:j<t.writes.length:=by simp only[zgH] at hb;omega
  have hd:t.writes.drop j=t.writes[j]::t.writes.drop (j+1):=zgj hjl;have hkl:t.writes[j].length<1000000000000:=htx.1 _ (zgX hjl);have hge:t.writes[j]?=some t.writes[j]:=zgG hjl;rw[hd] at he;generalize t.writes[j]=key at he hkl hge;refine u7 (L:=t.writes) (fun w hw=>ht w hw.drops) hge ?_;have hmg:qj key (zA4 X1)=(qj key X1).map (·.1):=zJz _ _ _;rw[zEM] at he;have rest:∀(r:Rec) (s:Sl) (A:zB),r=jy n M (zA4 X1) key→r.ok→(∀r':Rec,r'.val=r.val→∀q:K,HG B (Sep.stars ((uH key (r',s) X1).map wB)::blk rb (.cells [.pointer (some ⟨st,0,none⟩),.map (some mb),os.val].toArray zEW (0,0))::vv qE wV mb (uH key (r',s) X1)::SlC qA 2 os (O.flatMap oF)::Sep.stars (O.map oB)::yM st n M::blk t3 (.cells (txL t).toArray zn (0,0))::Γ) q→HG B (A::Sep.stars (X1.map wB)::blk rb (.cells [.pointer (some ⟨st,0,none⟩),.map (some mb),os.val].toArray zEW (0,0))::vv qE wV mb (uH key (r',s) X1)::SlC qA 2 os (O.flatMap oF)::Sep.stars (O.map oB)::yM st n M::blk t3 (.cells (txL t).toArray zn (0,0))::Γ) q) →
    HG B (A::zJH rb st mb os X1 O (yM st n M::blk t3 (.cells (txL t).toArray zn (0,0))::Γ)) ((fun t17=>New zw [.bool false,Sl.val ⟨none,0,0⟩,.int .i64 0,.int .u64 0].toArray fun x7=>
  StN x7 4 t17<|
  Ld (x7.add 3) (Value.int .u64) fun t19=>
  Ite (decide (t19=18446744073709551615))
   (Q 111)
   (Ld ((⟨t3,0,none⟩:Addr).add 4) (Value.int .i64) fun t22=>
   St (x7.add 2) (.int .i64 t22)<|
   Ld (x7.add 3) (Value.int .u64) fun t25=>
   Ar (IntKind.wrap .u64 (t25+1)) fun t26=>
   St (x7.add 3) (.int .u64 t26)<|
   Dr<|
   Nn (some ⟨rb,0,none⟩) fun t29=>
   Ld (t29.add 1) Value.map fun t31=>
   LdN x7 4 fun t33=>
   DoU Tryz.prog (Instr.mapUpdate zAX (.map t31) (.string (bs key)) (.agg t33))<|
   Ar (IntKind.wrap .i64 ((j:Int)+1)) fun t34=>
   k' t34)) (zLY r s)):=fun r s A hr hok hA=>by
   subst hr;dsimp only;refine zD fun x7=>?_;refine yX (b:=x7) (l':=zDn (jy n M (zA4 X1) key) s) ?_;refine zh (b:=x7) (x:=(jy n M (zA4 X1) key).cnt) ?_;refine zF (fun hc=>?_) fun hc=>?_
   ·rw[if_pos (by simpa using hc)] at he;have:=h X1 (by rw[←he]) hX1;rw[←he] at this;exact zA this
   ·have hc':¬(jy n M (zA4 X1) key).cnt=18446744073709551615:=by simpa using hc
    rw[if_neg hc'] at he;refine zh (b:=t3) (x:=t.to) ?_;refine zCN (b:=x7) ?_;refine zh (b:=x7) (x:=(jy n M (zA4 X1) key).cnt) ?_;obtain⟨o1,o2,o3⟩:=hok;refine zAw (zCk (by omega) (by omega)) ?_;refine zCN (b:=x7) ?_;refine xg ?_;refine uf ?_;refine zh (b:=rb) (x:=some mb) ?_;refine yC (b:=x7) (l':=zDn { jy n M (zA4 X1) key with home:=t.to,cnt:=(jy n M (zA4 X1) key).cnt+1 } s) ?_;refine zbV (b:=mb) (enc:=qE) (cV:=wV) (v:=(({ jy n M (zA4 X1) key with home:=t.to,cnt:=(jy n M (zA4 X1) key).cnt+1 }:Rec),s)) (cG:=Value.agg) rfl zS1 zHS ?_;have hwl:=htx.2.2.2.1;refine qJ ?_;refine zA (Δ:=A::Sep.stars (X1.map wB)::blk rb (.cells [.pointer (some ⟨st,0,none⟩),.map (some mb),os.val].toArray zEW (0,0))::vv qE wV mb (uH key ({ jy n M (zA4 X1) key with home:=t.to,cnt:=(jy n M (zA4 X1) key).cnt+1 },s) X1)::SlC qA 2 os (O.flatMap oF)::Sep.stars (O.map oB)::yM st n M::blk t3 (.cells (txL t).toArray zn (0,0))::Γ) ?_;refine hA { jy n M (zA4 X1) key with home:=t.to,cnt:=(jy n M (zA4 X1) key).cnt+1 } rfl _ ?_;refine zA (Δ:=zJH rb st mb os (uH key ({ jy n M (zA4 X1) key with home:=t.to,cnt:=(jy n M (zA4 X1) key).cnt+1 },s) X1) O (yM st n M::blk t3 (.cells (txL t).toArray zn (0,0))::Γ)) ?_;refine hk' _ (uH key ({ jy n M (zA4 X1) key with home:=t.to,cnt:=(jy n M (zA4 X1) key).cnt+1 },s) X1,j+1) ⟨by simp,hjl,zaI hX1 ⟨by simp only;omega,by simp only;omega,o3⟩,?_⟩ (by simp only;omega);simp only;rw[zX4];exact he
  refine zVh hkl hX1 (fun r s hm hok hrd=>?_) fun hm s hok=>?_
  ·refine fun w hw=>?_;refine hg (show Holds B (pur True::_) w from Holds.pur.2 ⟨trivial,hw⟩) ?_;clear hw w;refine rest r s _ (by unfold jy;rw[hmg,hm];rfl) hok fun r' hr' q hq=>?_;rw[zIE hm hr'] at hq;exact zA hq
  ·refine rest _ s _ (by unfold jy;rw[hmg,hm];rfl) hok fun r' hr' q hq=>?_;rw[show Bytes qO s (yt n M (bs key)).val=wB (key,(r',s)) by show _=Bytes qO s r'.val;rw[hr']];exact zce hq
 ·have hjl:j=t.writes.length:=by simp only[zgF] at hb;omega
  rw[hjl,zhx,zID] at he;have:=h X1 (by rw[←he]) hX1;rw[←he] at this;exact zA this
end
def zDK(x:List UInt8×(Rec×Sl)):List Value:=qE x.1::zDn x.2.1 x.2.2
theorem zJ8(x:List UInt8×(Rec×Sl)):(zDK x).length=5:=rfl
def zHY{ν:Type}(W:List (List UInt8×ν)):List (List UInt8×ν):=W.mergeSort fun p q=>decide (p.1≤q.1)
theorem zS4{ν:Type}(W:List (List UInt8×ν)):(zHY W).map Prod.fst=zCe (W.map Prod.fst):=List.map_mergeSort (fun a _ b _=>rfl)
theorem zVi(X:WX):zA4 (zHY X)=zHY (zA4 X):=List.map_mergeSort (fun a _ b _=>rfl)
theorem zEN{ν:Type}(W:List (List UInt8×ν)):(zHY W).Perm W:=zhb _ _
abbrev zCH{ν:Type}(W:List (List UInt8×ν)):Prop:=(W.map Prod.fst).Nodup
theorem zVj{ν:Type}{W:List (List UInt8×ν)}{k:List UInt8}{v:ν}(h:zCH W):zCH (uH k v W):=by
 unfold zCH;rw[zEK];split
 ·exact h
 ·rename_i hk;refine zhd.2 ⟨h,by simp,fun a ha b hb=>?_⟩;rw[zgM.1 hb];exact fun e=>hk (e▸ha)
theorem zX5{ν:Type}{W:List (List UInt8×ν)}{k:List UInt8}{v:ν}(h:zCH W)(hm:(k,v)∈W):qj k W=some v:=by
 induction W with
 | nil=>cases hm
 | cons p W ih=>
  have h1:=zh7.1 (show(p.1::W.map Prod.fst).Nodup from h);unfold qj;rcases zgS.1 hm with rfl|hm
  ·rw[if_pos rfl]
  ·rw[if_neg (show ¬k=p.1 from fun e=>h1.1 (by rw[←e];exact zgV.2 ⟨_,hm,rfl⟩))];exact ih h1.2 hm
theorem zOd{n:Nat}{M:zo}{to:Int}:∀{ks:List (List UInt8)} {W:WM},zCH W→zCH (zEc n M to ks W).1
 | [],_,h=>h
 | k::ks,W,h=>by
  rw[zEM];split
  ·exact h
  ·exact zOd (zVj h)
theorem zIF{n:Nat}{M:zo}{x:OpX}{xs:List OpX}{W:WM}{O:OM}:zJI n M (x::xs) W O=if(stepW n M W O x.1).2.2≠0 then stepW n M W O x.1 else zJI n M xs (stepW n M W O x.1).1 (stepW n M W O x.1).2.1:=rfl
theorem zX6{n:Nat}{M:zo}{W:WM}{O:OM}:zJI n M [] W O=(W,O,0):=rfl
section
variable{B:World}{Γ Δ:List zB}{rb st mb n t4:Nat}{os:Sl}{X:WX}{O:OX}{M:zo}{k:List UInt8}
theorem zVk{Q:Array Value→Sl→K}{e:Int}(hX:zCH X)(hXl:X.length≤1000000)
  (hbad:e≠0→HG B Γ (Q #[.int .i64 e,Sl.val ⟨none,0,0⟩] ⟨none,0,0⟩))
  (hgood:e=0→∀rows,HG B (SlC qA 2 os (O.flatMap oF)::Sep.stars (O.map oB)::SlC qw 5 rows ((zHY X).flatMap zDK)::Sep.stars ((zHY X).map wB)::Γ) (Q #[.int .i64 0,os.val] rows)) :
  HG B (blk t4 (.cells [.int .i64 0,Sl.val ⟨none,0,0⟩].toArray qR (0,0))::zJH rb st mb os X O Γ) (u6.s1 Q ⟨t4,0,none⟩ ⟨rb,0,none⟩ e):=by
 unfold u6.s1;refine zF (fun hb=>?_) fun hb=>?_
 ·refine yX (b:=t4) (l':=[.int .i64 e,Sl.val ⟨none,0,0⟩]) ?_;refine yC (b:=t4) (l':=[.int .i64 e,Sl.val ⟨none,0,0⟩]) ?_;exact zA (hbad (by simpa using hb))
 have h0:e=0:=by simpa using hb
 have hgood:=hgood h0;refine zh (b:=rb) (x:=some mb) ?_;refine yN mb ?_;refine fun w hw=>zJ7 hXl hw fun ks w hw=>?_;refine hg hw ?_;clear hw w;rw[←zS4];generalize hR:zHY X=R at *;have hRm:∀x∈R,qj x.1 X=some x.2:=fun x hx=>zX5 hX (by rw[←hR] at hx;exact(zEN X).subset hx);have hRl:R.length≤1000000:=by rw[←hR,(zEN X).length_eq];exact hXl
 have hperm:(R.map wB).Perm (X.map wB):=by rw[←hR];exact(zEN X).map _
 refine yw ks fun c1 c2 c3 c4=>?_;have hkn:ks.n=R.length:=by simpa using c1.symm
 refine fun w hw=>?_;refine hg (show Holds B (SlC qw 5 ⟨none,0,0⟩ []::_) w from hw.ji _ _) ?_;clear hw w;refine qH (α:=Sl×Int) (ι:=Nat) (fun x i=>x.2=(i:Int)∧i≤R.length)
  (fun x i=>SlC qw 5 x.1 ((R.take i).flatMap zDK)::SlS ks (R.map Prod.fst)::vv qE wV mb X::blk t4 (.cells [.int .i64 0,Sl.val ⟨none,0,0⟩].toArray qR (0,0))::blk rb (.cells [.pointer (some ⟨st,0,none⟩),.map (some mb),os.val].toArray zEW (0,0))::Sep.stars (X.map wB)::SlC qA 2 os (O.flatMap oF)::Sep.stars (O.map oB)::Γ) (fun x i=>R.length-i) 0 ⟨rfl,zgW _⟩ ?_
 rintro k' ⟨rows,jj⟩ j ⟨hj,hjl⟩ hk';simp only at hj hjl hk' ⊢;subst hj;unfold u6.b2;refine yw rows fun d1 d2 d3 d4=>?_;rw[zH _ 5 zJ8,zgR,zh6 hjl] at d1;refine zF (fun hb2=>?_) fun hb2=>?_
 ·have hjl2:j<R.length:=by simp only[zgH] at hb2;omega
  have hge:(R.map Prod.fst)[j]?=some R[j].1:=by rw[zgk,zgG hjl2];rfl
  have hmx:=hRm _ (zgX hjl2);have htk:R.take (j+1)=R.take j++[R[j]]:=zgJ hjl2;generalize R[j]=x at hge hmx htk;refine u7 (L:=R.map Prod.fst) (fun w hw=>(zO (s:=ks) hw).1) hge ?_;refine zh (b:=rb) (x:=some mb) ?_;refine zaA (b:=mb) (enc:=qE) (cV:=wV) (cG:=Value.agg) (g:=fun x=>zLY x.1 x.2) (z:=zeP) (a:=x.1) (fun _=>rfl) zS1 zHS zUb ?_;rw[hmx];refine zXa (cs:=zDK x) ?_ rfl;refine zBh (cs:=zDK x) ?_;refine zDI (s:=rows) (m:=1) (us:=zDK x) (fun rows' hrows'=>?_);refine qJ ?_;have e1:(R.take j).flatMap zDK++zDK x=(R.take (j+1)).flatMap zDK:=by rw[htk];simp
  rw[e1];exact hk' (rows',(j:Int)+1) (j+1) ⟨by simp,hjl2⟩ (by omega)
 ·have hjl2:j=R.length:=by simp only[zgF] at hb2;omega
  refine zh (b:=rb) (x:=os) ?_;refine yX (b:=t4) (l':=[.int .i64 0,os.val]) ?_;refine yC (b:=t4) (l':=[.int .i64 0,os.val]) ?_;rw[hjl2,zgQ];refine qc (Sep.stars (X.map wB)) ?_;refine fun w hw=>?_;refine hg (show Holds B (Sep.stars (R.map wB)::_) w from Holds.flat.2 ((Holds.flat.1 hw).perm (hperm.symm.append_right _))) ?_;exact zA (hgood rows)
theorem zX7(X:WX):(zA4 X).map Prod.fst=X.map Prod.fst:=by simp[zA4,zhc]
theorem zMo{ν:Type}(W:List (List UInt8×ν))(k:List UInt8)(v:ν):(uH k v W).length≤W.length+1:=by
 have h:=congrArg List.length (zEK W k v);rw[zgL] at h;rw[h];split
 ·simp
 ·simp
theorem zVl{n:Nat}{M:zo}{W:WM}{O:OM}{o:OpM}:(stepW n M W O o).1.length≤W.length+1:=by
 unfold stepW setW
 repeat' split
 all_goals first|exact zMo _ _ _|(simp only;omega)|skip
 unfold zNt setW
 repeat' split
 all_goals first|exact zMo _ _ _|(simp only;omega)
theorem zRW{n:Nat}{M:zo}:∀{xs:List OpX} {W:WM} {O:OM},(zJI n M xs W O).1.length≤W.length+xs.length
 | [],_,_=>by simp[zJI]
 | x::xs,W,O=>by
  rw[zIF];have:=zVl (n:=n) (M:=M) (W:=W) (O:=O) (o:=x.1);split
  ·simp only[zgO];omega
  ·have h2:=zRW (n:=n) (M:=M) (xs:=xs) (W:=(stepW n M W O x.1).1) (O:=(stepW n M W O x.1).2.1);simp only[zgO];omega
theorem zKk{n:Nat}{M:zo}{to:Int}:∀{ks:List (List UInt8)} {W:WM},(zEc n M to ks W).1.length≤W.length+ks.length
 | [],_=>by simp[zEc]
 | k::ks,W=>by
  rw[zEM];split
  ·simp only[zgO];omega
  ·exact zhW zKk (zhW (Nat.add_le_add_right (zMo _ _ _) _) (by simp only[zgO];omega))
end
end
end Go.Proofs.YtlelhlcjaapkoaaGreat
namespace Go.Sep
section
open Go Go.RowKit
namespace Bt
section
variable{κ:Type}{G:BtT κ}{c:κ→κ→Int}{B:World}{Γ Δ:List zB}
end
end Bt
end
section
open Go Go.RowKit
namespace Bt
structure BtD(κ:Type) extends BtT κ where
 delIC:Sl→Int→Int→(Sl→K)→K
 delKC:Sl→Int→Int→(Sl→K)→K
 ntakeC:Option Addr→κ→(Array Value→Bool→K)→K
 nlastC:Option Addr→(Array Value→K)→K
 nmendC:Option Addr→Int→K→K
section
variable{κ:Type}
end
end Bt
end
section
open Go Go.RowKit
namespace Bt
section
variable{κ:Type}{B:World}{Γ Γ0 Δ:List zB}
variable{G:BtT κ}{c:κ→κ→Int}
end
end Bt
end
section
open Go Go.RowKit
namespace Bt
section
variable{κ:Type}{G:BtD κ}{c:κ→κ→Int}{B:World}{Γ Δ:List zB}
end
end Bt
end
section
open Go Go.RowKit
namespace Bt
section
variable{κ:Type}{G:BtD κ}{c:κ→κ→Int}{B:World}{Γ Δ:List zB}
end
end Bt
end
section
open Go Go.RowKit
namespace Bt
section
variable{κ:Type}{G:BtD κ}{c:κ→κ→Int}{B:World}{Γ Δ:List zB}
end
end Bt
end
section
open Go Go.RowKit
namespace Bt
section
variable{κ:Type}{G:BtD κ}{c:κ→κ→Int}{B:World}{Γ Δ:List zB}
def zS5(c:κ→κ→Int){ν:Type}(z:ν)(L:List (κ×ν))(k:κ)(L':List (κ×ν))(old:ν)(had:Bool):Prop :=
 (∃A C,L=A++(k,old)::C∧L'=A++C∧had=true)∨((∃A C,L=A++C∧(∀x∈A,c x.1 k<0)∧(∀x∈C,c k x.1<0))∧L'=L∧old=z∧had=false)
theorem zS5.mid{ν:Type}{z old:ν}{A C L L':List (κ×ν)}{k:κ}{had:Bool}(hA:∀x∈A,c x.1 k<0)(hC:∀x∈C,c k x.1<0)(h:zS5 c z L k L' old had):zS5 c z (A++L++C) k (A++L'++C) old had:=by
 rcases h with⟨A',C',rfl,rfl,rfl⟩|⟨⟨A',C',rfl,h1,h2⟩,rfl,rfl,rfl⟩
 ·exact .inl ⟨A++A',C'++C,by simp,by simp,rfl⟩
 ·refine .inr ⟨⟨A++A',C'++C,by simp,fun x hx=>?_,fun x hx=>?_⟩,rfl,rfl,rfl⟩
  ·rcases zgP.1 hx with hx|hx
   ·exact hA x hx
   ·exact h1 x hx
  ·rcases zgP.1 hx with hx|hx
   ·exact h2 x hx
   ·exact hC x hx
theorem zS5.srt{ν:Type}{z old:ν}{L L':List (κ×ν)}{k:κ}{had:Bool}(h:zS5 c z L k L' old had)(hs:Srt c L):Srt c L':=by
 rcases h with⟨A',C',rfl,rfl,rfl⟩|⟨_,rfl,rfl,rfl⟩
 ·exact hs.sub ((List.Sublist.refl A').append (List.sublist_cons_self _ _))
 ·exact hs
theorem zS5.len{ν:Type}{z old:ν}{L L':List (κ×ν)}{k:κ}{had:Bool}(h:zS5 c z L k L' old had):L.length=L'.length+(if had then 1 else 0):=by
 rcases h with⟨A',C',rfl,rfl,rfl⟩|⟨_,rfl,rfl,rfl⟩
 ·simp;omega
 ·simp
end
end Bt
end
end Go.Sep
namespace Go.Proofs.YtlelhlcjaapkoaaGreat
section
open Go Go.Sep Go.Sep.Bt
def zS6(M:zo)(k:ByteArray):zo:=M.filter fun x=>!decide (x.1=k)
def zEO(M:zo)(k:ByteArray)(r:Rec):zo:=if r.has=false∧r.cnt=0 then zS6 M k else zB1 M k r
theorem zX8(M:zo)(k k':ByteArray):getM (zS6 M k) k'=if k'=k then none else getM M k':=by
 unfold getM zS6;rw[List.find?_filter];split
 ·rename_i h;subst h;rw[List.find?_eq_none.2 (fun x _=>by simp)];rfl
 ·rename_i h;congr 2;funext x
  by_cases h2:x.1=k
  ·simp[h2,Ne.symm h]
  ·by_cases h3:x.1=k' <;> simp[h2,h3,h]
theorem zHZ(n:Nat)(M:zo)(k k':ByteArray)(r:Rec):yt n (zEO M k r) k'=if k'=k then(if r.has=false∧r.cnt=0 then⟨false,[],zCP k.toList n,0⟩ else r) else yt n M k':=by
 unfold zEO;split
 ·unfold yt;rw[zX8];split
  ·rename_i h;rw[h];rfl
  ·rfl
 ·rw[zJy]
theorem zOe{M:zo}{k:ByteArray}(h:∀x∈M,x.1≠k):zS6 M k=M:=zhv.2 fun x hx=>by simpa using h x hx
theorem zMp(M:zo)(k:ByteArray)(r:Rec):(zEO M k r).length≤M.length+1:=by
 unfold zEO;split
 ·have:=zgr (fun x=>!decide (x.1=k)) M;unfold zS6;omega
 ·exact zMZ _ _ _
section
variable{B:World}{Γ Δ:List zB}
end
end
section
open Go Go.Sep Go.Sep.Bt
def zPv(n:Nat)(M:zo)(k:ByteArray)(xs:List UInt8):zo:=zEO M k { yt n M k with has:=true,val:=xs }
def zPw(n:Nat)(M:zo)(k:ByteArray):zo:=zEO M k { yt n M k with has:=false,val:=[] }
def zCA(n:Nat)(M:zo)(x:List UInt8×Rec):zo:=if(yt n M (bs x.1)).cnt≠x.2.cnt then(jw n M (bs x.1) x.2.home).1 else M
def zDL(n:Nat)(M:zo)(x:List UInt8×Rec):zo:=if x.2.has then zPv n (zCA n M x) (bs x.1) x.2.val else zPw n (zCA n M x) (bs x.1)
def zAU(n:Nat)(M:zo)(W:WM):zo:=W.foldl (zDL n) M
theorem zMq(n:Nat)(M:zo)(k:ByteArray)(to:Int):(jw n M k to).1.length≤M.length+1:=by
 unfold jw;split
 ·simp
 split
 ·simp
 exact zMZ _ _ _
theorem zMr(n:Nat)(M:zo)(x:List UInt8×Rec):(zCA n M x).length≤M.length+1:=by
 unfold zCA;split
 ·exact zMq _ _ _ _
 ·omega
theorem zMs(n:Nat)(M:zo)(x:List UInt8×Rec):(zDL n M x).length≤M.length+2:=by
 have h:=zMr n M x;unfold zDL zPv zPw;split
 ·exact zhW (zMp _ _ _) (by omega)
 ·exact zhW (zMp _ _ _) (by omega)
section
variable{B:World}{Γ Δ:List zB}{st n:Nat}{M:zo}
instance(priority:=high) zdH{b n m:Nat}:zDk (((⟨b,0,none⟩:Addr).add n).add m) b (n+m):=⟨by rw[jD,jD,zg8]⟩
abbrev zeR(x:List UInt8×(Rec×Sl)):List Value:=[qE x.1,.bool x.2.1.has,x.2.2.val,.int .i64 x.2.1.home,.int .u64 x.2.1.cnt]
end
end
section
open Go Go.Sep
abbrev TX:=List UInt8
def jA{α:Type}[DecidableEq α]:List α→List α
 | []=>[]
 | [x]=>[x]
 | x::y::L=>if y=x then jA (y::L) else x::jA (y::L)
theorem zGN{α:Type}[DecidableEq α]:∀(A:List α) (a b:α),jA (A++[a,b])=if b=a then jA (A++[a]) else jA (A++[a])++[b]
 | [],a,b=>by
  by_cases h:b=a <;> simp[jA,h]
 | [x],a,b=>by
  have h1:=zGN [] a b;simp only[zg6,List.singleton_append] at h1 ⊢;rw[jA,h1];by_cases h:b=a
  ·rw[if_pos h,if_pos h];simp[jA]
  ·rw[if_neg h,if_neg h];by_cases h2:a=x
   ·simp[jA,h2]
   ·simp[jA,h2]
 | x::y::A,a,b=>by
  have h1:=zGN (y::A) a b;simp only[zhC] at h1 ⊢;rw[jA,h1];by_cases h:b=a
  ·rw[if_pos h,if_pos h,jA]
  ·rw[if_neg h,if_neg h];by_cases h2:y=x
   ·simp[jA,h2]
   ·simp[jA,h2]
theorem zIG{α:Type}[DecidableEq α]:∀L:List α,(jA L).length≤L.length
 | []=>zgu _
 | [x]=>zgu _
 | x::y::L=>by
  have:=zIG (y::L);rw[jA];split
  ·exact Nat.le_succ_of_le this
  ·simp only[zgO] at this ⊢;omega
theorem zE6{α:Type}[DecidableEq α]:∀{L:List α} {x:α},x∈jA L↔x∈L
 | [],x=>Iff.rfl
 | [y],x=>Iff.rfl
 | y::z::L,x=>by
  have ih:=zE6 (L:=z::L) (x:=x);rw[jA];split
  ·rename_i h;rw[ih,h];simp
  ·rw[zgS,ih,zgS (a:=x) (b:=y)]
theorem zMt:∀(x:TX) (L:List TX),(∀y∈L,x≤y)→∀z,z∈(jA (x::L)).tail→(x::L).Pairwise (·≤·)→x<z
 | x,[],_,z,hz,_=>by simp[jA] at hz
 | x,y::L,h,z,hz,hp=>by
  rw[jA] at hz;have hp2:=zgm.1 hp;split at hz
  ·rename_i e;subst e;exact zMt y L (fun w hw=>h w (zgI _ hw)) z hz hp2.2
  ·rename_i e;rw[List.tail_cons,zE6] at hz;have h1:x≤z:=h z hz;rcases zh4.1 h1 with h2|h2
   ·exact h2
   ·exfalso;have h3:y≤z:=by
     rcases zgS.1 hz with rfl|hz
     ·exact List.le_refl _
     ·exact(zgm.1 hp2.2).1 z hz
    have h4:x≤y:=h y zgN;exact e (List.le_antisymm (by rw[h2];exact h3) h4)
theorem zLL:∀(L:List TX),L.Pairwise (·≤·)→(jA L).Pairwise (·<·)
 | [],_=>List.Pairwise.nil
 | [x],_=>zhe _ _
 | x::y::L,h=>by
  have ih:=zLL (y::L) (zgm.1 h).2;rw[jA];split
  ·exact ih
  ·rename_i e;refine zgm.2 ⟨fun z hz=>?_,ih⟩;refine zMt x (y::L) (zgm.1 h).1 z ?_ h;rw[jA,if_neg e];exact hz
theorem zMu:∀{L M:List TX},L.Pairwise (·<·)→M.Pairwise (·<·)→(∀x,x∈L↔x∈M)→L=M
 | [],[],_,_,_=>rfl
 | [],y::M,_,_,h=>by have:=(h y).2 zgN;simp at this
 | x::L,[],_,_,h=>by have:=(h x).1 zgN;simp at this
 | x::L,y::M,hL,hM,h=>by
  have h1:=zgm.1 hL;have h2:=zgm.1 hM;have hxy:x=y:=by
   rcases zgS.1 ((h x).1 zgN) with e|e
   ·exact e
   ·rcases zgS.1 ((h y).2 zgN) with e2|e2
    ·exact e2.symm
    ·exact absurd (ziA (h1.1 y e2) (h2.1 x e)) (zhM _)
  subst hxy;congr 1;refine zMu h1.2 h2.2 fun z=>?_;constructor
  ·intro hz;rcases zgS.1 ((h z).1 (zgI _ hz)) with e|e
   ·subst e;exact absurd (h1.1 z hz) (zhM _)
   ·exact e
  ·intro hz;rcases zgS.1 ((h z).2 (zgI _ hz)) with e|e
   ·subst e;exact absurd (h2.1 z hz) (zhM _)
   ·exact e
theorem zRX(L:List TX):(zCe L).Pairwise (·≤·):=by
 have:=ziC (le:=fun a b:TX=>decide (a≤b)) (fun a b c h1 h2=>by simp only[zgH] at *;exact List.le_trans h1 h2) (fun a b=>by simp only[Bool.or_eq_true,zgH];exact List.le_total a b) L;refine List.Pairwise.imp ?_ this;intro a b h;simpa using h
section
variable{B:World}{Γ Δ:List zB}{k:K}
theorem zS7{s:Sl}{L:List TX}{Q:Sl→K}(hL:L.length<100000000)(h:∀s',HG B (SlS s' (jA L)::Γ) (Q s')):HG B (SlS s L::Γ) (zW.call s Q):=by
 refine fun w hw=>zDd _ _ _ ?_;refine hg hw ?_;clear hw w;unfold zW;refine yw s fun a1 a2 a3 a4=>?_;rw[zgL,zgs] at a1;refine zF (fun hb=>?_) fun hb=>?_
 ·have e:jA L=L:=by
   match L,a1 with
   | [],_=>rfl
   | [x],_=>rfl
   | x::y::L,a1=>simp only[zgO] at a1;simp only[zgH] at hb;omega
  rw[e] at h;exact h s
 have hn2:2≤L.length:=by simp only[zgF] at hb;omega
 refine zAa (α:=Int) (fun x=>∃i:Nat,x=(i:Int)∧1≤i∧i≤L.length∧jA (L.take i)=L.take i) (fun x=>L.length-x.toNat) ⟨1,rfl,zgu _,by omega,?_⟩ fun k' x hx hk'=>?_
 ·match L,hn2 with
  | x::L,_=>simp[jA]
 obtain⟨i,rfl,hi1,hi,hc⟩:=hx;unfold zW.b1;refine zF (fun hb2=>?_) fun hb2=>?_;rotate_left
 ·have hil:i=L.length:=by simp only[zgF] at hb2;omega
  rw[hil,zgQ] at hc;rw[hc] at h;exact h s
 have hil:i<L.length:=by simp only[zgH] at hb2;omega
 obtain⟨j,rfl⟩:∃j,i=j+1:=⟨i-1,by omega⟩
 have step:∀m,m+1<L.length→jA (L.take (m+2))=if L[m+1]?=L[m]? then jA (L.take (m+1)) else jA (L.take (m+1))++L[m+1]?.toList:=fun m hm=>by
  have t1:L.take (m+2)=L.take m++[L[m],L[m+1]]:=by rw[zgJ hm,zgJ (by omega),zg9];rfl
  have t2:L.take (m+1)=L.take m++[L[m]]:=zgJ (by omega);rw[t1,t2,zGN,zgG hm,zgG (show m<L.length by omega)];simp
 obtain⟨a,ha⟩:∃a,L[j+1]?=some a:=⟨_,zgG hil⟩
 obtain⟨b,hb'⟩:∃b,L[j]?=some b:=⟨_,zgG (by omega)⟩
 refine xg ?_;refine u7 (L:=L) (j:=j+1) (fun w hw=>(zO (s:=s) hw).1) ha ?_ rfl;refine qJ ?_;refine u7 (L:=L) (j:=j) (fun w hw=>(zO (s:=s) hw).1) hb' ?_ (by omega);rw[qZ,qZ];have hst:=step j hil;rw[ha,hb'] at hst;refine zF (fun he=>?_) fun he=>?_;rotate_left
 ·have hne:¬some a=some b:=by simpa using he
  rw[if_neg hne] at hst;refine qJ ?_;refine hk' _ ⟨j+2,by simp;omega,by omega,hil,?_⟩ (by omega);rw[hst,hc,zgJ hil];rw[zgG hil] at ha;rw[zhh ha];rfl
 have hab:some a=some b:=by simpa using he
 rw[if_pos hab,hc] at hst;refine zAl (lo:=j+1) (hi:=s.n) (mx:=s.c) ?_;refine qH (α:=Int×Int) (ι:=Nat×Nat×List TX) (fun y i=>y.1=(i.1:Int)∧y.2=(i.2.1:Int)∧1≤i.2.1∧j+1+i.2.1≤L.length∧i.1<j+1+i.2.1∧i.2.2.length=L.length∧i.2.2.drop (j+i.2.1)=L.drop (j+i.2.1)∧i.2.2.take i.1=jA (L.take (j+1+i.2.1)))
  (fun y i=>SlS s i.2.2::Γ) (fun y i=>L.length-i.2.1) (j+1,1,L) ⟨rfl,rfl,zgu _,by simp only;omega,by simp only;omega,rfl,rfl,hst.symm⟩ ?_
 rintro k2 ⟨_,_⟩ ⟨p,q,M⟩ ⟨rfl,rfl,hq1,hq,hpq,hM,hd,ht⟩ hk2;simp only at hq1 hq hpq hM hd ht hk2 ⊢;unfold zW.b2;simp only;refine yw s fun d1 d2 d3 d4=>?_;rw[zgL,zgs] at d1;refine zF (fun hb3=>?_) fun hb3=>?_
 ·have hql:j+1+q<L.length:=by simp only[zgH] at hb3;omega
  obtain⟨x,hx⟩:∃x,L[j+1+q]?=some x:=⟨_,zgG hql⟩
  obtain⟨y,hy⟩:∃y,L[j+q]?=some y:=⟨_,zgG (by omega)⟩
  have hMx:M[j+1+q]?=some x:=by
   have:=congrArg (·[1]?) hd;simp only[zgt] at this;rw[show j+q+1=j+1+q by omega] at this;rw[this,hx]
  have hMy:M[j+q]?=some y:=by
   have:=congrArg (·[0]?) hd;simp only[zgt,zho] at this;rw[this,hy]
  have hrd:∀w,Holds B (SlS s M::Γ) w→RdC w ⟨zCW s.a (j+1) s.c 1,s.n-(j+1),s.c-(j+1)⟩ 1 ((M.drop (j+1)).map qE):=fun w hw=>by
   have:=(zO (s:=s) hw).1.drop (l:=j+1) (c:=s.c) (by omega) d2 d3;rwa[zgs,←ziJ] at this
  have hst2:=step (j+q) (by omega);rw[show j+q+1=j+1+q by omega,hx,hy,show j+q+2=j+1+(q+1) by omega] at hst2;refine xg ?_;refine u7 (L:=M.drop (j+1)) (j:=q) hrd (by rw[zgt];exact hMx) ?_ rfl;refine qJ ?_;refine u7 (L:=M.drop (j+1)) (j:=q-1) hrd (by rw[zgt,show j+1+(q-1)=j+q by omega];exact hMy) ?_ (by omega);rw[qZ,qZ];unfold zW.s3;refine zF (fun he2=>?_) fun he2=>?_
  ·have hne:¬some x=some y:=by simpa using he2
   rw[if_neg hne] at hst2;refine u7 (L:=M.drop (j+1)) (j:=q) hrd (by rw[zgt];exact hMx) ?_ rfl;refine zBk (s:=s) (i:=p) ?_;rw[←add0 (elA s p 1)];refine zFV (s:=s) ?_ (by simp;omega);rw[show p*1+0=p by omega,show Value.string (bs x)=qE x from rfl,←zh8];refine qJ ?_;refine qJ ?_;refine hk2 _ (p+1,q+1,M.set p x) ⟨by simp,by simp,by simp only;omega,by simp only;omega,by simp only;omega,by simpa using hM,?_,?_⟩ (by simp only;omega)
   ·simp only;rw[ziB (by omega),show j+(q+1)=(j+q)+1 by omega,←zgo,hd,zgo]
   ·simp only;rw[zJ3 (by omega),ht,hst2];rfl
  ·have heq:some x=some y:=by simpa using he2
   rw[if_pos heq] at hst2;refine qJ ?_;refine hk2 _ (p,q+1,M) ⟨rfl,by simp,by simp only;omega,by simp only;omega,by simp only;omega,hM,?_,?_⟩ (by simp only;omega)
   ·simp only;rw[show j+(q+1)=(j+q)+1 by omega,←zgo,hd,zgo]
   ·simp only;rw[ht,hst2]
 ·have hql:j+1+q=L.length:=by simp only[zgF] at hb3;omega
  rw[hql,zgQ] at ht;refine zAl (lo:=p) (hi:=s.n) (mx:=s.c) ?_;refine zEZ (s:=s) (m:=p) (c':=s.c) (by omega) (by omega) (zgu _) ?_;rw[show(M.map qE).take (p*1)=(jA L).map qE by rw[zgs,←ziI,ht]];refine zJs (s:=⟨s.a,p,s.c⟩) (l:=p) (q:=s.n-p) (m:=s.c) rfl (zgu _) (by simp only;omega) (by omega) ?_;refine zAl (lo:=0) (hi:=p) (mx:=s.c) ?_;rw[zKZ d3];exact h ⟨s.a,p,s.c⟩
theorem zX9{n:Nat}{Q:Sl→K}(hn:n<50000000)(h:∀s,s.n=0→HG B (SlS s []::Γ) (Q s)):HG B Γ (yJ.call ⟨none,0,0⟩ (n:Int) Q):=by
 refine fun w hw=>zEH _ _ _ _ ?_;refine hg hw ?_;clear hw w;unfold yJ;refine s_f ?_ (by simp);unfold yJ.s1;refine zPd (s:=⟨none,0,0⟩) (E:=yO) (esz:=1) (by kernel_rfl) ?_;refine zAw (e':=0) (by rw[wrap64 (by simp) (by simp)];simp) ?_;refine zAw (e':=(n:Int)) (by rw[wrap64 (by omega) (by omega)];omega) ?_;unfold yJ.s2;refine zF (fun hb=>?_) fun hb=>?_
 ·refine zPd (s:=⟨none,0,0⟩) (E:=yO) (esz:=1) (by kernel_rfl) ?_;refine zAl (lo:=0) (hi:=0) (mx:=0) ?_;refine zXe (s:=⟨none,0,0⟩) (vs:=[]) (E:=yO) (esz:=1) (by omega) (by simp only[zgH] at hb;simp;omega) (by simp;omega) (fun s' zs hs' hz hf=>?_) (fun w hw=>RdC.none') (zgu _);simp only[zg8,zg6] at hs' ⊢;refine yw s' fun a1 a2 a3 a4=>?_;refine zAl (lo:=0) (hi:=0) (mx:=s'.c) ?_ rfl (by simp) rfl;rw[zKZ a3];refine zEZ (s:=s') (m:=0) (c':=s'.c) (zgW _) (zgW _) (zgu _) ?_;simp only[Nat.zero_mul,List.take_zero,Nat.sub_zero];exact h ⟨s'.a,0,s'.c⟩ rfl
 ·refine fun w hw=>?_;exact h ⟨none,0,0⟩ rfl w (hw.ji _ _)
theorem zS8{t:Nat}{a b:Sl}{La Lb:List TX}{Q:Sl→K}(hla:La.length≤10000000)(hlb:Lb.length≤10000000)(ha:∀w,Holds B Γ w→RdC w a 1 (La.map qE))(hb:∀w,Holds B Γ w→RdC w b 1 (Lb.map qE))(h:∀s,HG B (SlS s (La++Lb)::Γ) (Q s)):
  HG B (blk t (.cells [a.val,b.val].toArray zAg (0,0))::Γ) (zX.call (Sl.mk (some ⟨t,0,none⟩) 2 2) Q):=fun w hw=>by
 refine zDm _ _ _ ?_;have han:a.n=La.length:=by have:=(ha w hw.tail).len;simpa using this.symm
 have hbn:b.n=Lb.length:=by have:=(hb w hw.tail).len;simpa using this.symm
 refine Sep.hg hw ?_;clear hw w;unfold zX;have rd:∀{X:List zB} [Drops X (blk t (.cells [a.val,b.val].toArray zAg (0,0))::Γ)],∀w,Holds B X w→RdC w (Sl.mk (some ⟨t,0,none⟩) 2 2) 1 ([a,b].map Sl.val):=fun w hw=>by
  have:=RdC.zGF (esz:=1) (E:=zAg) (b:=t) (n:=2) (vs:=[a.val,b.val]) (cs:=[a.val,b.val].toArray) (Γ:=blk t (.cells [a.val,b.val].toArray zAg (0,0))::Γ) hw.drops zgN (by simp) rfl 2;simpa using this
 refine qH (α:=Int×Int) (ι:=Nat) (fun x j=>j≤2∧x.2=(j:Int)∧x.1=(if j=0 then 0 else if j=1 then La.length else La.length+Lb.length:Nat)) (fun x j=>blk t (.cells [a.val,b.val].toArray zAg (0,0))::Γ) (fun x j=>2-j) 0 ⟨by omega,rfl,rfl⟩ ?_;rintro k' ⟨_,_⟩ j ⟨hj,rfl,rfl⟩ hk';simp only at hk' ⊢;unfold zX.b1 zX.s2
 match j,hj with
 | 0,_=>
  refine s_t ?_;refine je (L:=[a,b]) (j:=0) (x:=a) rd rfl ?_ rfl;refine zAw (e':=(La.length:Int)) (by rw[wrap64 (by simp <;> omega) (by simp <;> omega)];simp <;> omega) ?_;refine s_f ?_;refine qJ ?_;exact hk' _ 1 ⟨by omega,rfl,rfl⟩ (by omega)
 | 1,_=>
  refine s_t ?_;refine je (L:=[a,b]) (j:=1) (x:=b) rd rfl ?_ rfl;refine zAw (e':=((La.length+Lb.length:Nat):Int)) (by rw[wrap64 (by simp <;> omega) (by simp <;> omega)];simp <;> omega) ?_;refine s_f ?_;refine qJ ?_;exact hk' _ 2 ⟨by omega,rfl,rfl⟩ (by omega)
 | 2,_=>
  refine s_f ?_;refine zX9 (n:=La.length+Lb.length) (by omega) fun s0 hs0=>?_;refine qH (α:=Sl×Int) (ι:=Nat) (fun x j=>j≤2∧x.2=(j:Int)∧x.1.n=(if j=0 then 0 else if j=1 then La.length else La.length+Lb.length)) (fun x j=>SlS x.1 (if j=0 then[] else if j=1 then La else La++Lb)::blk t (.cells [a.val,b.val].toArray zAg (0,0))::Γ) (fun x j=>2-j) 0 ⟨by omega,rfl,hs0⟩ ?_;rintro k2 ⟨s1,_⟩ j ⟨hj,rfl,hs1⟩ hk2;simp only at hs1 hk2 ⊢;unfold zX.b3
  match j,hj with
  | 0,_=>
   refine s_t ?_;refine je (L:=[a,b]) (j:=0) (x:=a) rd rfl ?_ rfl;simp only[zhX] at hs1;refine qp (s:=s1) (us:=La.map qE) (fun w hw=>ha w hw.drops) (fun v hv=>by obtain⟨y,_,rfl⟩:=zgV.1 hv;rfl) (by omega) fun s2 hs2=>?_;refine qJ ?_;exact hk2 (s2,1) 1 ⟨by omega,rfl,by show s2.n=La.length;omega⟩ (by omega)
  | 1,_=>
   refine s_t ?_;refine je (L:=[a,b]) (j:=1) (x:=b) rd rfl ?_ rfl;have hs1':s1.n=La.length:=hs1;refine qp (s:=s1) (vs:=La.map qE) (us:=Lb.map qE) (fun w hw=>hb w hw.drops) (fun v hv=>by obtain⟨y,_,rfl⟩:=zgV.1 hv;rfl) (by omega) fun s2 hs2=>?_;refine qJ ?_;rw[←zgT];exact hk2 (s2,2) 2 ⟨by omega,rfl,by show s2.n=La.length+Lb.length;omega⟩ (by omega)
  | 2,_=>
   refine s_f ?_;show HG B (SlS s1 (La++Lb)::blk t (.cells [a.val,b.val].toArray zAg (0,0))::Γ) _;exact zA (h s1)
end
end
section
open Go Go.Sep
def vX(L:List TX):List TX:=jA (zCe L)
theorem zHa(L:List TX):(vX L).Pairwise (·<·):=zLL _ (zRX L)
theorem zDW{L:List TX}{x:TX}:x∈vX L↔x∈L:=by unfold vX;rw[zE6,zOW]
theorem zDX(L:List TX):(vX L).length≤L.length:=by
 have:=zIG (zCe L);rwa[zOV] at this
theorem zYA{L M:List TX}(h:M.Pairwise (·<·))(hm:∀x,x∈M↔x∈L):M=vX L:=zMu h (zHa L) fun x=>by rw[hm,zDW]
section
variable{B:World}{Γ Δ:List zB}{k:K}
theorem zUd{s:Sl}{xs:List UInt8}{q:ByteArray→K}(hr:∀w,Holds B Γ w→RdB w s xs)(h:HG B Γ (q (bs xs))):HG B Γ (Rd Tryz.prog (convert zSZ yO s.val) Value.string q):=fun w hw=>zd8 (by kernel_rfl) (hr w hw) (h w hw)
theorem zL6{s:Sl}{L:List TX}{key:TX}{Q:Bool→K}(hL:L.length<1000000000)(hr:∀w,Holds B Γ w→RdC w s 1 (L.map qE))(h:HG B Γ (Q (decide (key∈L)))):HG B Γ (zBs.call s (bs key) Q):=fun w hw=>by
 refine zRH _ _ _ _ ?_;have hn:s.n=L.length:=by have:=(hr w hw).len;simpa using this.symm
 refine Sep.hg hw ?_;clear hw w;unfold zBs;refine zAa (α:=Int) (fun x=>∃i:Nat,x=(i:Int)∧i≤L.length∧key∉L.take i) (fun x=>L.length-x.toNat) ⟨0,rfl,zgW _,by simp⟩ fun k' x hx hk'=>?_;obtain⟨i,rfl,hi,hno⟩:=hx;unfold zBs.b1;refine zF (fun hb=>?_) fun hb=>?_
 ·have hil:i<L.length:=by simp only[zgH] at hb;omega
  have hge:L[i]?=some L[i]:=zgG hil;have hmem:L[i]∈L:=zgX hil;have htk:L.take (i+1)=L.take i++[L[i]]:=zgJ hil;generalize L[i]=x at hge hmem htk;refine u7 hr hge ?_;rw[qZ,qZ];refine zF (fun he=>?_) fun he=>?_
  ·have he':x=key:=by simpa using he
   rw[show decide (key∈L)=true by rw[←he'];simpa using hmem] at h;exact h
  ·have he':¬x=key:=by simpa using he
   refine qJ ?_;refine hk' _ ⟨i+1,by simp,hil,?_⟩ (by omega);rw[htk];simp only[zgP,zgM,not_or];exact⟨hno,fun e=>he' e.symm⟩
 ·have hil:i=L.length:=by simp only[zgF] at hb;omega
  rw[hil,zgQ] at hno;rw[show decide (key∈L)=false by simpa using hno] at h;exact h
theorem zMv{a b:Sl}{La Lb:List TX}{Q:Bool→K}(hL:La.length<1000000000)(ha:∀w,Holds B Γ w→RdC w a 1 (La.map qE))(hb:∀w,Holds B Γ w→RdC w b 1 (Lb.map qE))(h:HG B Γ (Q (decide (La=Lb)))):HG B Γ (uM.call a b Q):=fun w hw=>by
 refine zJG _ _ _ _ ?_;have han:a.n=La.length:=by have:=(ha w hw).len;simpa using this.symm
 have hbn:b.n=Lb.length:=by have:=(hb w hw).len;simpa using this.symm
 refine Sep.hg hw ?_;clear hw w;unfold uM;refine zF (fun hc=>?_) fun hc=>?_
 ·have hne:La.length≠Lb.length:=by simp only[zgH] at hc;omega
  rw[show decide (La=Lb)=false by simpa using fun e=>hne (by rw[e])] at h;exact h
 have hll:La.length=Lb.length:=by simp only[zgF] at hc;omega
 refine zAa (α:=Int) (fun x=>∃i:Nat,x=(i:Int)∧i≤La.length∧La.take i=Lb.take i) (fun x=>La.length-x.toNat) ⟨0,rfl,zgW _,by simp⟩ fun k' x hx hk'=>?_;obtain⟨i,rfl,hi,he⟩:=hx;unfold uM.b1;refine zF (fun hc2=>?_) fun hc2=>?_
 ·have hil:i<La.length:=by simp only[zgH] at hc2;omega
  have hil2:i<Lb.length:=by omega
  have t1:=zgJ hil;have t2:=zgJ hil2;have g1:La[i]?=some La[i]:=zgG hil;have g2:Lb[i]?=some Lb[i]:=zgG hil2;generalize La[i]=x at t1 g1;generalize Lb[i]=y at t2 g2
  repeat refine zT ?_
  refine u7 ha g1 ?_;refine u7 hb g2 ?_;rw[qZ,qZ];refine zF (fun hp=>?_) fun hp=>?_
  ·have hp':¬x=y:=by simpa using hp
   rw[show decide (La=Lb)=false by simp only[zgF];rintro rfl;rw[g1] at g2;exact hp' (zhh g2)] at h;exact h
  ·have hp':x=y:=by simpa using hp
   refine qJ ?_;exact hk' _ ⟨i+1,by simp,hil,by rw[t1,t2,he,hp']⟩ (by omega)
 ·have hil:i=La.length:=by simp only[zgF] at hc2;omega
  rw[hil,zgQ,hll,zgQ] at he;rw[show decide (La=Lb)=true by simpa using he] at h;exact h
theorem zVm{s all:Sl}{A:List TX}{x:TX}{X1:Sl→Int→K}{Q:Sl→K}{i:Int}(hA:A.Pairwise (·<·))(hx:x∉A)(hL:A.length<100000000)
  (h:∀M,M.Pairwise (·<·)→(∀y,y∈M↔y=x∨y∈A)→M.length=A.length+1→HG B (SlS s M::Γ) (qU.s2 Q X1 s all i)) :
  HG B (SlS s (A++[x])::Γ) (zq (α:=Int) (fun X y=>qU.b3 Q X1 X s all i y) (A.length:Int)):=by
 refine qH (α:=Int) (ι:=List TX×List TX) (fun y i=>y=(i.1.length:Int)∧A=i.1++i.2∧∀z∈i.2,x<z) (fun y i=>SlS s (i.1++x::i.2)::Γ) (fun y i=>i.1.length) (A,[]) ⟨rfl,by simp,by simp⟩ ?_;rintro k' _ ⟨A1,A2⟩ ⟨rfl,rfl,h2⟩ hk';simp only at h2 hk' ⊢;have hpw:=zgf.1 hA;have hlen:(A1++A2).length=A1.length+A2.length:=zgK;have stop:(∀z∈A1,z<x)→HG B (SlS s (A1++x::A2)::Γ) (qU.s4 Q X1 k' s all i (A1.length:Int) false):=fun h1=>by
  unfold qU.s4;refine s_f ?_;refine h (A1++x::A2) (zgf.2 ⟨hpw.1,zgm.2 ⟨h2,hpw.2.1⟩,fun a ha b hb=>?_⟩) (fun y=>by simp only[zgP,zgS];constructor <;> (intro h;rcases h with h|h|h <;> simp[h])) (by simp;omega);rcases zgS.1 hb with rfl|hb
  ·exact h1 a ha
  ·exact hpw.2.2 a ha b hb
 unfold qU.b3;refine yw s fun a1 a2 a3 a4=>?_;have hn:s.n=A1.length+(A2.length+1):=by simpa using a1.symm
 repeat refine zT ?_
 rcases List.eq_nil_or_concat A1 with rfl|⟨A1,y,rfl⟩
 ·refine s_f ?_;exact stop (by simp)
 simp only[List.concat_eq_append] at *;have hl1:(A1++[y]).length=A1.length+1:=by simp
 rw[hl1] at hn hlen hk' ⊢;refine s_t ?_ (by simp);have e1:((A1++[y])++x::A2)[A1.length+1]?=some x:=by rw[zhE (by simp),hl1];simp
 have e2:((A1++[y])++x::A2)[A1.length]?=some y:=by rw[zg9];simp
 refine u7 (L:=(A1++[y])++x::A2) (j:=A1.length+1) (fun w hw=>(zO (s:=s) hw).1) e1 ?_ rfl;refine qJ ?_;refine u7 (L:=(A1++[y])++x::A2) (j:=A1.length) (fun w hw=>(zO (s:=s) hw).1) e2 ?_ (by omega);rw[qZ,qZ,zCM];by_cases hxy:x<y
 ·rw[show decide (x<y)=true by simpa using hxy];unfold qU.s4;refine s_t ?_;refine u7 (L:=(A1++[y])++x::A2) (j:=A1.length+1) (fun w hw=>(zO (s:=s) hw).1) e1 ?_ rfl;refine qJ ?_;refine u7 (L:=(A1++[y])++x::A2) (j:=A1.length) (fun w hw=>(zO (s:=s) hw).1) e2 ?_ (by omega);refine zBk (s:=s) (i:=A1.length+1) ?_;rw[←add0 (elA s (A1.length+1) 1)];refine zFV (s:=s) ?_ (by simp);refine qJ ?_;refine zBk (s:=s) (i:=A1.length) ?_;rw[←add0 (elA s A1.length 1)];refine zFV (s:=s) ?_ (by simp);refine qJ ?_;have e3:((((A1++[y])++x::A2).map qE).set ((A1.length+1)*1+0) (qE y)).set (A1.length*1+0) (qE x)=(A1++x::(y::A2)).map qE:=by
   rw[show(A1.length+1)*1+0=(A1++[y]).length by simp,show A1.length*1+0=A1.length by omega,←zh8,←zh8];rw[List.set_append_right _ _ (zgu _),Nat.sub_self,List.set_cons_zero,zg9,List.set_append_right _ _ (zgu _),Nat.sub_self];rfl
  rw[show((A1++[y]++x::A2).map qE).set ((A1.length+1)*1+0) (Value.string (bs y))=((A1++[y]++x::A2).map qE).set ((A1.length+1)*1+0) (qE y) from rfl,show Value.string (bs x)=qE x from rfl,e3];refine hk' _ (A1,y::A2) ⟨by simp,by simp,fun z hz=>?_⟩ (by simp);rcases zgS.1 hz with rfl|hz
  ·exact hxy
  ·exact h2 z hz
 ·rw[show decide (x<y)=false by simpa using hxy];have:=stop fun z hz=>by
   have hyx:y<x:=by
    have h4:y≤x:=List.not_lt.1 hxy;rcases zh4.1 h4 with h5|h5
    ·exact h5
    ·exact absurd (by rw[←h5];simp) hx
   rcases zgP.1 hz with hz|hz
   ·exact ziA ((zgf.1 hpw.1).2.2 z hz y (by simp)) hyx
   ·rw[zgM.1 hz];exact hyx
  rw[hl1] at this;exact this
theorem zKl{t:TxX}{Q:Sl→K}(hr1:∀w,Holds B Γ w→RdC w t.rs 1 (t.reads.map qE))(hr2:∀w,Holds B Γ w→RdC w t.ws 1 (t.writes.map qE))(hl:t.reads.length≤10000000)(hl2:t.writes.length≤10000000)(h:∀s,HG B (SlS s (vX (t.reads++t.writes))::Γ) (Q s)):HG B Γ (qU.call (txL t).toArray Q):=fun w hw=>by
 refine zNs _ _ _ ?_;have hn1:t.rs.n=t.reads.length:=by have:=(hr1 w hw).len;simpa using this.symm
 have hn2:t.ws.n=t.writes.length:=by have:=(hr2 w hw).len;simpa using this.symm
 refine Sep.hg hw ?_;clear hw w;unfold qU;refine zD fun t1=>?_;refine zD fun t8=>?_;refine zBg (A':=SlS ⟨some ⟨t8,0,none⟩,0,0⟩ []) (zAq (vs:=[]) rfl (by simp)) ?_;refine xg ?_;refine zBl [blk t1 (.cells (txL t).toArray zn (0,0))] ?_
 repeat refine zT ?_
 refine zD fun t9=>?_;refine zBg (A':=SlC yO 1 ⟨some ⟨t9,0,none⟩,0,0⟩ []) (zAq (vs:=[]) rfl (by simp)) ?_
 repeat refine zT ?_
 refine qp (s:=⟨some ⟨t9,0,none⟩,0,0⟩) (us:=t.reads.map qE) (fun w hw=>hr1 w hw.drops) (fun v hv=>by obtain⟨y,_,rfl⟩:=zgV.1 hv;rfl) (by simp only;omega) fun a1 ha1=>?_
 repeat refine zT ?_
 refine qp (s:=a1) (us:=t.writes.map qE) (fun w hw=>hr2 w hw.drops) (fun v hv=>by obtain⟨y,_,rfl⟩:=zgV.1 hv;rfl) (by simp only at ha1;omega) fun all hall=>?_;rw[show[]++t.reads.map qE++t.writes.map qE=(t.reads++t.writes).map qE by simp];have hln:(t.reads++t.writes).length=t.reads.length+t.writes.length:=zgK;generalize hLL:t.reads++t.writes=L at *;have halln:all.n=L.length:=by simp only at ha1;omega
 refine zA (Δ:=SlS ⟨some ⟨t8,0,none⟩,0,0⟩ []::SlS all L::Γ) ?_;refine qH (α:=Sl×Int) (ι:=Nat×List TX) (fun y i=>y.2=(i.1:Int)∧i.1≤L.length∧i.2.Pairwise (·<·)∧(∀z,z∈i.2↔z∈L.take i.1)∧i.2.length≤i.1) (fun y i=>SlS y.1 i.2::SlS all L::Γ) (fun y i=>L.length-i.1) (0,[]) ⟨rfl,zgW _,List.Pairwise.nil,by simp,by simp⟩ ?_;rintro k' ⟨o,_⟩ ⟨i,M⟩ ⟨rfl,hi,hM,hm,hMl⟩ hk';simp only at hi hM hm hMl hk' ⊢;unfold qU.b1;refine yw o fun b1 b2 b3 b4=>?_;rw[zgL,zgs] at b1;refine zF (fun hb=>?_) fun hb=>?_
 ·have hil:i<L.length:=by simp only[zgH] at hb;omega
  have hge:L[i]?=some L[i]:=zgG hil;have htk:L.take (i+1)=L.take i++[L[i]]:=zgJ hil;generalize L[i]=x at hge htk;refine u7 (L:=L) (fun w hw=>(zO (s:=all) hw).1) hge ?_;refine zL6 (L:=M) (by omega) (fun w hw=>(zO (s:=o) hw).1) ?_;refine zF (fun he=>?_) fun he=>?_
  ·have hxM:x∈M:=by simpa using he
   unfold qU.s2;refine qJ ?_;refine hk' (o,(i:Int)+1) (i+1,M) ⟨by simp,hil,hM,fun z=>?_,by simp only;omega⟩ (by simp only;omega);rw[htk,zgP,←hm];simp only[zgM];constructor
   ·exact fun h=>.inl h
   ·rintro(h|rfl)
    ·exact h
    ·exact hxM
  ·have hxM:x∉M:=by simpa using he
   refine u7 (L:=L) (fun w hw=>(zO (s:=all) hw).1) hge ?_;refine zD fun t33=>?_;refine qp (s:=o) (us:=[qE x]) (zBM rfl) (by simp[qD]) (by simp only;omega) fun o2 ho2=>?_;rw[show M.map qE++[qE x]=(M++[x]).map qE by simp];refine zAw (e':=(M.length:Int)) (by simp only at ho2;rw[wrap64 (by omega) (by omega)];omega) ?_;refine zVm hM hxM (by omega) fun M2 h1 h2 h3=>?_;unfold qU.s2;refine qJ ?_;refine zA (hk' (o2,(i:Int)+1) (i+1,M2) ⟨by simp,hil,h1,fun z=>?_,by simp only;omega⟩ (by simp only;omega));rw[h2,htk,zgP,←hm];simp only[zgM];exact or_comm
 ·have hil:i=L.length:=by simp only[zgF] at hb;omega
  rw[hil,zgQ] at hm;rw[zYA hM hm];exact zA (h o)
end
end
section
open Go Go.Sep
abbrev zHb(t:TxX):Prop:=40<t.reads.length∨40<t.writes.length∨60<t.ops.length∨(∃k∈t.reads,200<k.length)∨(∃k∈t.writes,200<k.length)∨∃x∈t.ops,200<x.1.key.length∨200<x.1.val.length
abbrev zC9(a b:TxX):Prop:=a.kind=b.kind∧a.to=b.to∧a.reads=b.reads∧a.writes=b.writes∧a.ops.map Prod.fst=b.ops.map Prod.fst
section
variable{B:World}{Γ Γ0 Δ:List zB}{k:K}
theorem zPx{α:Type}(f:α→List Value){esz:Nat}{L:List α}{s:Sl}{j:Nat}{jj:Int}{x:α}{k:Array Value→K}(hf:∀x,(f x).length=esz)(he:0<esz)(hr:∀w,Holds B Γ w→RdC w s esz (L.flatMap f))(hr0:∀w,Holds B Γ0 w→RdC w s esz (L.flatMap f))(hx:L[j]?=some x)(h:HG B Γ (k (f x).toArray))(hj:jj=(j:Int):=by first|rfl|omega):
  HG B Γ (Idx s jj esz fun t=>xJ (Holds B Γ0) t esz k):=fun w hw=>by
 subst hj;have hrw:=hr w hw;have hj:j<L.length:=(zgZ.1 hx).1;have hn:L.length=s.n:=by
  have:=hrw.len;rw[zH f esz hf] at this;exact zgb he this
 cases ha:s.a with
 | none=>have:=hrw.nil ha;omega
 | some a=>
  refine⟨a,_,ha,by omega,by omega,rfl,_,by simp[hf],fun w' hw'=>?_,h w hw⟩;simp only[zgw];exact zLz f esz hf (hr0 w' hw') ha hx
theorem zCU{α β:Type}(f:α→List Value){esz off:Nat}{L:List α}{s:Sl}{j:Nat}{jj:Int}{x:α}{c:β→Value}{v:β}{k:β→K}(hf:∀x,(f x).length=esz)(hr:∀w,Holds B Γ w→RdC w s esz (L.flatMap f))(hx:L[j]?=some x)(hv:(f x)[off]?=some (c v))(h:HG B Γ (k v))(hj:jj=(j:Int):=by first|rfl|omega):
  HG B Γ (Idx s jj esz fun t=>Ld (t.add off) c k):=fun w hw=>by
 subst hj;have hrw:=hr w hw;have hj:j<L.length:=(zgZ.1 hx).1;have ho:off<esz:=by rw[←hf x];exact(zgZ.1 hv).1
 have hn:L.length=s.n:=by
  have:=hrw.len;rw[zH f esz hf] at this;exact zgb (by omega) this
 cases ha:s.a with
 | none=>have:=hrw.nil ha;omega
 | some a=>
  refine⟨a,_,ha,by omega,by omega,rfl,v,?_,h w hw⟩;simp only[zgw];have h2:=zLz f esz hf hrw ha hx off (by simpa[hf] using ho);rw[h2];simpa using hv
theorem zGO{α β:Type}(f:α→List Value){esz:Nat}{L:List α}{s:Sl}{j:Nat}{jj:Int}{x:α}{c:β→Value}{v:β}{k:β→K}(hf:∀x,(f x).length=esz)(hr:∀w,Holds B Γ w→RdC w s esz (L.flatMap f))(hx:L[j]?=some x)(hv:(f x)[0]?=some (c v))(h:HG B Γ (k v))(hj:jj=(j:Int):=by first|rfl|omega):
  HG B Γ (Idx s jj esz fun t=>Ld t c k):=fun w hw=>by
 obtain⟨a,t,h1,h2,h3,h4,h5⟩:=zCU f (off:=0) hf hr hx hv h hj w hw;rw[add0] at h5;exact⟨a,t,h1,h2,h3,h4,h5⟩
theorem zGP{w:World}{t:TxX}(h:zAn w t):t.rs.n=t.reads.length∧t.ws.n=t.writes.length∧t.os.n=t.ops.length :=
 ⟨by have:=h.1.len;simpa using this.symm,by have:=h.2.1.len;simpa using this.symm,zAM zAs (by omega) h.2.2.1⟩
theorem zS9{t:TxX}{Q:Bool→K}(hr:∀w,Holds B Γ w→zAn w t)(h:HG B Γ (Q (decide (zHb t)))):HG B Γ (qB.call (txL t).toArray Q):=fun w hw=>by
 refine zMj _ _ _ ?_;obtain⟨n1,n2,n3⟩:=zGP (hr w hw);refine Sep.hg hw ?_;clear hw w;unfold qB;refine zD fun t1=>?_;have yes:zHb t→HG B (blk t1 (.cells (txL t).toArray zn (0,0))::Γ) (Q true):=fun hg=>by
  rw[show decide (zHb t)=true from zga hg] at h;exact zA h
 repeat refine zT ?_
 refine zF (fun hb=>?_) fun hb=>?_
 ·unfold qB.s1;exact s_t (yes (.inl (by simp only[zgH] at hb;omega)))
 repeat refine zT ?_
 refine zF (fun hb2=>?_) fun hb2=>?_
 ·unfold qB.s1;exact s_t (yes (.inr (.inl (by simp only[zgH] at hb2;omega))))
 repeat refine zT ?_
 by_cases hb3:60<t.os.n
 ·rw[show decide ((60:Int)<(t.os.n:Int))=true by simp;omega];unfold qB.s1;exact s_t (yes (.inr (.inr (.inl (by omega)))))
 rw[show decide ((60:Int)<(t.os.n:Int))=false by simp;omega];simp only[zgF] at hb hb2;unfold qB.s1
 repeat refine zT ?_
 refine zAa (α:=Int) (fun x=>∃i:Nat,x=(i:Int)∧i≤t.reads.length∧∀k∈t.reads.take i,k.length≤200) (fun x=>t.reads.length-x.toNat) ⟨0,rfl,zgW _,by simp⟩ fun k1 x hx hk1=>?_;obtain⟨i,rfl,hi,hs1⟩:=hx;unfold qB.b2
 repeat refine zT ?_
 refine zF (fun hc=>?_) fun hc=>?_
 ·have hil:i<t.reads.length:=by simp only[zgH] at hc;omega
  have hge:t.reads[i]?=some t.reads[i]:=zgG hil;have hmem:t.reads[i]∈t.reads:=zgX hil;have htk:t.reads.take (i+1)=t.reads.take i++[t.reads[i]]:=zgJ hil;generalize t.reads[i]=x at hge hmem htk
  repeat refine zT ?_
  refine u7 (L:=t.reads) (fun w hw=>(hr w hw.tail).1) hge ?_;have hsz:(bs x).size=x.length:=rfl;refine zF (fun hd=>?_) fun hd=>?_
  ·exact yes (.inr (.inr (.inr (.inl ⟨x,hmem,by simp only[zgH] at hd;omega⟩))))
  ·refine qJ ?_;refine hk1 _ ⟨i+1,by simp,hil,fun y hy=>?_⟩ (by omega);rw[htk] at hy;rcases zgP.1 hy with hy|hy
   ·exact hs1 y hy
   ·rw[zgM.1 hy];simp only[zgF] at hd;omega
 have hil:i=t.reads.length:=by simp only[zgF] at hc;omega
 rw[hil,zgQ] at hs1;refine zAa (α:=Int) (fun x=>∃i:Nat,x=(i:Int)∧i≤t.writes.length∧∀k∈t.writes.take i,k.length≤200) (fun x=>t.writes.length-x.toNat) ⟨0,rfl,zgW _,by simp⟩ fun k2 x hx hk2=>?_;obtain⟨j,rfl,hj,hs2⟩:=hx;unfold qB.b3
 repeat refine zT ?_
 refine zF (fun hc2=>?_) fun hc2=>?_
 ·have hil:j<t.writes.length:=by simp only[zgH] at hc2;omega
  have hge:t.writes[j]?=some t.writes[j]:=zgG hil;have hmem:t.writes[j]∈t.writes:=zgX hil;have htk:t.writes.take (j+1)=t.writes.take j++[t.writes[j]]:=zgJ hil;generalize t.writes[j]=x at hge hmem htk
  repeat refine zT ?_
  refine u7 (L:=t.writes) (fun w hw=>(hr w hw.tail).2.1) hge ?_;have hsz:(bs x).size=x.length:=rfl;refine zF (fun hd=>?_) fun hd=>?_
  ·exact yes (.inr (.inr (.inr (.inr (.inl ⟨x,hmem,by simp only[zgH] at hd;omega⟩)))))
  ·refine qJ ?_;refine hk2 _ ⟨j+1,by simp,hil,fun y hy=>?_⟩ (by omega);rw[htk] at hy;rcases zgP.1 hy with hy|hy
   ·exact hs2 y hy
   ·rw[zgM.1 hy];simp only[zgF] at hd;omega
 have hjl:j=t.writes.length:=by simp only[zgF] at hc2;omega
 rw[hjl,zgQ] at hs2;refine zAa (α:=Int) (fun x=>∃i:Nat,x=(i:Int)∧i≤t.ops.length∧∀y∈t.ops.take i,y.1.key.length≤200∧y.1.val.length≤200) (fun x=>t.ops.length-x.toNat) ⟨0,rfl,zgW _,by simp⟩ fun k3 x hx hk3=>?_;obtain⟨m,rfl,hm,hs3⟩:=hx;unfold qB.b4
 repeat refine zT ?_
 refine zF (fun hc3=>?_) fun hc3=>?_
 ·have hil:m<t.ops.length:=by simp only[zgH] at hc3;omega
  have hge:t.ops[m]?=some t.ops[m]:=zgG hil;have hmem:t.ops[m]∈t.ops:=zgX hil;have htk:t.ops.take (m+1)=t.ops.take m++[t.ops[m]]:=zgJ hil;generalize t.ops[m]=x at hge hmem htk
  repeat refine zT ?_
  refine zCU opF (off:=1) (c:=Value.string) (x:=x) (v:=bs x.1.key) zAs (fun w hw=>(hr w hw.tail).2.2.1) hge rfl ?_;have hsz:(bs x.1.key).size=x.1.key.length:=rfl;unfold qB.s5;refine zF (fun hd=>?_) fun hd=>?_
  ·refine s_t ?_;exact yes (.inr (.inr (.inr (.inr (.inr ⟨x,hmem,.inl (by simp only[zgH] at hd;omega)⟩)))))
  ·repeat refine zT ?_
   refine fun w hw=>?_;have hxl:x.2.n=x.1.val.length:=by have:=((hr w hw.tail).2.2.2 x hmem).len;simpa using this.symm
   refine Sep.hg hw ?_;clear hw w;refine zCU opF (off:=2) (c:=Sl.val) (x:=x) (v:=x.2) zAs (fun w hw=>(hr w hw.tail).2.2.1) hge rfl ?_;refine zF (fun he=>?_) fun he=>?_
   ·exact yes (.inr (.inr (.inr (.inr (.inr ⟨x,hmem,.inr (by simp only[zgH] at he;omega)⟩)))))
   ·refine qJ ?_;refine hk3 _ ⟨m+1,by simp,hil,fun y hy=>?_⟩ (by omega);rw[htk] at hy;rcases zgP.1 hy with hy|hy
    ·exact hs3 y hy
    ·rw[zgM.1 hy];simp only[zgF] at hd he;omega
 ·have hml:m=t.ops.length:=by simp only[zgF] at hc3;omega
  rw[hml,zgQ] at hs3;rw[show decide (zHb t)=false by
   simp only[zgF];rintro(g|g|g|⟨k,hk,g⟩|⟨k,hk,g⟩|⟨x,hx,g⟩)
   ·omega
   ·omega
   ·omega
   ·have:=hs1 k hk;omega
   ·have:=hs2 k hk;omega
   ·have:=hs3 x hx;omega] at h
  exact zA h
theorem zVn{a b:TxX}{Q:Bool→K}(ha:∀w,Holds B Γ w→zAn w a)(hb:∀w,Holds B Γ w→zAn w b)(hl:a.reads.length<100000000∧a.writes.length<100000000∧a.ops.length<100000000)(h:HG B Γ (Q (decide (zC9 a b)))):HG B Γ (qF.call (txL a).toArray (txL b).toArray Q):=fun w hw=>by
 refine zNr _ _ _ _ ?_;obtain⟨n1,n2,n3⟩:=zGP (ha w hw);obtain⟨m1,m2,m3⟩:=zGP (hb w hw);refine Sep.hg hw ?_;clear hw w;unfold qF;refine zD fun a2=>?_;refine zD fun b3=>?_;have no:¬zC9 a b→HG B (blk b3 (.cells (txL b).toArray zn (0,0))::blk a2 (.cells (txL a).toArray zn (0,0))::Γ) (qF.s1 Q ⟨a2,0,none⟩ ⟨b3,0,none⟩ true):=fun hn=>by
  rw[show decide (zC9 a b)=false from zgU hn] at h;unfold qF.s1;exact s_t (zA h)
 repeat refine zT ?_
 refine zF (fun hc1=>no fun hs=>by simp[hs.1] at hc1) fun hc1=>?_
 repeat refine zT ?_
 refine zF (fun hc2=>no fun hs=>by simp[hs.2.1] at hc2) fun hc2=>?_
 repeat refine zT ?_
 refine zMv (La:=a.reads) (Lb:=b.reads) (by omega) (fun w hw=>(ha w hw.drops).1) (fun w hw=>(hb w hw.drops).1) ?_;refine zF (fun hc3=>no fun hs=>by simp[hs.2.2.1] at hc3) fun hc3=>?_
 repeat refine zT ?_
 refine zMv (La:=a.writes) (Lb:=b.writes) (by omega) (fun w hw=>(ha w hw.drops).2.1) (fun w hw=>(hb w hw.drops).2.1) ?_;refine zF (fun hc4=>no fun hs=>by simp[hs.2.2.2.1] at hc4) fun hc4=>?_
 repeat refine zT ?_
 by_cases hc5:a.os.n=b.os.n;rotate_left
 ·rw[show decide ((a.os.n:Int)≠(b.os.n:Int))=true by simp;omega];refine no fun hs=>?_;have:=congrArg List.length hs.2.2.2.2;simp only[zgL] at this;omega
 rw[show decide ((a.os.n:Int)≠(b.os.n:Int))=false by simp;omega];have hab:a.kind=b.kind∧a.to=b.to∧a.reads=b.reads∧a.writes=b.writes:=⟨by simpa using hc1,by simpa using hc2,by simpa using hc3,by simpa using hc4⟩
 have hll:a.ops.length=b.ops.length:=by omega
 unfold qF.s1
 repeat refine zT ?_
 refine zAa (α:=Int) (fun x=>∃i:Nat,x=(i:Int)∧i≤a.ops.length∧(a.ops.take i).map Prod.fst=(b.ops.take i).map Prod.fst) (fun x=>a.ops.length-x.toNat) ⟨0,rfl,zgW _,by simp⟩ fun k' x hx hk'=>?_;obtain⟨i,rfl,hi,he⟩:=hx;unfold qF.b2
 repeat refine zT ?_
 refine zF (fun hc6=>?_) fun hc6=>?_
 ·have hil:i<a.ops.length:=by simp only[zgH] at hc6;omega
  have hil2:i<b.ops.length:=by omega
  have t1:=zgJ hil;have t2:=zgJ hil2;have g1:a.ops[i]?=some a.ops[i]:=zgG hil;have g2:b.ops[i]?=some b.ops[i]:=zgG hil2;have m1':a.ops[i]∈a.ops:=zgX hil;have m2':b.ops[i]∈b.ops:=zgX hil2;generalize a.ops[i]=x at t1 g1 m1';generalize b.ops[i]=y at t2 g2 m2';have fin:∀x6 y7,HG B (blk x6 (.cells (opF x).toArray vg (0,0))::blk y7 (.cells (opF y).toArray vg (0,0))::blk b3 (.cells (txL b).toArray zn (0,0))::blk a2 (.cells (txL a).toArray zn (0,0))::Γ) (qF.s3 Q k' ⟨a2,0,none⟩ ⟨b3,0,none⟩ (i:Int) ⟨x6,0,none⟩ ⟨y7,0,none⟩):=fun x6 y7=>by
   have bad:x.1≠y.1→HG B (blk x6 (.cells (opF x).toArray vg (0,0))::blk y7 (.cells (opF y).toArray vg (0,0))::blk b3 (.cells (txL b).toArray zn (0,0))::blk a2 (.cells (txL a).toArray zn (0,0))::Γ) (qF.s4 Q k' ⟨a2,0,none⟩ ⟨b3,0,none⟩ (i:Int) true):=fun hne=>by
    have hn:¬zC9 a b:=fun hs=>by
     have:=congrArg (·[i]?) hs.2.2.2.2;simp only[zgk,g1,g2,zg1,zg4] at this;exact hne this
    rw[show decide (zC9 a b)=false from zgU hn] at h;unfold qF.s4;exact s_t (zA h)
   unfold qF.s3
   repeat refine zT ?_
   refine zF (fun hd1=>bad fun e=>by simp[e] at hd1) fun hd1=>?_
   repeat refine zT ?_
   rw[qZ,qZ];refine zF (fun hd2=>bad fun e=>by simp[e] at hd2) fun hd2=>?_
   repeat refine zT ?_
   refine zF (fun hd3=>bad fun e=>by simp[e] at hd3) fun hd3=>?_
   repeat refine zT ?_
   refine zUd (xs:=x.1.val) (fun w hw=>(ha w hw.drops).2.2.2 x m1') ?_
   repeat refine zT ?_
   refine zUd (xs:=y.1.val) (fun w hw=>(hb w hw.drops).2.2.2 y m2') ?_;rw[qZ,qZ];by_cases hd4:x.1.val=y.1.val;rotate_left
   ·rw[show(!(x.1.val==y.1.val))=true by simpa using hd4];exact bad fun e=>hd4 (by rw[e])
   rw[show(!(x.1.val==y.1.val))=false by simpa using hd4];unfold qF.s4
   repeat refine zT ?_
   refine qJ ?_;refine zA (hk' _ ⟨i+1,by simp,hil,?_⟩ (by omega));rw[t1,t2,zgT,zgT,he];have hxy:x.1=y.1:=by
    obtain⟨⟨x1,x2,x3,x4⟩,x5⟩:=x;obtain⟨⟨y1,y2,y3,y4⟩,y5⟩:=y;simp only[OpM.mk.injEq] at hd4 ⊢;exact⟨by simpa using hd1,by simpa using hd2,hd4,by simpa using hd3⟩
   simp[hxy]
  refine xg ?_;refine zVU ?_
  repeat refine zT ?_
  refine zPx opF zAs (by omega) (fun w hw=>(ha w hw.drops).2.2.1) (fun w hw=>(ha w hw.drops).2.2.1) g1 ?_
  repeat refine zT ?_
  refine zPx opF zAs (by omega) (fun w hw=>(hb w hw.drops).2.2.1) (fun w hw=>(hb w hw.drops).2.2.1) g2 ?_;refine zBS ?_ ?_
  ·refine zD fun x6=>?_
   repeat refine zT ?_
   refine zD fun y7=>?_
   repeat refine zT ?_
   exact zA (fin x6 y7)
  ·refine zD fun y7=>?_
   repeat refine zT ?_
   refine zD fun x6=>?_
   repeat refine zT ?_
   exact zA (fin x6 y7)
 ·have hil:i=a.ops.length:=by simp only[zgF] at hc6;omega
  rw[hil,zgQ,hll,zgQ] at he;rw[show decide (zC9 a b)=true by simpa using⟨hab.1,hab.2.1,hab.2.2.1,hab.2.2.2,he⟩] at h;exact zA h
end
end
section
open Go Go.Sep
set_option maxHeartbeats 4000000
attribute [local irreducible] G Gp Cx Tx Ex Sx Dx Ox Ax Lx Rx Fx Bx Bj Al Do Ld LdN St StN New zI Ar DoU Rd Rd2 Pu Cd Ite Fv vZ zAe uZ yH jm zCj zCt zCx Ext Dead Dr yV Sv LdS xJ RdS zDD Nn Idx zBW zCs Fld Bld Slc zDE Cat All zq jE jY zAp
instance:CB Tryz.prog 103:=⟨by kernel_rfl⟩
instance:CB Tryz.prog 151:=⟨by kernel_rfl⟩
instance:CB Tryz.prog 153:=⟨by kernel_rfl⟩
instance:CB Tryz.prog 165:=⟨by kernel_rfl⟩
instance:CB Tryz.prog 166:=⟨by kernel_rfl⟩
instance:CB Tryz.prog 42:=⟨by kernel_rfl⟩
instance:CB Tryz.prog 89:=⟨by kernel_rfl⟩
instance:CB Tryz.prog 91:=⟨by kernel_rfl⟩
instance:CB Tryz.prog 92:=⟨by kernel_rfl⟩
instance:FT Tryz.prog 174 0 0 1:=⟨by kernel_rfl⟩
instance:FT Tryz.prog 174 1 1 1:=⟨by kernel_rfl⟩
instance:PLT Tryz.prog 174 [(0,1),(1,1)]:=⟨_,Tryz.underlying174,by kernel_rfl⟩
instance:PLT Tryz.prog 190 [(0,1),(1,1)]:=⟨_,Tryz.underlying190,by kernel_rfl⟩
instance:PLT Tryz.prog 208 [(0,1),(1,1),(2,1),(3,1)]:=⟨_,Tryz.underlying208,by kernel_rfl⟩
instance:ZT Tryz.prog 174 (.agg #[(.int .i64 0),(Sl.val ⟨none,0,0⟩)]):=⟨Tryz.t174,by kernel_rfl,by kernel_rfl⟩
instance:ZT Tryz.prog 190 (.agg #[(Sl.val ⟨none,0,0⟩),(.int .i64 0)]):=⟨Tryz.t190,by kernel_rfl,by kernel_rfl⟩
def zE1(b:Int)(Q:Pt→K): K :=
 New 174 #[.int .i64 b,Sl.val ⟨none,0,0⟩] fun a=>
 Q (some a)
theorem zPy(a Q w)(h:zE1 a Q w):zE1.call a Q w:=by
 exact zJ 6 h Tryz.func42
def qo.b1(Q:Av→K)(s:Int→K)(t:Pt)(f:ByteArray)(b:Addr)(c:Int): K :=
 Nn t fun a=>
 Ld (a.add 1) Sl.val fun g=>
 Ite (decide (c<(g.n:Int)))
  (Ld (a.add 1) Sl.val fun i=>
  Idx i c 5 fun j=>
  Ld j Value.string fun k=>
  Ite (k.toList==f.toList)
   (Ld (a.add 1) Sl.val fun l=>
   Idx l c 5 fun m=>
   LdN (m.add 1) 4 fun o=>
   StN b 4 o<|
   LdN b 4 fun d=>
   Q d)
   (Ar (IntKind.wrap .i64 (c+1)) fun p=>
   s p))
  (Ld a (Value.int .i64) fun q=>
  j5.call f q fun r=>
  StN b 4 #[.bool false,Sl.val ⟨none,0,0⟩,.int .i64 r,.int .u64 0]<|
  LdN b 4 fun d=>
  Q d)
def qo(b:Pt)(c:ByteArray)(Q:Av→K): K :=
 New 208 #[.bool false,Sl.val ⟨none,0,0⟩,.int .i64 0,.int .u64 0] fun a=>
 zq (α:=Int) (fun X x=>qo.b1 Q X b c a x) 0
theorem zJJ(a b Q w)(h:qo a b Q w):qo.call a b Q w:=by
 have:∀c d f,LH 2 (fun x:Int=>[(0,.pointer c),(1,.string d),(4,(.pointer (some f))),(5,.int .i64 x)]) (fun X x=>qo.b1 Q X c d f x):=fun _ _ _=>⟨⟩
 exact zJ 40 h Tryz.func116
def j5.b1(Q:Int→K)(m:Int→Int→K)(c:ByteArray)(n d a:Int): K :=
 Ite (decide (a<(c.size:Int)))
  (zCs c a fun f=>
  Ar (IntKind.wrap .u64 f) fun g=>
  Ar (IntKind.wrap .u64 (d+g)) fun i=>
  Ar (IntKind.wrap .i64 (a+1)) fun j=>
  m i j)
  (Ar (IntKind.wrap .u64 n) fun b=>
  Cd (b≠0)<|
  Ar (Int.tmod d b) fun k=>
  Ar (IntKind.wrap .i64 k) fun l=>
  Q l)
def j5(d:ByteArray)(a:Int)(Q:Int→K): K :=
 Ite (decide (a<1))
  (Q 0)
  (zq (α:=Int×Int) (fun X x=>j5.b1 Q (fun b c=>X (b,c)) d a x.1 x.2) (0,0))
theorem zKm(a b Q w)(h:j5 a b Q w):j5.call a b Q w:=by
 have:∀c d,LH 5 (fun x:Int×Int=>[(0,.string c),(1,.int .i64 d),(5,.int .u64 x.1),(6,.int .i64 x.2)]) (fun X x=>j5.b1 Q (fun f g=>X (f,g)) c d x.1 x.2):=fun _ _=>⟨⟩
 exact zJ 26 h Tryz.func166
def zBF(i:Pt)(Q:Pt→K): K :=
 Dr<|yV fun S=>
 Nn i fun a=>
 LdS S a (Value.int .i64) fun b=>
 LdS S (a.add 1) Sl.val fun c=>
 New 210 #[] fun d=>
 Sv S<|
 Do Tryz.prog (Builtin.append_ #[105,105] 105 #[(Sl.val (Sl.mk (some d) 0 0)),Sl.val c]) Sl.val fun f=>
 Sv S<|
 New 174 #[.int .i64 b,Sl.val f] fun g=>
 Q (some g)
theorem zIS(b Q w)(h:zBF b Q w):zBF.call b Q w:=by
 have:DH 1 2 [11] (.s [0,1,2,5,6,7,3,8] (.a [(4,1,.a [(9,1,.s [10] (.a [(11,0,.s [12] .e)]))])])):=⟨⟩
 exact zJ 15 h Tryz.func207
def vD.s1(Q:Int→K)(b:Pt)(c:ByteArray)(k:Int)(l:Bool): K :=
 Ite l
  (Q 1)
  (qo.call b c fun d=>
  New 208 #[.bool false,Sl.val ⟨none,0,0⟩,.int .i64 0,.int .u64 0] fun a=>
  StN a 4 d<|
  Ld (a.add 3) (Value.int .u64) fun f=>
  Ite (decide (f=18446744073709551615))
   (Q 111)
   (St (a.add 2) (.int .i64 k)<|
   Ld (a.add 3) (Value.int .u64) fun g=>
   Ar (IntKind.wrap .u64 (g+1)) fun i=>
   St (a.add 3) (.int .u64 i)<|
   LdN a 4 fun j=>
   zR.call b c j<|
   Q 0))
def vD(c:Pt)(d:ByteArray)(a:Int)(Q:Int→K): K :=
 Ite (decide (a<0))
  (vD.s1 Q c d a true)
  (Nn c fun b=>
  Ld b (Value.int .i64) fun f=>
  vD.s1 Q (some b) d a (decide (f≤a)))
theorem zIT(d f g Q w)(h:vD d f g Q w):vD.call d f g Q w:=by
 have:JH 2 fun D=>∃a b c,D [(0,.pointer a),(1,.string b),(2,.int .i64 c)] (fun C=>∀i,C [(0,.pointer a),(1,.string b),(2,.int .i64 c),(17,.bool i)] (vD.s1 Q a b c i)):=⟨fun _ ⟨_,_,_,h⟩=>⟨_,_,h⟩⟩
 exact zJ 34 h Tryz.func208
def zR.s3(Q:K)(b:Sl→Bool→Int→K)(g:Addr)(i:ByteArray)(j:Addr)(c:Sl)(d:Bool)(f:Int): K :=
 Ar (IntKind.wrap .i64 (f+1)) fun a=>
 b c d a
def zR.s4(Q:K)(d:Sl→Bool→Int→K)(a:Addr)(c:ByteArray)(f:Addr)(g:Sl)(j:Bool)(b:Int): K :=
 Ld (a.add 1) Sl.val fun k=>
 Idx k b 5 fun l=>
 Ld l Value.string fun m=>
 Ite (!(m.toList==c.toList))
  (Ld (a.add 1) Sl.val fun n=>
  Idx n b 5 fun o=>
  LdN o 5 fun p=>
  Bld #[(.string ⟨#[]⟩),.bool false,Sl.val ⟨none,0,0⟩,.int .i64 0,.int .u64 0] (fun i=>some (i*5,5)) [(0,.agg p)] fun q=>
  New 210 q fun r=>
  Do Tryz.prog (Builtin.append_ #[105,105] 105 #[Sl.val g,(Sl.val (Sl.mk (some r) 1 1))]) Sl.val fun s=>
  zR.s3 Q d a c f s j b)
  (zR.s3 Q d a c f g j b)
def zR.s5(Q:K)(c:Sl→Bool→Int→K)(d:Addr)(a:ByteArray)(b:Addr)(f:Sl)(o:Bool)(g:Int)(p:Bool): K :=
 Ite p
  (LdN b 4 fun j=>
  Bld #[(.string ⟨#[]⟩),.bool false,Sl.val ⟨none,0,0⟩,.int .i64 0,.int .u64 0] ([(0,1),(1,4)][·]?) [(0,.string a),(1,.agg j)] fun k=>
  Bld #[(.string ⟨#[]⟩),.bool false,Sl.val ⟨none,0,0⟩,.int .i64 0,.int .u64 0] (fun i=>some (i*5,5)) [(0,.agg k)] fun l=>
  New 210 l fun m=>
  Do Tryz.prog (Builtin.append_ #[105,105] 105 #[Sl.val f,(Sl.val (Sl.mk (some m) 1 1))]) Sl.val fun n=>
  zR.s4 Q c d a b n false g)
  (zR.s4 Q c d a b f o g)
def zR.s6(Q:K)(c:Sl→Bool→Int→K)(a:Addr)(b:Sl): K :=
 St (a.add 1) (Sl.val b)<|
 Q
def zR.b2(Q:K)(c:Sl→Bool→Int→K)(u:Pt)(b:ByteArray)(g:Addr)(d:Sl)(k:Bool)(f:Int): K :=
 Nn u fun a=>
 Ld (a.add 1) Sl.val fun l=>
 Ite (decide (f<(l.n:Int)))
  (Ite k
   (Ld (a.add 1) Sl.val fun m=>
   Idx m f 5 fun o=>
   Ld o Value.string fun j=>
   zR.s5 Q c a b g d true f (!(Op.bytesLess j.toList b.toList||j.toList==b.toList)))
   (zR.s5 Q c a b g d false f false))
  (Ite k
   (LdN g 4 fun p=>
   Bld #[(.string ⟨#[]⟩),.bool false,Sl.val ⟨none,0,0⟩,.int .i64 0,.int .u64 0] ([(0,1),(1,4)][·]?) [(0,.string b),(1,.agg p)] fun q=>
   Bld #[(.string ⟨#[]⟩),.bool false,Sl.val ⟨none,0,0⟩,.int .i64 0,.int .u64 0] (fun i=>some (i*5,5)) [(0,.agg q)] fun r=>
   New 210 r fun s=>
   Do Tryz.prog (Builtin.append_ #[105,105] 105 #[Sl.val d,(Sl.val (Sl.mk (some s) 1 1))]) Sl.val fun t=>
   zR.s6 Q c a t)
   (zR.s6 Q c a d))
def zR.s1(Q:K)(d:Pt)(f:ByteArray)(g:Addr)(i:Sl)(j:Bool): K :=
 zq (α:=Sl×Bool×Int) (fun X x=>zR.b2 Q (fun a b c=>X (a,b,c)) d f g x.1 x.2.1 x.2.2) (i,j,0)
def zR(c:Pt)(d:ByteArray)(i:Av)(Q:K): K :=
 New 208 i fun a=>
 Dr<|yV fun S=>
 LdS S a Value.bool fun f=>
 Ite f
  (New 210 #[] fun b=>
  Sv S<|
  zR.s1 Q c d a (Sl.mk (some b) 0 0) true)
  (LdS S (a.add 3) (Value.int .u64) fun g=>
  New 210 #[] fun b=>
  Sv S<|
  zR.s1 Q c d a (Sl.mk (some b) 0 0) (decide ((0:Int)<g)))
theorem zJK(ac ad ae Q w)(h:zR ac ad ae Q w):zR.call ac ad ae Q w:=by
 have:∀b,XH 3 b→JH 4 fun D=>∃g j k l,D [(0,(.pointer (some g))),(1,.string j),(5,(.pointer (some k))),(8,.int .i64 l)] (fun C=>∀af ag,C [(0,(.pointer (some g))),(1,.string j),(5,(.pointer (some k))),(6,Sl.val af),(7,.bool ag),(8,.int .i64 l)] (zR.s3 Q (fun c d f=>b (c,d,f)) g j k af ag l)):=by intros;exact⟨fun _ ⟨_,_,_,_,h⟩=>⟨_,_,h⟩⟩
 have:∀b,XH 3 b→JH 8 fun D=>∃m n o p,D [(0,(.pointer (some m))),(1,.string n),(5,(.pointer (some o))),(8,.int .i64 p)] (fun C=>∀ah aj,C [(0,(.pointer (some m))),(1,.string n),(5,(.pointer (some o))),(6,Sl.val ah),(7,.bool aj),(8,.int .i64 p)] (zR.s4 Q (fun c d f=>b (c,d,f)) m n o ah aj p)):=by intros;exact⟨fun _ ⟨_,_,_,_,h⟩=>⟨_,_,h⟩⟩
 have:∀b,XH 3 b→JH 6 fun D=>∃q r t u v,D [(0,(.pointer (some q))),(1,.string r),(5,(.pointer (some t))),(6,Sl.val u),(8,.int .i64 v)] (fun C=>∀ak al,C [(0,(.pointer (some q))),(1,.string r),(5,(.pointer (some t))),(6,Sl.val u),(7,.bool ak),(8,.int .i64 v),(38,.bool al)] (zR.s5 Q (fun c d f=>b (c,d,f)) q r t u ak v al)):=by intros;exact⟨fun _ ⟨_,_,_,_,_,h⟩=>⟨_,_,h⟩⟩
 have:∀b,XH 3 b→JH 12 fun D=>∃y,D [(0,(.pointer (some y)))] (fun C=>∀am,C [(0,(.pointer (some y))),(6,Sl.val am)] (zR.s6 Q (fun c d f=>b (c,d,f)) y am)):=by intros;exact⟨fun _ ⟨_,h⟩=>⟨_,_,h⟩⟩
 have:∀an ao ap,LH 3 (fun x:Sl×Bool×Int=>[(0,.pointer an),(1,.string ao),(5,(.pointer (some ap))),(6,Sl.val x.1),(7,.bool x.2.1),(8,.int .i64 x.2.2)]) (fun X x=>zR.b2 Q (fun c d f=>X (c,d,f)) an ao ap x.1 x.2.1 x.2.2):=fun _ _ _=>⟨⟩
 have:JH 2 fun D=>∃z aa ab,D [(0,.pointer z),(1,.string aa),(5,(.pointer (some ab)))] (fun C=>∀aq ar,C [(0,.pointer z),(1,.string aa),(5,(.pointer (some ab))),(6,Sl.val aq),(7,.bool ar)] (zR.s1 Q z aa ab aq ar)):=⟨fun _ ⟨_,_,_,h⟩=>⟨_,_,h⟩⟩
 have:DH 1 2 [] (.s [1,2,3] (.i (.s [4,5,6,7] (.a [(0,1,.s [8,9] .e)])) (.s [4,5,6,7] (.a [(0,1,.s [8,9] .e)])))):=⟨⟩
 exact zJ 76 h Tryz.func210
def zEg(b:Pt)(c:ByteArray)(k:Sl)(Q:K): K :=
 qo.call b c fun d=>
 New 208 #[.bool false,Sl.val ⟨none,0,0⟩,.int .i64 0,.int .u64 0] fun a=>
 StN a 4 d<|
 Dr<|yV fun S=>
 LdS S (a.add 2) (Value.int .i64) fun f=>
 LdS S (a.add 3) (Value.int .u64) fun g=>
 New 5 #[] fun i=>
 Sv S<|
 Do Tryz.prog (Builtin.append_ #[88,88] 88 #[(Sl.val (Sl.mk (some i) 0 0)),Sl.val k]) Sl.val fun j=>
 Sv S<|
 zR.call b c #[.bool true,Sl.val j,.int .i64 f,.int .u64 g]<|
 Q
def zFA(b:Pt)(c:ByteArray)(Q:K): K :=
 qo.call b c fun d=>
 New 208 #[.bool false,Sl.val ⟨none,0,0⟩,.int .i64 0,.int .u64 0] fun a=>
 StN a 4 d<|
 Ld (a.add 2) (Value.int .i64) fun f=>
 Ld (a.add 3) (Value.int .u64) fun g=>
 zR.call b c #[.bool false,Sl.val ⟨none,0,0⟩,.int .i64 f,.int .u64 g]<|
 Q
instance:CB Tryz.prog 177:=⟨by kernel_rfl⟩
instance:CB Tryz.prog 179:=⟨by kernel_rfl⟩
instance:CB Tryz.prog 180:=⟨by kernel_rfl⟩
instance:CB Tryz.prog 181:=⟨by kernel_rfl⟩
instance:CB Tryz.prog 182:=⟨by kernel_rfl⟩
instance:CB Tryz.prog 190:=⟨by kernel_rfl⟩
instance:CB Tryz.prog 192:=⟨by kernel_rfl⟩
instance:CB Tryz.prog 230:=⟨by kernel_rfl⟩
instance:CB Tryz.prog 231:=⟨by kernel_rfl⟩
instance:CB Tryz.prog 233:=⟨by kernel_rfl⟩
instance:ZT Tryz.prog 39 (Sl.val ⟨none,0,0⟩):=⟨Tryz.t39,by kernel_rfl,by kernel_rfl⟩
def qy.s2(Q:Int→K)(a:Bool): K :=
 Ite (!a)
  (Q 1)
  (Q 0)
def qy.s1(Q:Int→K)(p:Int)(a:Addr)(c:Bool): K :=
 Ld a (Value.int .i64) fun b=>
 Ite (decide (b=1))
  (Ite c
   (Ld (a.add 4) (Value.int .i64) fun d=>
   Ite (decide (d=0))
    (Ld (a.add 3) Sl.val fun f=>
    Ite (decide ((f.n:Int)≤16))
     (Ld (a.add 3) Sl.val fun g=>
     xw.call g (.func (.func 178) #[] #[(.pointer (some a))]) fun i=>
     qy.s2 Q (!i))
     (qy.s2 Q false))
    (qy.s2 Q false))
   (qy.s2 Q false))
  (Ite (decide (b=2))
   (Ite c
    (Ld (a.add 1) Sl.val fun j=>
    Ite (decide ((j.n:Int)=0))
     (Ld (a.add 3) Sl.val fun k=>
     Ite (decide ((k.n:Int)=0))
      (Ld (a.add 2) Sl.val fun l=>
      Ite (decide ((l.n:Int)=1))
       (Ld (a.add 4) (Value.int .i64) fun m=>
       Ite (decide ((0:Int)≤m))
        (Ld (a.add 4) (Value.int .i64) fun o=>
        qy.s2 Q (decide (o<p)))
        (qy.s2 Q false))
       (qy.s2 Q false))
      (qy.s2 Q false))
     (qy.s2 Q false))
    (qy.s2 Q false))
   (qy.s2 Q false))
def qy(f:Av)(a:Int)(Q:Int→K): K :=
 New 42 f fun b=>
 Ite (decide ((1:Int)≤a))
  (Ite (decide (a≤3))
   (LdN b 5 fun c=>
   vT.call c fun d=>
   qy.s1 Q a b d)
   (qy.s1 Q a b false))
  (qy.s1 Q a b false)
theorem zNu(c d Q w)(h:qy c d Q w):qy.call c d Q w:=by
 have:JH 9 fun D=>D [] (fun C=>∀f,C [(5,.bool f)] (qy.s2 Q f)):=⟨fun _ h=>⟨_,_,h⟩⟩
 have:JH 2 fun D=>∃a b,D [(1,.int .i64 a),(2,(.pointer (some b)))] (fun C=>∀g,C [(1,.int .i64 a),(2,(.pointer (some b))),(5,.bool g)] (qy.s1 Q a b g)):=⟨fun _ ⟨_,_,h⟩=>⟨_,_,h⟩⟩
 exact zJ 75 h Tryz.func105
def zBV.b1(Q:Av→K)(p:Int→K)(c d:Addr)(q:Sl)(r a:Int): K :=
 Ite (decide (a<r))
  (Idx q a 4 fun f=>
  LdN f 4 fun g=>
  New 217 #[.int .i64 0,(.string ⟨#[]⟩),Sl.val ⟨none,0,0⟩,.int .i64 0] fun b=>
  StN b 4 g<|
  Dr<|yV fun S=>
  LdS S (c.add 3) Sl.val fun i=>
  LdS S (b.add 2) Sl.val fun j=>
  uG.call j fun k=>
  Sv S<|
  Idx i a 4 fun l=>
  St (l.add 2) (Sl.val k)<|
  Ar (IntKind.wrap .i64 (a+1)) fun m=>
  p m)
  (LdN c 5 fun n=>
  StN d 5 n<|
  LdN d 5 fun o=>
  Q o)
def zBV(l:Av)(Q:Av→K): K :=
 New 42 l fun a=>
 New 42 #[.int .i64 0,Sl.val ⟨none,0,0⟩,Sl.val ⟨none,0,0⟩,Sl.val ⟨none,0,0⟩,.int .i64 0] fun c=>
 Dr<|yV fun S=>
 LdS S (a.add 1) Sl.val fun d=>
 LdS S (a.add 2) Sl.val fun f=>
 LdS S (a.add 3) Sl.val fun g=>
 xS.call d fun i=>
 Sv S<|
 xS.call f fun j=>
 Sv S<|
 vN.call g fun k=>
 St (a.add 1) (Sl.val i)<|
 St (a.add 2) (Sl.val j)<|
 St (a.add 3) (Sl.val k)<|
 Ld (a.add 3) Sl.val fun b=>
 zq (α:=Int) (fun X x=>zBV.b1 Q X a c b (b.n:Int) x) 0
theorem zPz(b Q w)(h:zBV b Q w):zBV.call b Q w:=by
 have:DH 5 2 [8] (.s [0,2,3,1,4] (.a [(5,1,.s [6,7] (.a [(8,0,.e)]))])):=⟨⟩
 have:∀c d f g,LH 3 (fun x:Int=>[(1,(.pointer (some c))),(2,(.pointer (some d))),(18,Sl.val f),(19,.int .i64 g),(20,.int .i64 x)]) (fun X x=>zBV.b1 Q X c d f g x):=fun _ _ _ _=>⟨⟩
 have:DH 1 2 [8,10,12,14] (.s [0,3,6,1,4,7] (.a [(2,1,.s [9] (.a [(5,1,.a [(8,0,.a [(10,0,.s [11] (.a [(12,0,.s [13] (.a [(14,0,.e)]))]))])])]))])):=⟨⟩
 exact zJ 35 h Tryz.func106
def zDQ(i:Av)(Q:Sl→K): K :=
 New 42 i fun a=>
 Ld (a.add 1) Sl.val fun c=>
 Ld (a.add 2) Sl.val fun d=>
 New 39 #[Sl.val c,Sl.val d] fun f=>
 zX.call (Sl.mk (some f) 2 2) fun b=>
 uW.call b<|
 zW.call b fun g=>
 Q g
theorem zP0(a Q w)(h:zDQ a Q w):zDQ.call a Q w:=by
 exact zJ 14 h Tryz.func121
def vT.s1(Q:Bool→K)(a:Addr)(d:Bool): K :=
 Ite d
  (Q false)
  (Ld (a.add 1) Sl.val fun b=>
  x9.call b (.func (.func 232) #[] #[(.pointer (some a))]) fun c=>
  Q (!c))
def vT(l:Av)(Q:Bool→K): K :=
 New 42 l fun a=>
 Ld (a.add 1) Sl.val fun b=>
 Ite (decide ((8:Int)<(b.n:Int)))
  (vT.s1 Q a true)
  (Ld (a.add 2) Sl.val fun c=>
  Ld (a.add 1) Sl.val fun d=>
  Ar (IntKind.wrap .i64 (8-(d.n:Int))) fun f=>
  Ite (decide (f<(c.n:Int)))
   (vT.s1 Q a true)
   (Ld (a.add 1) Sl.val fun g=>
   vU.call g fun i=>
   Ite (!i)
    (vT.s1 Q a true)
    (Ld (a.add 2) Sl.val fun j=>
    vU.call j fun k=>
    vT.s1 Q a (!k))))
theorem zKn(b Q w)(h:vT b Q w):vT.call b Q w:=by
 have:JH 2 fun D=>∃a,D [(1,(.pointer (some a)))] (fun C=>∀c,C [(1,(.pointer (some a))),(28,.bool c)] (vT.s1 Q a c)):=⟨fun _ ⟨_,h⟩=>⟨_,_,h⟩⟩
 exact zJ 34 h Tryz.func177
def zEs(f:Av)(g:Addr)(Q:Bool→K): K :=
 New 217 f fun a=>
 LdN g 5 fun b=>
 LdN a 4 fun c=>
 y8.call b c fun d=>
 Q (!d)
theorem zLd(a b Q w)(h:zEs a b Q w):zEs.call a b Q w:=by
 exact zJ 8 h Tryz.func178
def y8.s4(Q:Bool→K)(a:Bool): K :=
 Q a
def y8.s6(Q:Bool→K)(a:Bool): K :=
 Q a
def y8.s5(Q:Bool→K)(a:Addr)(d:Bool)(f:Int)(g:Bool): K :=
 Ite g
  (Ite d
   (Ld (a.add 2) Sl.val fun b=>
   y8.s6 Q (decide ((b.n:Int)=0)))
   (y8.s6 Q false))
  (Ite (decide (f=7))
   (Ld (a.add 1) Value.string fun c=>
   Q (c.toList==(⟨#[]⟩:ByteArray).toList))
   (Q false))
def y8.s3(Q:Bool→K)(b:Addr)(f c:Bool)(a:Int)(g:Bool): K :=
 Ite g
  (Ite f
   (Ld (b.add 2) Sl.val fun d=>
   y8.s4 Q (decide ((d.n:Int)=0)))
   (y8.s4 Q false))
  (Ite (decide (a=4))
   (Q c)
   (Ite (decide (a=1))
    (y8.s5 Q b c a (decide (a=1)))
    (y8.s5 Q b c a (decide (a=5)))))
def y8.s2(Q:Bool→K)(b:Addr)(c d:Bool): K :=
 Ld b (Value.int .i64) fun a=>
 Ite (decide (a=2))
  (Q c)
  (Ite (decide (a=3))
   (y8.s3 Q b c d a (decide (a=3)))
   (y8.s3 Q b c d a (decide (a=6))))
def y8.s1(Q:Bool→K)(b a:Addr)(k:Bool): K :=
 Ite k
  (Q false)
  (Ld (b.add 2) Sl.val fun c=>
  Ld (a.add 1) Value.string fun d=>
  qW.call c d fun f=>
  Ite f
   (y8.s2 Q a true true)
   (Ld (b.add 1) Sl.val fun g=>
   Ld (a.add 1) Value.string fun i=>
   qW.call g i fun j=>
   y8.s2 Q a false j))
def y8(g i:Av)(Q:Bool→K): K :=
 New 42 g fun b=>
 New 217 i fun a=>
 Ld (a.add 2) Sl.val fun c=>
 Ite (decide ((32:Int)<(c.n:Int)))
  (y8.s1 Q b a true)
  (Ld (a.add 3) (Value.int .i64) fun d=>
  Ite (decide (d≠0))
   (Ld a (Value.int .i64) fun f=>
   y8.s1 Q b a (decide (f≠6)))
   (y8.s1 Q b a false))
theorem zP1(j k Q w)(h:y8 j k Q w):y8.call j k Q w:=by
 have:JH 1000010 fun D=>D [] (fun C=>∀l,C [(4,.bool l)] (y8.s4 Q l)):=⟨fun _ h=>⟨_,_,h⟩⟩
 have:JH 1000015 fun D=>D [] (fun C=>∀m,C [(4,.bool m)] (y8.s6 Q m)):=⟨fun _ h=>⟨_,_,h⟩⟩
 have:JH 15 fun D=>∃a b,D [(3,(.pointer (some a))),(35,.int .i64 b)] (fun C=>∀n o,C [(3,(.pointer (some a))),(6,.bool n),(35,.int .i64 b),(52,.bool o)] (y8.s5 Q a n b o)):=⟨fun _ ⟨_,_,h⟩=>⟨_,_,h⟩⟩
 have:JH 10 fun D=>∃c d,D [(3,(.pointer (some c))),(35,.int .i64 d)] (fun C=>∀p q r,C [(3,(.pointer (some c))),(5,.bool p),(6,.bool q),(35,.int .i64 d),(39,.bool r)] (y8.s3 Q c p q d r)):=⟨fun _ ⟨_,_,h⟩=>⟨_,_,h⟩⟩
 have:JH 5 fun D=>∃f,D [(3,(.pointer (some f)))] (fun C=>∀s t,C [(3,(.pointer (some f))),(5,.bool s),(6,.bool t)] (y8.s2 Q f s t)):=⟨fun _ ⟨_,h⟩=>⟨_,_,h⟩⟩
 have:JH 2 fun D=>∃g i,D [(2,(.pointer (some g))),(3,(.pointer (some i)))] (fun C=>∀u,C [(2,(.pointer (some g))),(3,(.pointer (some i))),(20,.bool u)] (y8.s1 Q g i u)):=⟨fun _ ⟨_,_,h⟩=>⟨_,_,h⟩⟩
 exact zJ 67 h Tryz.func179
def vU.s2(Q:Bool→K)(b:Int→K)(f g:Sl)(i c:Int)(d:Bool): K :=
 Ite d
  (Q false)
  (Ar (IntKind.wrap .i64 (c+1)) fun a=>
  b a)
def vU.b1(Q:Bool→K)(f:Int→K)(b c:Sl)(d a:Int): K :=
 Ite (decide (a<d))
  (Idx c a 1 fun i=>
  Ld i Value.string fun g=>
  Ite (g.toList==(⟨#[]⟩:ByteArray).toList)
   (vU.s2 Q f b c d a true)
   (Ite (decide ((16:Int)<(g.size:Int)))
    (vU.s2 Q f b c d a true)
    (Ite (decide ((0:Int)<a))
     (Ar (IntKind.wrap .i64 (a-1)) fun j=>
     Idx b j 1 fun k=>
     Ld k Value.string fun l=>
     vU.s2 Q f b c d a (!(Op.bytesLess l.toList g.toList)))
     (vU.s2 Q f b c d a false))))
  (Q true)
def vU(a:Sl)(Q:Bool→K): K :=
 zq (α:=Int) (fun X x=>vU.b1 Q X a a (a.n:Int) x) 0
theorem zNv(f Q w)(h:vU f Q w):vU.call f Q w:=by
 have:∀g,XH 2 g→JH 5 fun D=>∃a b c d,D [(0,Sl.val a),(5,Sl.val b),(6,.int .i64 c),(7,.int .i64 d)] (fun C=>∀i,C [(0,Sl.val a),(5,Sl.val b),(6,.int .i64 c),(7,.int .i64 d),(31,.bool i)] (vU.s2 Q g a b c d i)):=by intros;exact⟨fun _ ⟨_,_,_,_,h⟩=>⟨_,_,h⟩⟩
 have:∀j k l,LH 2 (fun x:Int=>[(0,Sl.val j),(5,Sl.val k),(6,.int .i64 l),(7,.int .i64 x)]) (fun X x=>vU.b1 Q X j k l x):=fun _ _ _=>⟨⟩
 exact zJ 33 h Tryz.func230
def zDC(c:ByteArray)(d:Addr)(Q:Bool→K): K :=
 Ld (d.add 2) Sl.val fun a=>
 qW.call a c fun b=>
 Q b
theorem zJL(a b Q w)(h:zDC a b Q w):zDC.call a b Q w:=by
 exact zJ 8 h Tryz.func232
instance:CB Tryz.prog 159:=⟨by kernel_rfl⟩
instance:FT Tryz.prog 202 0 0 1:=⟨by kernel_rfl⟩
instance:FT Tryz.prog 274 0 0 1:=⟨by kernel_rfl⟩
instance:PLT Tryz.prog 274 [(0,1)]:=⟨_,Tryz.underlying274,by kernel_rfl⟩
instance:ZT Tryz.prog 274 (.agg #[(Sl.val ⟨none,0,0⟩)]):=⟨Tryz.t274,by kernel_rfl,by kernel_rfl⟩
def vI.b1(Q:K)(q:Int→K)(d:Pt)(a:Int): K :=
 Ite (decide ((128:Int)≤a))
  (Nn d fun b=>
  Ld b Sl.val fun f=>
  Ar (IntKind.wrap .u8 a) fun g=>
  Ar (bitsOf .or .u8 g 128) fun i=>
  New 5 #[.int .u8 i] fun j=>
  Do Tryz.prog (Builtin.append_ #[88,88] 88 #[Sl.val f,(Sl.val (Sl.mk (some j) 1 1))]) Sl.val fun k=>
  St b (Sl.val k)<|
  Cd (0≤(7:Int))<|
  Ar (zIo .u64 a 7) fun l=>
  q l)
  (Nn d fun c=>
  Ld c Sl.val fun m=>
  Ar (IntKind.wrap .u8 a) fun n=>
  New 5 #[.int .u8 n] fun o=>
  Do Tryz.prog (Builtin.append_ #[88,88] 88 #[Sl.val m,(Sl.val (Sl.mk (some o) 1 1))]) Sl.val fun p=>
  St c (Sl.val p)<|
  Q)
def vI(a:Pt)(b:Int)(Q:K): K :=
 zq (α:=Int) (fun X x=>vI.b1 Q X a x) b
theorem zLe(a b Q w)(h:vI a b Q w):vI.call a b Q w:=by
 have:∀c,LH 0 (fun x:Int=>[(0,.pointer c),(1,.int .u64 x)]) (fun X x=>vI.b1 Q X c x):=fun _=>⟨⟩
 exact zJ 31 h Tryz.func97
def zAZ(b:Pt)(c:Sl)(Q:K): K :=
 Ar (IntKind.wrap .u64 (c.n:Int)) fun d=>
 vI.call b d<|
 Nn b fun a=>
 Ld a Sl.val fun f=>
 Do Tryz.prog (Builtin.append_ #[88,88] 88 #[Sl.val f,Sl.val c]) Sl.val fun g=>
 St a (Sl.val g)<|
 Q
theorem zKo(a b Q w)(h:zAZ a b Q w):zAZ.call a b Q w:=by
 exact zJ 18 h Tryz.func100
def zCL(d:Pt)(Q:Sl→K): K :=
 Nn d fun a=>
 Ld a Sl.val fun b=>
 jQ.call b fun c=>
 Q c
theorem zKp(a Q w)(h:zCL a Q w):zCL.call a Q w:=by
 exact zJ 8 h Tryz.func102
instance:AT Tryz.prog 44 3:=⟨by kernel_rfl⟩
instance:CB Tryz.prog 105:=⟨by kernel_rfl⟩
instance:CB Tryz.prog 113:=⟨by kernel_rfl⟩
instance:CB Tryz.prog 119:=⟨by kernel_rfl⟩
instance:CB Tryz.prog 120:=⟨by kernel_rfl⟩
instance:CB Tryz.prog 131:=⟨by kernel_rfl⟩
instance:CB Tryz.prog 132:=⟨by kernel_rfl⟩
instance:CB Tryz.prog 188:=⟨by kernel_rfl⟩
instance:CB Tryz.prog 189:=⟨by kernel_rfl⟩
instance:CB Tryz.prog 56:=⟨by kernel_rfl⟩
instance:CB Tryz.prog 60:=⟨by kernel_rfl⟩
instance:CT Tryz.prog 52:=⟨by kernel_rfl⟩
instance:FT Tryz.prog 44 0 0 1:=⟨by kernel_rfl⟩
instance:FT Tryz.prog 44 1 1 1:=⟨by kernel_rfl⟩
instance:FT Tryz.prog 44 2 2 1:=⟨by kernel_rfl⟩
instance:FT Tryz.prog 46 0 0 3:=⟨by kernel_rfl⟩
instance:FT Tryz.prog 46 1 3 1:=⟨by kernel_rfl⟩
instance:FT Tryz.prog 54 0 0 4:=⟨by kernel_rfl⟩
instance:FT Tryz.prog 54 1 4 5:=⟨by kernel_rfl⟩
instance:FT Tryz.prog 54 2 9 1:=⟨by kernel_rfl⟩
instance:FT Tryz.prog 78 0 0 1:=⟨by kernel_rfl⟩
instance:FT Tryz.prog 78 1 1 1:=⟨by kernel_rfl⟩
instance:FT Tryz.prog 78 2 2 10:=⟨by kernel_rfl⟩
instance:SLT Tryz.prog 317 27 1:=⟨by kernel_rfl⟩
instance:SZ Tryz.prog 44 3:=⟨by kernel_rfl⟩
instance:SZ Tryz.prog 52 1:=⟨by kernel_rfl⟩
instance:ZT Tryz.prog 27 (.int .u64 0):=⟨Tryz.t27,by kernel_rfl,by kernel_rfl⟩
instance:ZT Tryz.prog 3 (.int .i64 0):=⟨Tryz.t3,by kernel_rfl,by kernel_rfl⟩
instance:ZT Tryz.prog 44 (.agg #[(.int .i64 0),(.int .u64 0),(.int .u64 0)]):=⟨Tryz.t44,by kernel_rfl,by kernel_rfl⟩
def zB5(k:Av)(Q:Av→K): K :=
 New 54 k fun a=>
 New 54 #[.int .i64 0,.int .u64 0,.int .u64 0,.int .i64 0,.int .i64 0,Sl.val ⟨none,0,0⟩,Sl.val ⟨none,0,0⟩,Sl.val ⟨none,0,0⟩,.int .i64 0,Sl.val ⟨none,0,0⟩] fun b=>
 Dr<|yV fun S=>
 xJ S (a.add 4) 5 fun c=>
 LdS S (a.add 9) Sl.val fun d=>
 zBV.call c fun f=>
 Sv S<|
 qP.call d fun g=>
 StN (a.add 4) 5 f<|
 St (a.add 9) (Sl.val g)<|
 LdN a 10 fun i=>
 StN b 10 i<|
 LdN b 10 fun j=>
 Q j
theorem zIx(b Q w)(h:zB5 b Q w):zB5.call b Q w:=by
 have:DH 1 2 [5,7,9] (.s [0,3,1,4] (.a [(2,1,.s [6] (.a [(5,0,.a [(7,0,.s [8] (.a [(9,0,.e)]))])]))])):=⟨⟩
 exact zJ 12 h Tryz.func44
def yR.s2(Q:Sl→Int→K)(b:Addr)(l:Bool): K :=
 Ite l
  (Q (Sl.mk none 0 0) 1)
  (New 202 #[Sl.val ⟨none,0,0⟩] fun a=>
  Ld b (Value.int .i64) fun c=>
  Ar (IntKind.wrap .u64 c) fun d=>
  Ld (b.add 1) (Value.int .i64) fun f=>
  Ar (IntKind.wrap .u64 f) fun g=>
  New 27 #[.int .u64 d,.int .u64 g] fun i=>
  zBK.call (some a) (Sl.mk (some i) 2 2)<|
  LdN (b.add 2) 10 fun j=>
  jH.call (some a) j<|
  zCL.call (some a) fun k=>
  Q k 0)
def yR.s1(Q:Sl→Int→K)(a:Addr)(d:Bool): K :=
 Ite (!d)
  (yR.s2 Q a true)
  (LdN (a.add 2) 10 fun b=>
  yK.call b 3 fun c=>
  yR.s2 Q a (decide (c≠0)))
def yR(i:Av)(Q:Sl→Int→K): K :=
 New 78 i fun a=>
 Ld a (Value.int .i64) fun f=>
 Ite (decide (f=1))
  (Ld (a.add 1) (Value.int .i64) fun g=>
  Ite (decide (g=0))
   (yR.s1 Q a true)
   (Ld a (Value.int .i64) fun b=>
   Ite (decide (b=2))
    (Ld (a.add 1) (Value.int .i64) fun c=>
    Ite (decide ((0:Int)≤c))
     (Ld (a.add 1) (Value.int .i64) fun d=>
     yR.s1 Q a (decide (d<64)))
     (yR.s1 Q a false))
    (yR.s1 Q a false)))
  (Ld a (Value.int .i64) fun b=>
  Ite (decide (b=2))
   (Ld (a.add 1) (Value.int .i64) fun c=>
   Ite (decide ((0:Int)≤c))
    (Ld (a.add 1) (Value.int .i64) fun d=>
    yR.s1 Q a (decide (d<64)))
    (yR.s1 Q a false))
   (yR.s1 Q a false))
theorem zJM(c Q w)(h:yR c Q w):yR.call c Q w:=by
 have:JH 3 fun D=>∃a,D [(1,(.pointer (some a)))] (fun C=>∀d,C [(1,(.pointer (some a))),(36,.bool d)] (yR.s2 Q a d)):=⟨fun _ ⟨_,h⟩=>⟨_,_,h⟩⟩
 have:JH 2 fun D=>∃b,D [(1,(.pointer (some b)))] (fun C=>∀f,C [(1,(.pointer (some b))),(4,.bool f)] (yR.s1 Q b f)):=⟨fun _ ⟨_,h⟩=>⟨_,_,h⟩⟩
 exact zJ 54 h Tryz.func54
def yK.s5(Q b:Int→K)(f:Int)(g i:Sl)(j c:Int)(d:Bool): K :=
 Ite d
  (Q 1)
  (Ar (IntKind.wrap .i64 (c+1)) fun a=>
  b a)
def yK.b4(Q i:Int→K)(c:Int)(d f:Sl)(g a:Int): K :=
 Ite (decide (a<g))
  (Idx f a 3 fun j=>
  LdN j 3 fun k=>
  New 231 #[(.string ⟨#[]⟩),.int .i64 0,.int .u64 0] fun b=>
  StN b 3 k<|
  Dr<|
  Ld b Value.string fun l=>
  Idx d a 1 fun m=>
  Ld m Value.string fun n=>
  Ite (!(l.toList==n.toList))
   (yK.s5 Q i c d f g a true)
   (Ld (b.add 1) (Value.int .i64) fun o=>
   Ite (decide (o<0))
    (yK.s5 Q i c d f g a true)
    (Ld (b.add 1) (Value.int .i64) fun p=>
    yK.s5 Q i c d f g a (decide (c≤p)))))
  (Q 0)
def yK.s3(Q:Int→K)(b:Int)(c:Addr)(d:Sl)(f:Bool): K :=
 Ite f
  (Q 1)
  (Ld (c.add 9) Sl.val fun a=>
  zq (α:=Int) (fun X x=>yK.b4 Q X b d a (a.n:Int) x) 0)
def yK.s2(Q:Int→K)(c:Int)(a:Addr)(b:Sl)(f:Bool): K :=
 Ite (!f)
  (yK.s3 Q c a b true)
  (Ld (a.add 9) Sl.val fun d=>
  yK.s3 Q c a b (decide ((d.n:Int)≠(b.n:Int))))
def yK.s1(Q:Int→K)(b:Int)(a d:Addr)(c:Sl): K :=
 LdN (a.add 4) 5 fun f=>
 qy.call f b fun g=>
 Ite (decide (g=0))
  (Ld d (Value.int .i64) fun i=>
  Ite (decide ((0:Int)≤i))
   (Ld d (Value.int .i64) fun j=>
   Ite (decide (j<9))
    (Ld (d.add 1) (Value.int .u64) fun k=>
    Ite (decide ((0:Int)<k))
     (Ld (d.add 2) (Value.int .u64) fun l=>
     Ite (decide ((0:Int)<l))
      (Ld (a.add 3) (Value.int .i64) fun m=>
      Ite (decide ((0:Int)≤m))
       (Ld (a.add 3) (Value.int .i64) fun n=>
       yK.s2 Q b a c (decide (n<3)))
       (yK.s2 Q b a c false))
      (yK.s2 Q b a c false))
     (yK.s2 Q b a c false))
    (yK.s2 Q b a c false))
   (yK.s2 Q b a c false))
  (yK.s2 Q b a c false)
def yK(i:Av)(g:Int)(Q:Int→K): K :=
 New 54 i fun b=>
 Dr<|yV fun S=>
 xJ S b 3 fun d=>
 xJ S (b.add 4) 5 fun f=>
 All [
  (zDQ.call f fun c=>
  Sv S<|
  New 44 #[.int .i64 0,.int .u64 0,.int .u64 0] fun a=>
  Sv S<|
  StN a 3 d<|
  yK.s1 Q g b a c),
  (New 44 #[.int .i64 0,.int .u64 0,.int .u64 0] fun a=>
  Sv S<|
  zDQ.call f fun c=>
  Sv S<|
  StN a 3 d<|
  yK.s1 Q g b a c)
  ]
theorem zMw(q r Q w)(h:yK q r Q w):yK.call q r Q w:=by
 have:∀t,XH 6 t→JH 9 fun D=>∃b c d f g,D [(1,.int .i64 b),(6,Sl.val c),(64,Sl.val d),(65,.int .i64 f),(66,.int .i64 g)] (fun C=>∀u,C [(1,.int .i64 b),(6,Sl.val c),(64,Sl.val d),(65,.int .i64 f),(66,.int .i64 g),(88,.bool u)] (yK.s5 Q t b c d f g u)):=by intros;exact⟨fun _ ⟨_,_,_,_,_,h⟩=>⟨_,_,h⟩⟩
 have:∀v y z aa,LH 6 (fun x:Int=>[(1,.int .i64 v),(6,Sl.val y),(64,Sl.val z),(65,.int .i64 aa),(66,.int .i64 x)]) (fun X x=>yK.b4 Q X v y z aa x):=fun _ _ _ _=>⟨⟩
 have:JH 4 fun D=>∃i j k,D [(1,.int .i64 i),(2,(.pointer (some j))),(6,Sl.val k)] (fun C=>∀ab,C [(1,.int .i64 i),(2,(.pointer (some j))),(6,Sl.val k),(62,.bool ab)] (yK.s3 Q i j k ab)):=⟨fun _ ⟨_,_,_,h⟩=>⟨_,_,h⟩⟩
 have:JH 3 fun D=>∃l m n,D [(1,.int .i64 l),(2,(.pointer (some m))),(6,Sl.val n)] (fun C=>∀ac,C [(1,.int .i64 l),(2,(.pointer (some m))),(6,Sl.val n),(7,.bool ac)] (yK.s2 Q l m n ac)):=⟨fun _ ⟨_,_,_,h⟩=>⟨_,_,h⟩⟩
 have:JH 2 fun D=>∃o p,D [(1,.int .i64 o),(2,(.pointer (some p)))] (fun C=>∀ad ae,C [(1,.int .i64 o),(2,(.pointer (some p))),(5,(.pointer (some ad))),(6,Sl.val ae)] (yK.s1 Q o p ad ae)):=⟨fun _ ⟨_,_,h⟩=>⟨_,_,h⟩⟩
 have:DH 1 2 [7] (.s [0,1,3,2,4] (.a [(5,1,.a [(6,1,.a [(7,0,.s [8] .e)])]),(6,1,.a [(5,1,.a [(7,0,.s [8] .e)])])])):=⟨⟩
 exact zJ 90 h Tryz.func56
def vJ.s2(Q:Sl→K)(c:Sl→Int→K)(a:Sl): K :=
 zBR.call a<|
 yA.call a fun b=>
 Q b
def vJ.b1(Q:Sl→K)(a:Sl→Int→K)(o:Sl)(p:Int)(b:Sl)(c:Int): K :=
 Ite (decide (c<p))
  (Idx o c 3 fun f=>
  LdN f 3 fun g=>
  New 231 #[(.string ⟨#[]⟩),.int .i64 0,.int .u64 0] fun d=>
  StN d 3 g<|
  Ld (d.add 1) (Value.int .i64) fun i=>
  New 3 #[.int .i64 i] fun j=>
  Do Tryz.prog (Builtin.append_ #[94,94] 94 #[Sl.val b,(Sl.val (Sl.mk (some j) 1 1))]) Sl.val fun k=>
  Ar (IntKind.wrap .i64 (c+1)) fun l=>
  a k l)
  (Ite (decide ((b.n:Int)=0))
   (New 3 #[.int .i64 0] fun m=>
   vJ.s2 Q a (Sl.mk (some m) 1 1))
   (vJ.s2 Q a b))
def vJ(f:Av)(Q:Sl→K): K :=
 New 54 f fun b=>
 Ld (b.add 9) Sl.val fun a=>
 zq (α:=Sl×Int) (fun X x=>vJ.b1 Q (fun c d=>X (c,d)) a (a.n:Int) x.1 x.2) ((Sl.mk none 0 0),0)
theorem zMx(c Q w)(h:vJ c Q w):vJ.call c Q w:=by
 have:∀d,XH 2 d→JH 8 fun D=>D [] (fun C=>∀f,C [(2,Sl.val f)] (vJ.s2 Q (fun a b=>d (a,b)) f)):=by intros;exact⟨fun _ h=>⟨_,_,h⟩⟩
 have:∀g i,LH 2 (fun x:Sl×Int=>[(2,Sl.val x.1),(6,Sl.val g),(7,.int .i64 i),(8,.int .i64 x.2)]) (fun X x=>vJ.b1 Q (fun a b=>X (a,b)) g i x.1 x.2):=fun _ _=>⟨⟩
 exact zJ 26 h Tryz.func60
def zAC.s1(Q:Bool→K)(a:Bool): K :=
 Q a
def zAC(f:Av)(Q:Bool→K): K :=
 New 54 f fun a=>
 Ld (a.add 4) (Value.int .i64) fun b=>
 Ite (decide (b=1))
  (LdN a 10 fun c=>
  vJ.call c fun d=>
  zAC.s1 Q (decide ((d.n:Int)=1)))
  (zAC.s1 Q false)
theorem zLf(a Q w)(h:zAC a Q w):zAC.call a Q w:=by
 have:JH 1000001 fun D=>D [] (fun C=>∀b,C [(2,.bool b)] (zAC.s1 Q b)):=⟨fun _ h=>⟨_,_,h⟩⟩
 exact zJ 13 h Tryz.func95
def zBK.b1(Q:K)(f:Int→K)(g:Pt)(i:Sl)(j a:Int): K :=
 Ite (decide (a<j))
  (Idx i a 1 fun b=>
  Ld b (Value.int .u64) fun c=>
  vI.call g c<|
  Ar (IntKind.wrap .i64 (a+1)) fun d=>
  f d)
  (Q)
def zBK(b:Pt)(a:Sl)(Q:K): K :=
 zq (α:=Int) (fun X x=>zBK.b1 Q X b a (a.n:Int) x) 0
theorem zNw(a b Q w)(h:zBK a b Q w):zBK.call a b Q w:=by
 have:∀c d f,LH 1 (fun x:Int=>[(0,.pointer c),(6,Sl.val d),(7,.int .i64 f),(8,.int .i64 x)]) (fun X x=>zBK.b1 Q X c d f x):=fun _ _ _=>⟨⟩
 exact zJ 16 h Tryz.func119
def jH.b2(Q:K)(o l:Int→K)(c:Pt)(m:Sl)(n b:Int): K :=
 Ite (decide (b<n))
  (Idx m b 3 fun d=>
  LdN d 3 fun f=>
  New 231 #[(.string ⟨#[]⟩),.int .i64 0,.int .u64 0] fun a=>
  StN a 3 f<|
  Ld (a.add 1) (Value.int .i64) fun g=>
  Ar (IntKind.wrap .u64 g) fun i=>
  vI.call c i<|
  Ld (a.add 2) (Value.int .u64) fun j=>
  vI.call c j<|
  Ar (IntKind.wrap .i64 (b+1)) fun k=>
  l k)
  (Q)
def jH.b1(Q:K)(f:Int→K)(b:Pt)(s:Addr)(t:Sl)(u c:Int): K :=
 Ite (decide (c<u))
  (Idx t c 4 fun g=>
  LdN g 4 fun i=>
  New 217 #[.int .i64 0,(.string ⟨#[]⟩),Sl.val ⟨none,0,0⟩,.int .i64 0] fun a=>
  StN a 4 i<|
  Ld a (Value.int .i64) fun j=>
  Ar (IntKind.wrap .u64 j) fun k=>
  vI.call b k<|
  Ld (a.add 1) Value.string fun l=>
  Do Tryz.prog (convert 9 88 (.string l)) Sl.val fun m=>
  zAZ.call b m<|
  Ld (a.add 2) Sl.val fun o=>
  zAZ.call b o<|
  Ld (a.add 3) (Value.int .i64) fun p=>
  zCn.call p fun q=>
  vI.call b q<|
  Ar (IntKind.wrap .i64 (c+1)) fun r=>
  f r)
  (Ld (s.add 9) Sl.val fun d=>
  zq (α:=Int) (fun X x=>jH.b2 Q f X b d (d.n:Int) x) 0)
def jH(b:Pt)(v:Av)(Q:K): K :=
 New 54 v fun a=>
 Ld a (Value.int .i64) fun d=>
 Ar (IntKind.wrap .u64 d) fun f=>
 Ld (a.add 1) (Value.int .u64) fun g=>
 Ld (a.add 2) (Value.int .u64) fun i=>
 Ld (a.add 3) (Value.int .i64) fun j=>
 Ar (IntKind.wrap .u64 j) fun k=>
 Ld (a.add 4) (Value.int .i64) fun l=>
 Ar (IntKind.wrap .u64 l) fun m=>
 Ld ((a.add 4).add 4) (Value.int .i64) fun o=>
 Ar (IntKind.wrap .u64 o) fun p=>
 New 27 #[.int .u64 f,.int .u64 g,.int .u64 i,.int .u64 k,.int .u64 m,.int .u64 p] fun q=>
 zBK.call b (Sl.mk (some q) 6 6)<|
 Ld ((a.add 4).add 1) Sl.val fun r=>
 zAk.call b r<|
 Ld ((a.add 4).add 2) Sl.val fun s=>
 zAk.call b s<|
 Ld ((a.add 4).add 3) Sl.val fun t=>
 Ar (IntKind.wrap .u64 (t.n:Int)) fun u=>
 vI.call b u<|
 Ld ((a.add 4).add 3) Sl.val fun c=>
 zq (α:=Int) (fun X x=>jH.b1 Q X b a c (c.n:Int) x) 0
theorem zMy(a b Q w)(h:jH a b Q w):jH.call a b Q w:=by
 have:∀c,XH 6 c→∀d f g,LH 14 (fun x:Int=>[(0,.pointer d),(82,Sl.val f),(83,.int .i64 g),(84,.int .i64 x)]) (fun X x=>jH.b2 Q c X d f g x):=by intros;exact⟨⟩
 have:∀i j k l,LH 6 (fun x:Int=>[(0,.pointer i),(3,(.pointer (some j))),(55,Sl.val k),(56,.int .i64 l),(57,.int .i64 x)]) (fun X x=>jH.b1 Q X i j k l x):=fun _ _ _ _=>⟨⟩
 exact zJ 98 h Tryz.func120
def zAk.b1(Q:K)(g:Int→K)(i:Pt)(j:Sl)(k a:Int): K :=
 Ite (decide (a<k))
  (Idx j a 1 fun b=>
  Ld b Value.string fun c=>
  Do Tryz.prog (convert 9 88 (.string c)) Sl.val fun d=>
  zAZ.call i d<|
  Ar (IntKind.wrap .i64 (a+1)) fun f=>
  g f)
  (Q)
def zAk(b:Pt)(a:Sl)(Q:K): K :=
 Ar (IntKind.wrap .u64 (a.n:Int)) fun c=>
 vI.call b c<|
 zq (α:=Int) (fun X x=>zAk.b1 Q X b a (a.n:Int) x) 0
theorem zMz(a b Q w)(h:zAk a b Q w):zAk.call a b Q w:=by
 have:∀c d f,LH 2 (fun x:Int=>[(0,.pointer c),(11,Sl.val d),(12,.int .i64 f),(13,.int .i64 x)]) (fun X x=>zAk.b1 Q X c d f x):=fun _ _ _=>⟨⟩
 exact zJ 22 h Tryz.func188
def zCn(a:Int)(Q:Int→K): K :=
 Ar (IntKind.wrap .u64 a) fun b=>
 Cd (0≤(1:Int))<|
 Ar (zQT .u64 b 1) fun c=>
 Cd (0≤(63:Int))<|
 Ar (zIo .i64 a 63) fun d=>
 Ar (IntKind.wrap .u64 d) fun f=>
 Ar (bitsOf .xor .u64 c f) fun g=>
 Q g
theorem zLg(a Q w)(h:zCn a Q w):zCn.call a Q w:=by
 exact zJ 10 h Tryz.func189
end
section
open Go Go.Sep
set_option maxHeartbeats 4000000
attribute [local irreducible] zQq
attribute [local irreducible] G Gp Cx Tx Ex Sx Dx Ox Ax Lx Rx Fx Bx Bj Al Do Ld LdN St StN New zI Ar DoU Rd Rd2 Pu Cd Ite Fv vZ zAe uZ yH jm zCj zCt zCx Ext Dead Dr yV Sv LdS xJ RdS zDD Nn Idx zBW zCs Fld Bld Slc zDE Cat All zq jE jY zAp
instance:AT Tryz.prog 78 12:=⟨by kernel_rfl⟩
instance:CB Tryz.prog 10:=⟨by kernel_rfl⟩
instance:CB Tryz.prog 112:=⟨by kernel_rfl⟩
instance:CB Tryz.prog 124:=⟨by kernel_rfl⟩
instance:CB Tryz.prog 127:=⟨by kernel_rfl⟩
instance:CB Tryz.prog 128:=⟨by kernel_rfl⟩
instance:CB Tryz.prog 129:=⟨by kernel_rfl⟩
instance:CB Tryz.prog 130:=⟨by kernel_rfl⟩
instance:CB Tryz.prog 195:=⟨by kernel_rfl⟩
instance:CB Tryz.prog 196:=⟨by kernel_rfl⟩
instance:CB Tryz.prog 197:=⟨by kernel_rfl⟩
instance:CB Tryz.prog 198:=⟨by kernel_rfl⟩
instance:CB Tryz.prog 31:=⟨by kernel_rfl⟩
instance:CB Tryz.prog 40:=⟨by kernel_rfl⟩
instance:CB Tryz.prog 41:=⟨by kernel_rfl⟩
instance:CB Tryz.prog 44:=⟨by kernel_rfl⟩
instance:CB Tryz.prog 54:=⟨by kernel_rfl⟩
instance:CB Tryz.prog 55:=⟨by kernel_rfl⟩
instance:CB Tryz.prog 57:=⟨by kernel_rfl⟩
instance:CB Tryz.prog 58:=⟨by kernel_rfl⟩
instance:CB Tryz.prog 59:=⟨by kernel_rfl⟩
instance:CB Tryz.prog 61:=⟨by kernel_rfl⟩
instance:CB Tryz.prog 62:=⟨by kernel_rfl⟩
instance:CB Tryz.prog 64:=⟨by kernel_rfl⟩
instance:CB Tryz.prog 77:=⟨by kernel_rfl⟩
instance:CB Tryz.prog 82:=⟨by kernel_rfl⟩
instance:CB Tryz.prog 83:=⟨by kernel_rfl⟩
instance:CB Tryz.prog 84:=⟨by kernel_rfl⟩
instance:CB Tryz.prog 85:=⟨by kernel_rfl⟩
instance:CB Tryz.prog 87:=⟨by kernel_rfl⟩
instance:CB Tryz.prog 98:=⟨by kernel_rfl⟩
instance:CB Tryz.prog 99:=⟨by kernel_rfl⟩
instance:CT Tryz.prog 127:=⟨by kernel_rfl⟩
instance:CT Tryz.prog 128:=⟨by kernel_rfl⟩
instance:CT Tryz.prog 131:=⟨by kernel_rfl⟩
instance:CT Tryz.prog 32:=⟨by kernel_rfl⟩
instance:CT Tryz.prog 94:=⟨by kernel_rfl⟩
instance:FT Tryz.prog 130 0 0 1:=⟨by kernel_rfl⟩
instance:FT Tryz.prog 130 1 1 1:=⟨by kernel_rfl⟩
instance:FT Tryz.prog 130 2 2 1:=⟨by kernel_rfl⟩
instance:FT Tryz.prog 130 3 3 1:=⟨by kernel_rfl⟩
instance:FT Tryz.prog 130 4 4 1:=⟨by kernel_rfl⟩
instance:FT Tryz.prog 160 0 0 10:=⟨by kernel_rfl⟩
instance:FT Tryz.prog 160 1 10 1:=⟨by kernel_rfl⟩
instance:FT Tryz.prog 182 0 0 1:=⟨by kernel_rfl⟩
instance:FT Tryz.prog 182 1 1 1:=⟨by kernel_rfl⟩
instance:PLT Tryz.prog 115 [(0,4),(4,2)]:=⟨_,Tryz.underlying115,by kernel_rfl⟩
instance:PLT Tryz.prog 130 [(0,1),(1,1),(2,1),(3,1),(4,1)]:=⟨_,Tryz.underlying130,by kernel_rfl⟩
instance:PLT Tryz.prog 160 [(0,10),(10,1)]:=⟨_,Tryz.underlying160,by kernel_rfl⟩
instance:PLT Tryz.prog 182 [(0,1),(1,1)]:=⟨_,Tryz.underlying182,by kernel_rfl⟩
instance:SLT Tryz.prog 127 131 1:=⟨by kernel_rfl⟩
instance:SLT Tryz.prog 81 115 6:=⟨by kernel_rfl⟩
instance:SZ Tryz.prog 122 1:=⟨by kernel_rfl⟩
instance:SZ Tryz.prog 127 1:=⟨by kernel_rfl⟩
instance:SZ Tryz.prog 128 1:=⟨by kernel_rfl⟩
instance:SZ Tryz.prog 131 1:=⟨by kernel_rfl⟩
instance:SZ Tryz.prog 94 1:=⟨by kernel_rfl⟩
instance:UN Tryz.prog 155 (.pointer 160):=⟨Tryz.underlying155⟩
instance:ZT Tryz.prog 115 (.agg #[(.int .i64 0),(.int .u64 0),(.int .u64 0),(.int .i64 0),(.int .i64 0),(Sl.val ⟨none,0,0⟩)]):=⟨Tryz.t115,by kernel_rfl,by kernel_rfl⟩
instance:ZT Tryz.prog 130 (.agg #[(.pointer none),(.pointer none),(Sl.val ⟨none,0,0⟩),(Sl.val ⟨none,0,0⟩),(Sl.val ⟨none,0,0⟩)]):=⟨Tryz.t130,by kernel_rfl,by kernel_rfl⟩
instance:ZT Tryz.prog 131 (.pointer none):=⟨Tryz.t131,by kernel_rfl,by kernel_rfl⟩
instance:ZT Tryz.prog 155 (.pointer none):=⟨Tryz.t155,by kernel_rfl,by kernel_rfl⟩
instance:ZT Tryz.prog 160 (.agg #[(.int .i64 0),(.int .u64 0),(.int .u64 0),(.int .i64 0),(.int .i64 0),(Sl.val ⟨none,0,0⟩),(Sl.val ⟨none,0,0⟩),(Sl.val ⟨none,0,0⟩),(.int .i64 0),(Sl.val ⟨none,0,0⟩),(Sl.val ⟨none,0,0⟩)]):=⟨Tryz.t160,by kernel_rfl,by kernel_rfl⟩
instance:ZT Tryz.prog 182 (.agg #[(.pointer none),(.bool false)]):=⟨Tryz.t182,by kernel_rfl,by kernel_rfl⟩
def uI.b2(Q:Pt→Int→K)(k:Int→K)(c:Pt)(l a:Int): K :=
 Ite (decide (a<l))
  (Dr<|yV fun S=>
  Nn c fun b=>
  LdS S (b.add 2) Sl.val fun d=>
  zBf.call a fun f=>
  Sv S<|
  New 131 #[.pointer f] fun g=>
  Sv S<|
  Do Tryz.prog (Builtin.append_ #[127,127] 127 #[Sl.val d,(Sl.val (Sl.mk (some g) 1 1))]) Sl.val fun i=>
  St (b.add 2) (Sl.val i)<|
  Ar (IntKind.wrap .i64 (a+1)) fun j=>
  k j)
  (Q c 0)
def uI.s1(Q:Pt→Int→K)(a:Int)(b:Pt): K :=
 zq (α:=Int) (fun X x=>uI.b2 Q X b a x) 0
def uI(a:Int)(Q:Pt→Int→K): K :=
 zBr.call a fun f g=>
 Ite (decide (g≠0))
  (Q none g)
  (Dr<|
  All [
   (zDP.call  fun b=>
   Do Tryz.prog (Instr.makeSlice 94 (.int .i64 a) (.int .i64 a)) Sl.val fun c=>
   New 130 #[.pointer f,.pointer b,Sl.val ⟨none,0,0⟩,Sl.val c,Sl.val ⟨none,0,0⟩] fun d=>
   uI.s1 Q a (some d)),
   (Do Tryz.prog (Instr.makeSlice 94 (.int .i64 a) (.int .i64 a)) Sl.val fun c=>
   zDP.call  fun b=>
   New 130 #[.pointer f,.pointer b,Sl.val ⟨none,0,0⟩,Sl.val c,Sl.val ⟨none,0,0⟩] fun d=>
   uI.s1 Q a (some d))
   ])
theorem zJ9(c Q w)(h:uI c Q w):uI.call c Q w:=by
 have:DH 8 2 [8,11] (.s [0,1,2,3,5,4] (.a [(6,1,.a [(7,1,.a [(8,0,.s [9,10] (.a [(11,0,.e)]))])])])):=⟨⟩
 have:∀d f,LH 6 (fun x:Int=>[(6,.pointer d),(22,.int .i64 f),(23,.int .i64 x)]) (fun X x=>uI.b2 Q X d f x):=fun _ _=>⟨⟩
 have:JH 5 fun D=>∃b,D [(0,.int .i64 b)] (fun C=>∀g,C [(0,.int .i64 b),(6,.pointer g)] (uI.s1 Q b g)):=⟨fun _ ⟨_,h⟩=>⟨_,_,h⟩⟩
 have:DH 4 0 [] (.s [0,2] (.a [(1,0,.a [(3,0,.s [4] (.a [(5,0,.s [6] .e)]))]),(3,0,.a [(1,0,.s [4] (.a [(5,0,.s [6] .e)]))])])):=⟨⟩
 exact zJ 39 h Tryz.func10
def zf.s3(Q:Sl→K)(a k l:Addr)(m:Sl)(n:Pt): K :=
 Nn n fun b=>
 Ld (b.add 10) Sl.val fun c=>
 yc.call c (.func (.func 63) #[] #[(.pointer (some k))]) fun d=>
 St (b.add 10) (Sl.val d)<|
 Dr<|
 Ld (a.add 1) Value.pointer fun f=>
 Ld a Value.pointer fun g=>
 LdN l 4 fun i=>
 yu.call f g i m<|
 vM.call (some a) fun j=>
 Q j
def zf.s2(Q:Sl→K)(b a c d:Addr)(l:Sl)(f:Pt): K :=
 Ld c (Value.int .i64) fun g=>
 Ite (decide (g=2))
  (LdN (c.add 2) 10 fun i=>
  Ld a (Value.int .i64) fun j=>
  jZ.call i j fun k=>
  zf.s3 Q b a d k f)
  (zf.s3 Q b a d l f)
def zf.s4(Q:Sl→K)(a d b f:Addr)(g:Sl)(i:Pt)(s:Bool): K :=
 Ite s
  (vM.call (some a) fun j=>
  Q j)
  (Ite ((i).isNone)
   (Dr<|yV fun S=>
   xJ S (b.add 2) 10 fun k=>
   xJ S (b.add 2) 10 fun l=>
   zB5.call k fun m=>
   Sv S<|
   vJ.call l fun n=>
   Bld #[.int .i64 0,.int .u64 0,.int .u64 0,.int .i64 0,.int .i64 0,Sl.val ⟨none,0,0⟩,Sl.val ⟨none,0,0⟩,Sl.val ⟨none,0,0⟩,.int .i64 0,Sl.val ⟨none,0,0⟩,Sl.val ⟨none,0,0⟩] ([(0,10),(10,1)][·]?) [(0,.agg m),(1,Sl.val n)] fun o=>
   New 160 o fun c=>
   Ld (a.add 4) Sl.val fun p=>
   New 155 #[(.pointer (some c))] fun q=>
   Do Tryz.prog (Builtin.append_ #[128,128] 128 #[Sl.val p,(Sl.val (Sl.mk (some q) 1 1))]) Sl.val fun r=>
   St (a.add 4) (Sl.val r)<|
   zf.s2 Q a d b f g (some c))
   (zf.s2 Q a d b f g i))
def zf.s1(Q:Sl→K)(y:Pt)(d a:Addr)(z:Bool): K :=
 Ite z
  (Q (Sl.mk none 0 0))
  (Dr<|
  Nn y fun b=>
  Ld (b.add 3) Sl.val fun g=>
  Ld d (Value.int .i64) fun i=>
  Idx g i 1 fun k=>
  Ld k (Value.int .i64) fun l=>
  Ar (IntKind.wrap .i64 (l+1)) fun m=>
  Idx g i 1 fun n=>
  St n (.int .i64 m)<|
  Dr<|
  Ld (b.add 2) Sl.val fun o=>
  Ld d (Value.int .i64) fun p=>
  Idx o p 1 fun q=>
  Ld q Value.pointer fun r=>
  LdN a 12 fun s=>
  yh.call r s fun t=>
  Ite (!t)
   (Q (Sl.mk none 0 0))
   (Dr<|yV fun S=>
   xJ S (a.add 2) 4 fun u=>
   LdS S ((a.add 2).add 9) Sl.val fun j=>
   New 46 #[.int .i64 0,.int .u64 0,.int .u64 0,.int .i64 0] fun c=>
   Sv S<|
   StN c 4 u<|
   Sv S<|
   LdN c 4 fun v=>
   zBE.call (some b) v fun f=>
   Ite (!(f).isNone)
    (Ld a (Value.int .i64) fun x=>
    zf.s4 Q b d a c j f (decide (x=1)))
    (zf.s4 Q b d a c j f false)))
def zf(c:Pt)(o:Int)(p:Av)(Q:Sl→K): K :=
 New 3 #[.int .i64 o] fun b=>
 New 78 p fun a=>
 LdN a 12 fun f=>
 yR.call f fun q g=>
 Dr<|yV fun S=>
 Ite (decide (g≠0))
  (zf.s1 Q c b a true)
  (LdS S b (Value.int .i64) fun i=>
  vQ.call c i fun j=>
  Sv S<|
  Ite (!j)
   (zf.s1 Q c b a true)
   (Nn c fun d=>
   xJ S (a.add 2) 10 fun k=>
   LdS S (d.add 3) Sl.val fun l=>
   yK.call k (l.n:Int) fun m=>
   zf.s1 Q (some d) b a (decide (m≠0))))
theorem zIU(y z aa Q w)(h:zf y z aa Q w):zf.call y z aa Q w:=by
 have:DH 17 1 [10] (.s [0,1,2,4,5,6,9,3,7,8] (.a [(10,0,.e)])):=⟨⟩
 have:JH 16 fun D=>∃b c d f,D [(0,(.pointer (some b))),(4,(.pointer (some c))),(9,(.pointer (some d))),(11,.pointer f)] (fun C=>∀ab,C [(0,(.pointer (some b))),(4,(.pointer (some c))),(9,(.pointer (some d))),(10,Sl.val ab),(11,.pointer f)] (zf.s3 Q b c d ab f)):=⟨fun _ ⟨_,_,_,_,h⟩=>⟨_,_,h⟩⟩
 have:JH 14 fun D=>∃g j k l m,D [(0,(.pointer (some g))),(4,(.pointer (some j))),(5,(.pointer (some k))),(9,(.pointer (some l))),(10,Sl.val m)] (fun C=>∀ac,C [(0,(.pointer (some g))),(4,(.pointer (some j))),(5,(.pointer (some k))),(9,(.pointer (some l))),(10,Sl.val m),(11,.pointer ac)] (zf.s2 Q g j k l m ac)):=⟨fun _ ⟨_,_,_,_,_,h⟩=>⟨_,_,h⟩⟩
 have:DH 12 2 [5,7] (.s [0,3,1,4] (.a [(2,1,.a [(5,0,.s [6] (.a [(7,0,.s [8] .e)]))])])):=⟨⟩
 have:JH 10 fun D=>∃n o p q r t,D [(0,(.pointer (some n))),(4,(.pointer (some o))),(5,(.pointer (some p))),(9,(.pointer (some q))),(10,Sl.val r),(11,.pointer t)] (fun C=>∀ad,C [(0,(.pointer (some n))),(4,(.pointer (some o))),(5,(.pointer (some p))),(9,(.pointer (some q))),(10,Sl.val r),(11,.pointer t),(64,.bool ad)] (zf.s4 Q n o p q r t ad)):=⟨fun _ ⟨_,_,_,_,_,_,h⟩=>⟨_,_,h⟩⟩
 have:DH 7 2 [] (.s [0,1,3,4,2,5] (.a [(6,1,.a [(7,1,.s [8] .e)])])):=⟨⟩
 have:DH 5 1 [8] (.s [0,1,2,3,4,5,6,7] (.a [(8,0,.s [9] .e)])):=⟨⟩
 have:DH 4 1 [9] (.s [0,1,2,3,4,5,6,7,8] (.a [(9,0,.e)])):=⟨⟩
 have:JH 3 fun D=>∃u v x,D [(0,.pointer u),(4,(.pointer (some v))),(5,(.pointer (some x)))] (fun C=>∀ae,C [(0,.pointer u),(4,(.pointer (some v))),(5,(.pointer (some x))),(35,.bool ae)] (zf.s1 Q u v x ae)):=⟨fun _ ⟨_,_,_,h⟩=>⟨_,_,h⟩⟩
 have:DH 2 2 [16] (.s [0,1,2] (.i (.s [3,4,5,6,7,8,9,10,11,12,13,14,15,16,17,18] .e) (.s [3,4] (.a [(5,1,.s [6,7,8] (.i (.s [9,10,11,12,13,14,15,16,17,18] .e) (.s [9,11,12,13,10,14,15] (.a [(16,0,.s [17,18] .e)]))))])))):=⟨⟩
 exact zJ 124 h Tryz.func20
def uP(l:Pt)(m n:Av)(Q:Av→K): K :=
 New 46 m fun b=>
 New 42 n fun c=>
 New 54 #[.int .i64 0,.int .u64 0,.int .u64 0,.int .i64 0,.int .i64 0,Sl.val ⟨none,0,0⟩,Sl.val ⟨none,0,0⟩,Sl.val ⟨none,0,0⟩,.int .i64 0,Sl.val ⟨none,0,0⟩] fun a=>
 Dr<|
 Nn l fun d=>
 Ld d Value.pointer fun f=>
 LdN b 4 fun g=>
 LdN c 5 fun i=>
 zEC.call f g i fun j=>
 StN a 10 j<|
 LdN a 10 fun k=>
 Q k
theorem zEn(b c d Q w)(h:uP b c d Q w):uP.call b c d Q w:=by
 have:DH 1 1 [6,7] (.s [0,1,2,3,4,5] (.a [(6,0,.a [(7,0,.e)])])):=⟨⟩
 exact zJ 14 h Tryz.func43
def vQ.s1(Q:Bool→K)(a:Bool): K :=
 Q a
def vQ(d:Pt)(a:Int)(Q:Bool→K): K :=
 Ite (decide ((0:Int)≤a))
  (Nn d fun b=>
  Ld (b.add 3) Sl.val fun c=>
  vQ.s1 Q (decide (a<(c.n:Int))))
  (vQ.s1 Q false)
theorem zHc(a b Q w)(h:vQ a b Q w):vQ.call a b Q w:=by
 have:JH 1000001 fun D=>D [] (fun C=>∀c,C [(4,.bool c)] (vQ.s1 Q c)):=⟨fun _ h=>⟨_,_,h⟩⟩
 exact zJ 16 h Tryz.func55
def zBE(j:Pt)(k:Av)(Q:Pt→K): K :=
 New 46 k fun c=>
 Nn j fun a=>
 Ld (a.add 4) Sl.val fun d=>
 yg.call d (.func (.func 125) #[] #[(.pointer (some c))]) fun b=>
 Ite (decide (b<0))
  (Q none)
  (Ld (a.add 4) Sl.val fun f=>
  Idx f b 1 fun g=>
  Ld g Value.pointer fun i=>
  Q i)
theorem zIV(a b Q w)(h:zBE a b Q w):zBE.call a b Q w:=by
 exact zJ 21 h Tryz.func58
def vM.b1(Q ah:Sl→K)(a:Addr)(d:Sl): K :=
 Ld a Value.pointer fun f=>
 Nn f fun g=>
 Ld (g.add 4) Sl.val fun j=>
 yg.call j (.func (.func 126) #[] #[(.pointer (some a))]) fun b=>
 Ite (decide (b<0))
  (Q d)
  (Ld a Value.pointer fun k=>
  Nn k fun l=>
  Ld (l.add 4) Sl.val fun m=>
  Idx m b 1 fun n=>
  Ld n Value.pointer fun o=>
  Nn o fun p=>
  LdN p 10 fun q=>
  New 54 #[.int .i64 0,.int .u64 0,.int .u64 0,.int .i64 0,.int .i64 0,Sl.val ⟨none,0,0⟩,Sl.val ⟨none,0,0⟩,Sl.val ⟨none,0,0⟩,.int .i64 0,Sl.val ⟨none,0,0⟩] fun c=>
  StN c 10 q<|
  Dr<|yV fun S=>
  Ar (IntKind.wrap .i64 (b+1)) fun r=>
  LdS S a Value.pointer fun s=>
  LdS S a Value.pointer fun t=>
  Nn t fun u=>
  LdS S (u.add 4) Sl.val fun v=>
  xu.call v b r fun x=>
  Sv S<|
  Nn s fun y=>
  St (y.add 4) (Sl.val x)<|
  Dr<|yV fun S=>
  xJ S c 4 fun z=>
  LdS S a Value.pointer fun aa=>
  xJ S c 10 fun ab=>
  yG.call aa ab fun ac=>
  Sv S<|
  Bld #[.int .i64 0,.int .u64 0,.int .u64 0,.int .i64 0,.int .i64 0,Sl.val ⟨none,0,0⟩] ([(0,4),(4,2)][·]?) [(0,.agg z),(1,.agg ac)] fun ad=>
  Bld #[.int .i64 0,.int .u64 0,.int .u64 0,.int .i64 0,.int .i64 0,Sl.val ⟨none,0,0⟩] (fun i=>some (i*6,6)) [(0,.agg ad)] fun ae=>
  New 115 ae fun af=>
  Do Tryz.prog (Builtin.append_ #[81,81] 81 #[Sl.val d,(Sl.val (Sl.mk (some af) 1 1))]) Sl.val fun ag=>
  ah ag)
def vM(b:Pt)(Q:Sl→K): K :=
 New 32 #[.pointer b] fun a=>
 zq (α:=Sl) (fun X x=>vM.b1 Q X a x) (Sl.mk none 0 0)
theorem zIW(b Q w)(h:vM b Q w):vM.call b Q w:=by
 have:DH 6 2 [7,8] (.s [0,1,2,3,4] (.a [(5,1,.s [6] (.a [(7,0,.a [(8,0,.s [9] .e)])]))])):=⟨⟩
 have:DH 5 2 [11] (.s [5,6,7,0,1,2,3,4] (.a [(8,1,.s [9,10] (.a [(11,0,.e)]))])):=⟨⟩
 have:∀c,LH 1 (fun x:Sl=>[(1,(.pointer (some c))),(2,Sl.val x)]) (fun X x=>vM.b1 Q X c x):=fun _=>⟨⟩
 exact zJ 44 h Tryz.func59
def zB6(b:Int)(c:Addr)(Q:Bool→K): K :=
 Ld c (Value.int .i64) fun a=>
 Q (decide (b=a))
theorem zGk(a b Q w)(h:zB6 a b Q w):zB6.call a b Q w:=by
 exact zJ 7 h Tryz.func63
def zB7(f:Pt)(g:Addr)(Q:Bool→K): K :=
 Dr<|
 Nn f fun c=>
 LdN c 4 fun a=>
 LdN g 4 fun b=>
 Pu Tryz.prog (do eqGuard .eql 46 (.tmp 8) (.tmp 9) (.agg a) (.agg b);binOp .eql 46 (.agg a) (.agg b):Sem Value) Value.bool fun d=>
 Q d
theorem zGl(a b Q w)(h:zB7 a b Q w):zB7.call a b Q w:=by
 exact zJ 11 h Tryz.func125
def vH.s1(Q:Bool→K)(a:Bool): K :=
 Q a
def vH(s:Pt)(c:Addr)(Q:Bool→K): K :=
 Nn s fun b=>
 LdN b 4 fun d=>
 New 46 #[.int .i64 0,.int .u64 0,.int .u64 0,.int .i64 0] fun a=>
 StN a 4 d<|
 Dr<|yV fun S=>
 LdS S (b.add 10) Sl.val fun f=>
 Ite (decide ((f.n:Int)=0))
  (LdS S c Value.pointer fun g=>
  Nn g fun i=>
  LdS S (i.add 1) Value.pointer fun j=>
  xJ S a 4 fun k=>
  jd.call j k fun l=>
  Sv S<|
  Ite l
   (vH.s1 Q true)
   (LdS S c Value.pointer fun m=>
   Nn m fun o=>
   LdS S (o.add 1) Value.pointer fun p=>
   xJ S a 4 fun q=>
   qd.call p q fun r=>
   vH.s1 Q r))
  (vH.s1 Q false)
theorem zGm(b c Q w)(h:vH b c Q w):vH.call b c Q w:=by
 have:JH 1000002 fun D=>D [] (fun C=>∀d,C [(3,.bool d)] (vH.s1 Q d)):=⟨fun _ h=>⟨_,_,h⟩⟩
 have:DH 2 2 [19] (.s [0,1,2,3,4,5,6] (.i (.s [7,8,9,10,11] (.a [(12,1,.s [13] (.i (.s [14,15,16,17,18,19,20,21,22] .e) (.s [14,15,16,17,18] (.a [(19,0,.s [20,21,22] .e)]))))])) (.s [7,8,9,10,11,12,13,14,15,16,17,18,19,20,21,22] .e))):=⟨⟩
 exact zJ 32 h Tryz.func126
def yG.s2(Q:Av→K)(a d:Addr)(f:Pt)(g:Av): K :=
 LdN d 2 fun b=>
 StN a 2 b<|
 qK.zT7 f g<|
 LdN a 2 fun c=>
 Q c
def yG.s3(Q:Av→K)(a b c d:Addr)(f:Pt)(g:Av)(p:Bool): K :=
 Ite p
  (Dr<|
  Ld (a.add 1) Value.pointer fun i=>
  LdN b 4 fun j=>
  qK.call i j<|
  Dr<|
  Ld (a.add 1) Value.pointer fun k=>
  Ld a Value.pointer fun l=>
  Ld ((b.add 4).add 2) Sl.val fun m=>
  Idx m 0 1 fun n=>
  Ld n Value.string fun o=>
  qz.call k l o<|
  yG.s2 Q c d f g)
  (yG.s2 Q c d f g)
def yG.s1(Q:Av→K)(a b d c:Addr)(l:Sl)(f:Pt)(g:Av): K :=
 Ld a Value.pointer fun i=>
 vK.call i l<|
 Ld (b.add 4) (Value.int .i64) fun j=>
 Ite (decide (j=2))
  (Ld c (Value.int .i64) fun k=>
  yG.s3 Q a b d c f g (decide (k=0)))
  (yG.s3 Q a b d c f g false)
def yG(q:Pt)(r:Av)(Q:Av→K): K :=
 New 54 r fun a=>
 New 49 #[.int .i64 0,Sl.val ⟨none,0,0⟩] fun d=>
 Dr<|
 Nn q fun b=>
 Ld (b.add 1) Value.pointer fun f=>
 LdN a 4 fun g=>
 Dr<|
 Ld (b.add 1) Value.pointer fun m=>
 LdN a 4 fun n=>
 jd.call m n fun o=>
 Ite o
  (StN d 2 #[.int .i64 112,Sl.val ⟨none,0,0⟩]<|
  qK.zT7 f g<|
  LdN d 2 fun p=>
  Q p)
  (Dr<|yV fun S=>
  LdS S b Value.pointer fun k=>
  xJ S (a.add 4) 5 fun l=>
  All [
   (u6.call k l fun i j=>
   New 49 #[.int .i64 0,Sl.val ⟨none,0,0⟩] fun c=>
   StN c 2 i<|
   yG.s1 Q b a d c j f g),
   (New 49 #[.int .i64 0,Sl.val ⟨none,0,0⟩] fun c=>
   Sv S<|
   u6.call k l fun i j=>
   StN c 2 i<|
   yG.s1 Q b a d c j f g)
   ])
theorem zGn(t u Q w)(h:yG t u Q w):yG.call t u Q w:=by
 have:JH 9 fun D=>∃b c d f,D [(4,(.pointer (some b))),(5,(.pointer (some c))),(10,.pointer d),(12,.agg f)] (fun C=>C [(4,(.pointer (some b))),(5,(.pointer (some c))),(10,.pointer d),(12,.agg f)] (yG.s2 Q b c d f)):=⟨fun _ ⟨_,_,_,_,h⟩=>⟨_,_,h⟩⟩
 have:DH 8 1 [13] (.s [0,1,2,4,5,6,8,9,3,7,10,11,12] (.a [(13,0,.e)])):=⟨⟩
 have:DH 7 1 [6] (.s [0,1,2,4,3,5] (.a [(6,0,.e)])):=⟨⟩
 have:JH 7 fun D=>∃g i j k l m,D [(0,(.pointer (some g))),(3,(.pointer (some i))),(4,(.pointer (some j))),(5,(.pointer (some k))),(10,.pointer l),(12,.agg m)] (fun C=>∀v,C [(0,(.pointer (some g))),(3,(.pointer (some i))),(4,(.pointer (some j))),(5,(.pointer (some k))),(10,.pointer l),(12,.agg m),(45,.bool v)] (yG.s3 Q g i j k l m v)):=⟨fun _ ⟨_,_,_,_,_,_,h⟩=>⟨_,_,h⟩⟩
 have:JH 5 fun D=>∃n o p q r,D [(0,(.pointer (some n))),(3,(.pointer (some o))),(4,(.pointer (some p))),(10,.pointer q),(12,.agg r)] (fun C=>∀x y,C [(0,(.pointer (some n))),(3,(.pointer (some o))),(4,(.pointer (some p))),(5,(.pointer (some x))),(6,Sl.val y),(10,.pointer q),(12,.agg r)] (yG.s1 Q n o p x y q r)):=⟨fun _ ⟨_,_,_,_,_,h⟩=>⟨_,_,h⟩⟩
 have:DH 4 2 [6,11] (.s [0,1,2,4,3,5] (.a [(6,0,.s [7,8,9] (.a [(10,0,.a [(11,0,.s [12] .e)])])),(10,1,.a [(6,0,.s [7,8,9] (.a [(11,0,.s [12] .e)]))])])):=⟨⟩
 have:DH 2 1 [6] (.s [0,1,2,4,3,5] (.a [(6,0,.e)])):=⟨⟩
 have:DH 1 1 [6] (.s [0,1,2,4,3,5] (.a [(6,0,.e)])):=⟨⟩
 exact zJ 68 h Tryz.func130
end
section
open Go Go.Sep Go.Sep.Bt
abbrev zAL(x:zCF):List Value:=[.string x.1,.bool x.2.1.has,x.2.2.val,.int .i64 x.2.1.home,.int .u64 x.2.1.cnt]
theorem zBy(x:zCF):(zAL x).length=5:=rfl
theorem zKA(L:List zCF):∀v∈L.flatMap zAL,qD v=true:=fun v hv=>by
 obtain⟨x,_,hx⟩:=zhS.1 hv;simp only[zAL,zgS,zhg,or_false] at hx;rcases hx with rfl|rfl|rfl|rfl|rfl <;> rfl
abbrev Pool:=List (Sl×List UInt8)
abbrev uN(P:Pool):zB:=Sep.stars (P.map fun p=>Bytes qO p.1 p.2)
def inP(P:Pool)(s:Sl)(xs:List UInt8):Prop:=(xs=[]∧s.n=0)∨(s,xs)∈P
theorem inP.mono{P P':Pool}{s:Sl}{xs:List UInt8}(h:inP P s xs)(hP:∀x∈P,x∈P'):inP P' s xs:=h.imp id (hP _)
theorem zYB{w:World}{s:Sl}(h:s.n=0):RdB w s []:=⟨by simp[h],fun _=>h,fun a _ i hi=>by simp at hi⟩
theorem zTA{B w:World}{Γ:List zB}{α:Type}{F:α→zB}{l:List α}{x:α}(hx:x∈l)(h:Holds B (Sep.stars (l.map F)::Γ) w):∃Δ,Holds B (F x::Δ) w:=by
 obtain⟨A,C,rfl⟩:=zhf hx;exact⟨_,((Holds.flat.1 h).perm zHL).perm zhq⟩
theorem inP.rd{B w:World}{Γ:List zB}{P:Pool}{s:Sl}{xs:List UInt8}(h:inP P s xs)(hw:Holds B (uN P::Γ) w):RdB w s xs:=by
 rcases h with⟨rfl,h⟩|h
 ·exact zYB h
 ·obtain⟨Δ,h2⟩:=zTA h hw;exact h2.rdC zgN
theorem zTB(l:List UInt8){n:Nat}(hn:1≤n):zCP l n=l.foldl (fun s b=>s+b.toNat) 0%n:=by
 unfold zCP;have key:∀(l:List UInt8) (a b:Nat),a=b%n→l.foldl (fun s b=>(s+b.toNat)%n) a=l.foldl (fun s b=>s+b.toNat) b%n:=by
  intro l
  induction l with
  | nil=>intro a b h;exact h
  | cons x l ih=>intro a b h;exact ih _ _ (by show(a+x.toNat)%n=(b+x.toNat)%n;rw[h,Nat.mod_add_mod])
 exact key l 0 0 (by simp)
theorem zcl(l:List UInt8)(a:Nat):l.foldl (fun s b=>s+b.toNat) a≤a+255*l.length:=by
 induction l generalizing a with
 | nil=>simp
 | cons x l ih=>
  have h1:=ih (a+x.toNat);have h2:x.toNat<256:=x.toNat_lt;simp only[zhK,zgO];omega
def zGo{ν:Type}(k:ByteArray)(r:ν):Bool→List (ByteArray×ν)→List (ByteArray×ν)
 | keep,[]=>if keep then[(k,r)] else[]
 | keep,x::M=>(if keep&&decide (0<uX x.1 k) then[(k,r)] else[])++(if x.1=k then[] else[x])++zGo k r (keep && !decide (0<uX x.1 k)) M
theorem zRY{k:ByteArray}{r:Rec}{s:Sl}:∀(keep:Bool) (X:List zCF),(zGo k (r,s) keep X).map zEI=zGo k r keep (X.map zEI)
 | keep,[]=>by cases keep <;> rfl
 | keep,x::X=>by
  rw[zGo,zgd,zGo,zgT,zgT,zRY];congr 1;congr 1
  ·split <;> rfl
  ·by_cases h:x.1=k <;> simp[h]
theorem zIH{k:ByteArray}{r:Rec}:∀{M:zo},zGo k r false M=zS6 M k
 | []=>rfl
 | x::M=>by
  rw[zGo,zhs,zhs,zIH];unfold zS6;by_cases h:x.1=k
  ·simp[h]
  ·simp[h]
theorem zOf{k:ByteArray}{r:Rec}:∀{M:zo},Srt uX M→zGo k r true M=zB1 M k r
 | [],_=>rfl
 | x::M,hs=>by
  have hs2:=zgm.1 hs;rw[zGo,zB1];simp only[zhH];by_cases h1:uX x.1 k<0
  ·have h2:¬0<uX x.1 k:=by omega
   have h3:x.1≠k:=ne_of_lt h1;rw[if_pos h1];simp only[h2,decide_false,zgc,zhG,h3,zg6,Bool.not_false];rw[zOf hs2.2];rfl
  ·rw[if_neg h1];by_cases h3:x.1=k
   ·have h2:¬0<uX x.1 k:=by rw[zE2.2 h3];omega
    have h2':¬0<uX k k:=by rw[zE2.2 rfl];omega
    rw[if_pos h3];simp only[h2,h2',decide_false,zgc,zhG,h3,zhX,zg6,Bool.not_false];cases M with
    | nil=>rfl
    | cons y M=>
     have hy:0<uX y.1 k:=by rw[←zHN.sw,←h3];exact hs2.1 y zgN
     have hyk:y.1≠k:=fun e=>by rw[zE2.2 e] at hy;omega
     rw[zGo];simp only[hy,decide_true,Bool.and_true,zhX,hyk,zhG,Bool.not_true,Bool.and_false];rw[zIH,zOe fun z hz=>by
      have h5:uX x.1 z.1<0:=hs2.1 z (zgI _ hz);rw[h3] at h5;exact Ne.symm (ne_of_lt h5)]
     rfl
   ·have h2:0<uX x.1 k:=by
     rcases Int.lt_trichotomy (uX x.1 k) 0 with h|h|h
     ·exact absurd h h1
     ·exact absurd (zE2.1 h) h3
     ·exact h
    rw[if_neg h3];simp only[h2,decide_true,zhX,h3,zhG,Bool.not_true];rw[zIH,zOe fun z hz=>by
     have h5:uX x.1 z.1<0:=hs2.1 z hz;have h6:uX k x.1<0:=zHN.sw.2 h2;exact Ne.symm (ne_of_lt (zHN.tr h6 h5))]
    rfl
theorem zYC{M:zo}{k:ByteArray}{r:Rec}(hs:Srt uX M):Srt uX (zB1 M k r):=by
 induction M with
 | nil=>exact zhe _ _
 | cons x M ih=>
  have hs2:=zgm.1 hs;unfold zB1;split
  ·rename_i h1;refine zgm.2 ⟨fun y hy=>?_,ih hs2.2⟩;rcases zMa hy with rfl|hy
   ·exact h1
   ·exact hs2.1 y hy
  ·split
   ·rename_i h1 h3;exact zgm.2 ⟨fun y hy=>by rw[←h3];exact hs2.1 y hy,hs2.2⟩
   ·rename_i h1 h3;have h2:uX k x.1<0:=by
     rw[zHN.sw];rcases Int.lt_trichotomy (uX x.1 k) 0 with h|h|h
     ·exact absurd h h1
     ·exact absurd (zE2.1 h) h3
     ·exact h
    refine zgm.2 ⟨fun y hy=>?_,hs⟩;rcases zgS.1 hy with rfl|hy
    ·exact h2
    ·exact zHN.tr h2 (hs2.1 y hy)
theorem zYD{M:zo}{k:ByteArray}{r:Rec}(hs:Srt uX M):Srt uX (zEO M k r):=by
 unfold zEO;split
 ·exact List.Pairwise.sublist List.filter_sublist hs
 ·exact zYC hs
structure R6(n:Nat)(M:zo)(P:Pool)(X:List zCF):Prop where
 mod:M=X.map zEI
 ok:∀x∈X,x.2.1.ok∧inP P x.2.2 x.2.1.val
 n1:1≤n
 n3:n≤3
 srt:Srt uX M
abbrev zHd(st n:Nat)(rs:Sl)(X:List zCF)(Γ:List zB):List zB:=blk st (.cells [.int .i64 n,rs.val].toArray zEU (0,0))::SlC qw 5 rs (X.flatMap zAL)::Γ
def jC(st n:Nat)(M:zo)(P:Pool):zB:=ex fun rs=>ex fun X:List zCF=>Sep.stars (pur (R6 n M P X)::zHd st n rs X [])
section
variable{B:World}{Γ Δ:List zB}{k:K}{st n:Nat}{M:zo}{P:Pool}
instance(priority:=high) zeS:Sep.Own st (jC st n M P::Γ) (jC st n M P) Γ:=⟨.refl _⟩
theorem zP2(h:∀rs X,R6 n M P X→HG B (zHd st n rs X Γ) k):HG B (jC st n M P::Γ) k :=
 zCE fun rs=>zCE fun X=>zBL<|zHK fun h1=>h rs X h1
theorem zFJ{rs:Sl}{X:List zCF}(h1:R6 n M P X)(h:HG B (jC st n M P::Γ) k):HG B (zHd st n rs X Γ) k:=fun w hw=>by
 refine h w ?_;have h3:Holds B (Sep.stars (pur (R6 n M P X)::zHd st n rs X [])::Γ) w:=Holds.flat.2 (Holds.pur.2 ⟨h1,hw⟩);exact h3.imp fun g hg=>⟨rs,X,hg⟩
theorem zaJ{Q:Option Addr→K}(h1:1≤n)(h3:n≤3)(h:∀st,HG B (jC st n [] P::Γ) (Q (some ⟨st,0,none⟩))):HG B Γ (zE1.call (n:Int) Q):=by
 refine fun w hw=>zPy _ _ _ ?_;refine hg hw ?_;clear hw w;unfold zE1;refine zD fun st=>?_;refine fun w hw=>?_;refine Sep.hg (show Holds B (SlC qw 5 ⟨none,0,0⟩ (([]:List zCF).flatMap zAL)::_) w from hw.ji _ _) ?_;clear hw w;exact zGG<|zFJ ⟨rfl,by simp,h1,h3,List.Pairwise.nil⟩ (h st)
theorem zRZ{k:ByteArray}{Q:Int→K}(h1:1≤n)(hn:n≤1000)(hk:k.size<1000000000000)(h:HG B Γ (Q (zCP k.toList n:Nat))):HG B Γ (j5.call k (n:Int) Q):=by
 refine fun w hw=>zKm _ _ _ _ ?_;refine hg hw ?_;clear hw w;unfold j5;refine s_f ?_;obtain⟨l,rfl⟩:=zJt k;rw[qZ] at h;have hsz:(bs l).size=l.length:=rfl;refine zAa (fun x:Int×Int=>∃i s:Nat,x=((s:Int),(i:Int))∧i≤l.length∧s=(l.take i).foldl (fun s b=>s+b.toNat) 0) (fun x=>l.length-x.2.toNat) ⟨0,0,rfl,zgW _,rfl⟩ fun k' x hx hk'=>?_;obtain⟨i,s,rfl,hi,hs⟩:=hx;have hsl:=zcl (l.take i) 0;rw[←hs,zgR] at hsl;unfold j5.b1;dsimp only;refine zF (fun hb=>?_) fun hb=>?_
 ·have hil:i<l.length:=by simp only[zgH] at hb;omega
  have hb8:l[i].toNat<256:=l[i].toNat_lt;refine fun w hw=>⟨(l[i].toNat:Int),l[i],by omega,?_,rfl,Sep.hg hw ?_⟩
  ·show(bs l)[((i:Nat):Int).toNat]?=_;rw[zgw];exact zg0 (by simpa using hil)
  refine zAw (by rw[zCk (by omega) (by omega)])<|zAw (e':=((s+l[i].toNat:Nat):Int)) (by rw[zCk (by omega) (by omega)];omega)<|qJ<|hk' _ ⟨i+1,s+l[i].toNat,by simp,hil,?_⟩ (by simp only;omega);rw[hs,zgJ hil,zhQ];rfl
 ·have hil:i=l.length:=by simp only[zgF] at hb;omega
  rw[hil,zgQ] at hs;refine zAw (by rw[zCk (by omega) (by omega)])<|zSe (by omega) ?_;have hm:s%n<n:=Nat.mod_lt _ (by omega);refine zAw (e':=((s%n:Nat):Int)) (by rw[Int.tmod_eq_emod_of_nonneg (by omega)];simp)<|qJ ?_;rw[zTB l h1,←hs] at h;exact h
theorem zKB{k:ByteArray}{Q:Array Value→K}(hk:k.size<1000000000000)(hL:M.length<100000000)(h:∀s,(yt n M k).ok→inP P s (yt n M k).val→HG B (jC st n M P::Γ) (Q (zLY (yt n M k) s))):HG B (jC st n M P::Γ) (qo.call (some ⟨st,0,none⟩) k Q):=by
 refine fun w hw=>zJJ _ _ _ _ ?_;refine hg hw ?_;clear hw w;refine zP2 fun rs X hf=>?_;have hXl:X.length=M.length:=by rw[hf.mod];simp
 unfold qo;refine zD fun t4=>?_;refine yw rs fun a1 a2 a3 a4=>?_;rw[zH _ 5 zBy] at a1;refine zAa (α:=Int) (fun x=>∃i:Nat,x=(i:Int)∧i≤X.length∧∀y∈X.take i,y.1≠k) (fun x=>X.length-x.toNat) ⟨0,rfl,zgW _,by simp⟩ fun k' x hx hk'=>?_;obtain⟨i,rfl,hi,hno⟩:=hx;unfold qo.b1
 repeat refine zT ?_
 refine zF (fun hb=>?_) fun hb=>?_
 ·have hil:i<X.length:=by simp only[zgH] at hb;omega
  have hge:X[i]?=some X[i]:=zgG hil;have hmem:X[i]∈X:=zgX hil;have htk:X.take (i+1)=X.take i++[X[i]]:=zgJ hil;have hdr:=zgj hil;generalize X[i]=x at hge hmem htk hdr
  repeat refine zT ?_
  refine zGO zAL zBy (fun w hw=>(zO hw).1) hge rfl<|zF (fun hc=>?_) fun hc=>?_
  ·have hxk:x.1=k:=by rwa[str_inj] at hc
   have hr:yt n M k=x.2.1:=by
    unfold yt;have:getM M k=some x.2.1:=by
     rw[hf.mod,←zgz i X,hdr,zgT,zgd];rw[show zEI x=(k,x.2.1) by rw[←hxk]];exact zQ3 fun y hy=>by
      obtain⟨z,hz,rfl⟩:=zgV.1 hy;exact hno z hz
    rw[this];rfl
   rw[hr] at h
   repeat refine zT ?_
   refine zBk<|zI8 (l':=zDn x.2.1 x.2.2) ?_ rfl ?_
   ·have:=zGH zBy hge;have e:((X.flatMap zAL).drop (i*5+1)).take 4=(((X.flatMap zAL).drop (i*5)).take 5).drop 1:=by rw[←zgo,List.drop_take]
    rw[e,this];rfl
   repeat refine zT ?_
   exact uL rs<|yN st<|zFJ hf (zA (h _ (hf.ok x hmem).1 (hf.ok x hmem).2))
  ·have hxk:x.1≠k:=fun e=>by rw[e,str_inj.2 rfl] at hc;cases hc
   refine qJ<|hk' _ ⟨i+1,by simp,hil,fun y hy=>?_⟩ (by omega);rw[htk] at hy;rcases zgP.1 hy with hy|hy
   ·exact hno y hy
   ·rw[zgM.1 hy];exact hxk
 ·have hil:i=X.length:=by simp only[zgF] at hb;omega
  rw[hil,zgQ] at hno;have hr:yt n M k=⟨false,[],zCP k.toList n,0⟩:=by
   unfold yt;rw[hf.mod,getM_none fun y hy=>by
    obtain⟨z,hz,rfl⟩:=zgV.1 hy;exact hno z hz]
   rfl
  rw[hr] at h
  repeat refine zT ?_
  refine zRZ hf.n1 (by have:=hf.n3;omega) hk<|yX ?_
  repeat refine zT ?_
  exact uL rs<|yN st<|zFJ hf (zA (h ⟨none,0,0⟩ ⟨by simp,by simp,by simp⟩ (.inl ⟨rfl,rfl⟩)))
theorem zUe{k:ByteArray}{r:Rec}{s:Sl}{Q:K}(hr:r.ok)(hv:inP P s r.val)(hL:M.length<10000000)(h:HG B (jC st n (zEO M k r) P::Γ) Q):HG B (jC st n M P::Γ) (zR.call (some ⟨st,0,none⟩) k (zLY r s) Q):=by
 refine fun w hw=>zJK _ _ _ _ _ ?_;refine hg hw ?_;clear hw w;refine zP2 fun rs X hf=>?_;have hXl:X.length=M.length:=by rw[hf.mod];simp
 refine yw rs fun a1 a2 a3 a4=>?_;rw[zH _ 5 zBy] at a1;unfold zR;refine zD fun r5=>?_;have rows:∀(t9:Nat) (keep:Bool),(keep=true↔¬(r.has=false∧r.cnt=0))→HG B (blk t9 (.cells ([]:List Value).toArray qw (0,0))::blk r5 (.cells (zDn r s).toArray zw (0,0))::zHd st n rs X Γ) (zR.s1 Q (some ⟨st,0,none⟩) k ⟨r5,0,none⟩ (Sl.mk (some ⟨t9,0,none⟩) 0 0) keep):=fun t9 keep hkp=>by
  have hset:zGo k r keep M=zEO M k r:=by
   unfold zEO;by_cases hk:r.has=false∧r.cnt=0
   ·have:keep=false:=by cases hc:keep with
     | false=>rfl
     | true=>exact absurd hk (hkp.1 hc)
    rw[if_pos hk,this,zIH]
   ·rw[if_neg hk,hkp.2 hk,zOf hf.srt]
  unfold zR.s1;refine zBg (A':=SlC qw 5 ⟨some ⟨t9,0,none⟩,0,0⟩ (([]:List zCF).flatMap zAL)) (zAq rfl (by simp)) ?_;refine qH (α:=Sl×Bool×Int) (ι:=Nat×List zCF) (fun x i=>x.2.2=(i.1:Int)∧i.1≤X.length∧i.2.length≤2*i.1∧i.2++zGo k (r,s) x.2.1 (X.drop i.1)=zGo k (r,s) keep X∧∀y∈i.2,y.2.1.ok∧inP P y.2.2 y.2.1.val)
   (fun x i=>SlC qw 5 x.1 (i.2.flatMap zAL)::blk r5 (.cells (zDn r s).toArray zw (0,0))::zHd st n rs X Γ) (fun x i=>X.length-i.1) (0,[]) ⟨rfl,zgW _,by simp,by simp,by simp⟩ ?_
  rintro k' ⟨o,kp,_⟩ ⟨i,Y⟩ ⟨rfl,hi,hYl,he,hok⟩ hk';simp only at hi hYl he hok hk' ⊢;unfold zR.b2;refine yw o fun b1 b2 b3 b4=>?_;rw[zH _ 5 zBy] at b1;have add:∀(x:zCF) (ct:Nat) (o:Sl) (Y:List zCF),zAL x=zAL x→True:=fun _ _ _ _ _=>trivial
  repeat refine zT ?_
  refine zF (fun hb=>?_) fun hb=>?_
  ·have hil:i<X.length:=by simp only[zgH] at hb;omega
   have hge:X[i]?=some X[i]:=zgG hil;have hmem:X[i]∈X:=zgX hil;rw[zgj hil] at he;generalize X[i]=x at hge hmem he;rw[zGo] at he;have old:∀(o:Sl) (Y:List zCF) (kp':Bool),o.n=Y.length→Y.length≤2*i+1→Y++((if x.1=k then[] else[x])++zGo k (r,s) kp' (X.drop (i+1)))=zGo k (r,s) keep X→(∀y∈Y,y.2.1.ok∧inP P y.2.2 y.2.1.val) →
     HG B (SlC qw 5 o (Y.flatMap zAL)::blk r5 (.cells (zDn r s).toArray zw (0,0))::zHd st n rs X Γ) (zR.s4 Q (fun out6_2 keep7_2 i8_2=>k' (out6_2,keep7_2,i8_2)) ⟨st,0,none⟩ k ⟨r5,0,none⟩ o kp' (i:Int)):=fun o Y kp' hon hYl he hok=>by
    unfold zR.s4
    repeat refine zT ?_
    refine zGO zAL zBy (fun w hw=>(zO hw).1) hge rfl ?_;unfold zR.s3;refine zF (fun hc=>?_) fun hc=>?_
    ·have hxk:x.1≠k:=fun e=>by rw[e,str_inj.2 rfl] at hc;cases hc
     rw[if_neg hxk] at he
     repeat refine zT ?_
     refine uT zAL zBy (fun w hw=>(zO hw).1) hge ?_
     repeat refine zT ?_
     refine zD fun t63=>?_;refine qp (zBM rfl) (by intro v hv;exact zKA [x] v (by simpa using hv)) (by simp only;omega) fun o2 _=>?_;rw[show Y.flatMap zAL++zAL x=(Y++[x]).flatMap zAL by simp only[zge,zgi,zhn,zgy]];refine qJ ?_;refine zA (hk' (o2,kp',(i:Int)+1) (i+1,Y++[x]) ⟨by simp,hil,by simp;omega,by simp only;rw[←he];simp,fun y hy=>?_⟩ (by simp only;omega));rcases zgP.1 hy with hy|hy
     ·exact hok y hy
     ·rw[zgM.1 hy];exact hf.ok x hmem
    ·have hxk:x.1=k:=by
      have:(x.1.toList==k.toList)=true:=by simpa using hc
      rwa[str_inj] at this
     rw[if_pos hxk] at he;refine qJ ?_;exact zA (hk' (o,kp',(i:Int)+1) (i+1,Y) ⟨by simp,hil,by simp only;omega,by simpa using he,hok⟩ (by simp only;omega))
   have noIns:(kp&&decide (0<uX x.1 k))=false→HG B (SlC qw 5 o (Y.flatMap zAL)::blk r5 (.cells (zDn r s).toArray zw (0,0))::zHd st n rs X Γ) (zR.s5 Q (fun out6_2 keep7_2 i8_2=>k' (out6_2,keep7_2,i8_2)) ⟨st,0,none⟩ k ⟨r5,0,none⟩ o kp (i:Int) false):=fun hni=>by
    unfold zR.s5;refine s_f ?_;refine old o Y kp (by omega) (by omega) ?_ hok;rw[hni] at he;have e2:(kp && !decide (0<uX x.1 k))=kp:=by cases kp <;> simp_all
    rw[e2] at he;simpa using he
   refine zF (fun hkp1=>?_) fun hkp1=>?_
   ·subst hkp1
    repeat refine zT ?_
    refine zGO zAL zBy (fun w hw=>(zO hw).1) hge rfl ?_;rw[zXh];by_cases hgt:k.toList<x.1.toList
    ·have hpos:0<uX x.1 k:=zMX.2 hgt;rw[show decide (k.toList<x.1.toList)=true by simpa using hgt];unfold zR.s5
     repeat refine zT ?_
     refine zD fun t43=>?_;refine qp (zBM rfl) (by intro v hv;exact zKA [(k,(r,s))] v (by simpa using hv)) (by simp only;omega) fun o2 ho2=>?_;rw[show Y.flatMap zAL++zAL (k,(r,s))=(Y++[(k,(r,s))]).flatMap zAL by simp only[zge,zgi,zhn,zgy]];refine zA (old o2 (Y++[(k,(r,s))]) false (by simp only at ho2;simp;omega) (by simp;omega) ?_ fun y hy=>?_)
     ·simp only[hpos,decide_true,Bool.and_true,zhX,Bool.not_true,Bool.and_false] at he;rw[←he];simp
     ·rcases zgP.1 hy with hy|hy
      ·exact hok y hy
      ·rw[zgM.1 hy];exact⟨hr,hv⟩
    ·rw[show decide (k.toList<x.1.toList)=false by simpa using hgt];exact noIns (by simp only[zhH,zgF];exact fun h=>hgt (zMX.1 h))
   ·subst hkp1;exact noIns rfl
  ·have hil:i=X.length:=by simp only[zgF] at hb;omega
   rw[hil,zhx,zGo] at he;have fin:∀(o:Sl) (Y:List zCF),Y=zGo k (r,s) keep X→(∀y∈Y,y.2.1.ok∧inP P y.2.2 y.2.1.val)→HG B (SlC qw 5 o (Y.flatMap zAL)::blk r5 (.cells (zDn r s).toArray zw (0,0))::zHd st n rs X Γ) (zR.s6 Q (fun out6_2 keep7_2 i8_2=>k' (out6_2,keep7_2,i8_2)) ⟨st,0,none⟩ o):=fun o Y hY hok=>by
    unfold zR.s6
    repeat refine zT ?_
    refine uL o ?_;refine yN st<|zFJ (M:=zEO M k r) ⟨?_,hok,hf.n1,hf.n3,zYD hf.srt⟩ (zA h);rw[hY,zRY,←hf.mod,hset]
   refine zF (fun hkp1=>?_) fun hkp1=>?_
   ·subst hkp1
    repeat refine zT ?_
    refine zD fun t70=>?_;refine qp (zBM rfl) (by intro v hv;exact zKA [(k,(r,s))] v (by simpa using hv)) (by simp only;omega) fun o2 ho2=>?_;rw[show Y.flatMap zAL++zAL (k,(r,s))=(Y++[(k,(r,s))]).flatMap zAL by simp only[zge,zgi,zhn,zgy]];refine zA (fin o2 (Y++[(k,(r,s))]) (by simpa using he) fun y hy=>?_);rcases zgP.1 hy with hy|hy
    ·exact hok y hy
    ·rw[zgM.1 hy];exact⟨hr,hv⟩
   ·subst hkp1;exact fin o Y (by simpa using he) hok
 refine xg<|zBl [blk r5 (.cells (zDn r s).toArray zw (0,0))] ?_
 repeat refine zT ?_
 refine zF (fun hb=>?_) fun hb=>?_
 ·refine zD fun t9=>?_
  repeat refine zT ?_
  exact rows t9 true (by simp[hb])
 ·repeat refine zT ?_
  refine zD fun t9=>?_
  repeat refine zT ?_
  refine rows t9 _ ?_;have:=hr.1;simp only[hb,zgH,true_and];omega
theorem zYE{k:ByteArray}{to:Int}{Q:Int→K}(hk:k.size<1000000000000)(hL:M.length<10000000)(h:HG B (jC st n (jw n M k to).1 P::Γ) (Q (jw n M k to).2)):HG B (jC st n M P::Γ) (vD.call (some ⟨st,0,none⟩) k to Q):=by
 refine fun w hw=>zIT _ _ _ _ _ ?_;refine hg hw ?_;clear hw w;unfold vD;have bad:to<0∨(n:Int)≤to→∀s0,HG B (jC st n M P::Γ) (vD.s1 Q s0 k to true):=fun hb s0=>by
  unfold vD.s1;refine s_t ?_;rw[show jw n M k to=(M,1) by unfold jw;rw[if_pos hb]] at h;exact h
 refine zF (fun hb=>bad (.inl (by simpa using hb)) _) fun hb=>?_;refine uf<|zP2 fun rs X hf=>?_
 repeat refine zT ?_
 refine zFJ hf ?_;by_cases hb2:(n:Int)≤to
 ·rw[show decide ((n:Int)≤to)=true by simpa using hb2];exact bad (.inr hb2) _
 rw[show decide ((n:Int)≤to)=false by simpa using hb2];have hnb:¬(to<0∨(n:Int)≤to):=by
  simp only[zgF] at hb;omega
 unfold vD.s1;refine s_f<|zKB hk (by omega) fun s hok hv=>?_;generalize hR:yt n M k=r at *;refine zD fun r7=>?_;refine yX (b:=r7) (l':=zDn r s) ?_
 repeat refine zT ?_
 refine zF (fun hc=>?_) fun hc=>?_
 ·rw[show jw n M k to=(M,111) by unfold jw;rw[if_neg hnb,hR,if_pos (by simpa using hc)]] at h;exact zA h
 have hc':r.cnt≠18446744073709551615:=by simpa using hc
 obtain⟨o1,o2,o3⟩:=hok
 repeat refine zT ?_
 refine zAw (zCk (by omega) (by omega)) ?_
 repeat refine zT ?_
 refine yN st<|zUe (r:={ r with home:=to,cnt:=r.cnt+1 }) ⟨by simp only;omega,by simp only;omega,o3⟩ hv hL ?_;have e:jw n M k to=(zEO M k { r with home:=to,cnt:=r.cnt+1 },0):=by
  unfold jw zEO;rw[if_neg hnb,hR,if_neg hc',if_neg fun hh=>by simp only at hh;omega]
 rw[e] at h;exact zA h
end
end
section
open Go Go.Sep Go.Sep.Bt
section
variable{B:World}{Γ Δ:List zB}
end
end
end Go.Proofs.YtlelhlcjaapkoaaGreat
namespace Go.Proofs.YtlelhlcjaapkoaaGreat
open Go Go.Sep Go.Sep.Bt
section
variable{B:World}{Γ Δ:List zB}{k:K}{st sd n:Nat}{M:zo}{P:Pool}
end
end Go.Proofs.YtlelhlcjaapkoaaGreat
namespace Go.Proofs.YtlelhlcjaapkoaaGreat
open Go Go.Sep Go.RowKit
end Go.Proofs.YtlelhlcjaapkoaaGreat
namespace Go.Proofs.YtlelhlcjaapkoaaGreat
section
open Go Go.Sep
def uO(t:TxX)(o:OpM):Bool :=
 if 32<o.val.length∨o.kind<1∨7<o.kind then false
 else if o.kind=7 then decide (o.key=[])&&decide (o.n=0)
 else if o.key∉t.writes∧(o.key∉t.reads∨o.kind=2∨o.kind=3∨o.kind=6) then false
 else if o.kind≠6∧o.n≠0 then false
 else decide (o.kind=2)||(decide (o.kind=4)||decide (o.val.length=0))
abbrev zDs(L:List TX):Prop:=L.Pairwise (·<·)
abbrev zAt(n:Int)(t:TxX):Prop:=n<1∨3<n∨¬zDs t.reads∨¬zDs t.writes∨8<t.reads.length∨8<t.writes.length∨8<t.reads.length+t.writes.length
abbrev zGQ(t:TxX):Prop:=(∃k∈t.reads++t.writes,k.length<1∨16<k.length)∨∃k∈t.reads,k∈t.writes
def qC(n:Int)(t:TxX):Bool :=
 if zAt n t then false
 else if zGQ t then false
 else if t.kind=2 then decide (t.reads.length=0)&&(decide (t.ops.length=0)&&(decide (t.writes.length=1)&&(decide (0≤t.to)&&decide (t.to<n))))
 else if t.kind≠1∨t.to≠0∨16<t.ops.length then false
 else t.ops.all fun x=>uO t x.1
theorem zGR{a b:TxX}(h:zC9 a b)(n:Int):qC n a=qC n b:=by
 obtain⟨h1,h2,h3,h4,h5⟩:=h;have hl:a.ops.length=b.ops.length:=by have:=congrArg List.length h5;simpa using this
 have ho:(a.ops.all fun x=>uO a x.1)=(b.ops.all fun x=>uO b x.1):=by
  have e:∀o,uO a o=uO b o:=fun o=>by unfold uO;rw[h3,h4]
  have e2:∀(t:TxX),(t.ops.all fun x=>uO b x.1)=((t.ops.map Prod.fst).all fun o=>uO b o):=fun t=>by rw[List.all_map];rfl
  simp only[e];rw[e2 a,e2 b,h5]
 unfold qC zAt zGQ;rw[h1,h2,h3,h4,hl,ho]
theorem zE7{α β:Type}(f:α→β)(L:List α):L.flatMap (fun x=>[f x])=L.map f:=by induction L <;> simp_all
section
variable{B:World}{Γ Δ:List zB}{k:K}
theorem zTC{α:Type}{a:Addr}{cs:List Value}{c:α→Value}{x:α}{k:α→K}(hn:∀w,Holds B Γ w→RdN w a cs.toArray)(hv:cs[0]?=some (c x))(h:HG B Γ (k x)):HG B Γ (Ld a c k):=fun w hw=>⟨x,by
 have:=hn w hw 0 (by have:=(zgZ.1 hv).1;simpa using this);rw[add0] at this;rw[this];simpa using hv,h w hw⟩
theorem zcm{Γ0:List zB}{α:Type}{a:Addr}{off:Nat}{cs:List Value}{c:α→Value}{x:α}{k:α→K}(hn:∀w,Holds B Γ0 w→RdN w a cs.toArray)(hv:cs[off]?=some (c x))(h:HG B Γ (k x)):HG B Γ (LdS (Holds B Γ0) (a.add off) c k):=fun w hw=>⟨x,fun w' hw'=>by
 have:=hn w' hw' off (by have:=(zgZ.1 hv).1;simpa using this);rw[this];simpa using hv,h w hw⟩
theorem zaK{Γ0:List zB}{α:Type}{a:Addr}{cs:List Value}{c:α→Value}{x:α}{k:α→K}(hn:∀w,Holds B Γ0 w→RdN w a cs.toArray)(hv:cs[0]?=some (c x))(h:HG B Γ (k x)):HG B Γ (LdS (Holds B Γ0) a c k):=by
 have:=zcm hn hv h;rwa[add0] at this
theorem uY{α:Type}(f:α→List Value){esz:Nat}{L:List α}{s:Sl}{j:Nat}{jj:Int}{x:α}{k:Addr→K}(hf:∀x,(f x).length=esz)(he:0<esz)(hr:∀w,Holds B Γ w→RdC w s esz (L.flatMap f))(hx:L[j]?=some x)(h:∀t,(∀w,RdC w s esz (L.flatMap f)→RdN w t (f x).toArray)→HG B Γ (k t))(hj:jj=(j:Int):=by first|rfl|omega):
  HG B Γ (Idx s jj esz k):=fun w hw=>by
 subst hj;have hrw:=hr w hw;have hj:j<L.length:=(zgZ.1 hx).1;have hn:L.length=s.n:=by
  have:=hrw.len;rw[zH f esz hf] at this;exact zgb he this
 cases ha:s.a with
 | none=>have:=hrw.nil ha;omega
 | some a=>
  refine⟨a,_,ha,by omega,by omega,rfl,h _ (fun w' hw'=>?_) w hw⟩;exact zLz f esz hf hw' ha hx
theorem zLM{s:Sl}{L:List TX}{Q:Bool→K}(hL:L.length<1000000000)(hr:∀w,Holds B Γ w→RdC w s 1 (L.map qE))(h:HG B Γ (Q (decide (zDs L)))):HG B Γ (zA0.call s Q):=fun w hw=>by
 refine zLc _ _ _ ?_;have hn:s.n=L.length:=by have:=(hr w hw).len;simpa using this.symm
 refine Sep.hg hw<|zAa (α:=Int) (fun x=>∃i:Nat,x=(i:Int)∧1≤i∧i≤L.length+1∧zDs (L.take i)) (fun x=>L.length+1-x.toNat) ⟨1,rfl,zgu _,by omega,?_⟩ fun k' x hx hk'=>?_
 ·match L with
  | []=>exact List.Pairwise.nil
  | x::L=>exact zhe _ _
 obtain⟨i,rfl,hi1,hi,hp⟩:=hx;refine zF (fun hb=>?_) fun hb=>?_
 ·have hil:i<L.length:=by simp at hb;omega
  obtain⟨j,rfl⟩:∃j,i=j+1:=⟨i-1,by omega⟩
  have g1:L[j]?=some L[j]:=zgG (by omega);have g2:L[j+1]?=some L[j+1]:=zgG hil;have t1:L.take (j+1)=L.take j++[L[j]]:=zgJ (by omega);have t2:L.take (j+1+1)=L.take (j+1)++[L[j+1]]:=zgJ hil;have hpi:zDs L→L[j]<L[j+1]:=fun h=>(List.pairwise_iff_getElem.1 h) j (j+1) (by omega) hil (by omega);generalize L[j]=x at g1 t1 hpi;generalize L[j+1]=y at g2 t2 hpi;refine xg<|qJ<|u7 hr g1<|u7 hr g2 ?_;rw[qZ,qZ,zCM];refine zF (fun hc=>?_) fun hc=>?_
  ·have hxy:¬x<y:=by simpa using hc
   rw[show decide (zDs L)=false from zgU fun h=>hxy (hpi h)] at h;exact h
  ·have hxy:x<y:=by simpa using hc
   refine qJ<|hk' _ ⟨j+2,by simp;omega,by omega,by omega,?_⟩ (by omega);rw[show j+2=j+1+1 from rfl,t2];refine zgf.2 ⟨hp,zhe _ _,fun a ha b hb=>?_⟩;rw[zgM.1 hb];rw[t1] at ha hp;rcases zgP.1 ha with ha|ha
   ·exact ziA ((zgf.1 hp).2.2 a ha x (by simp)) hxy
   ·rw[zgM.1 ha];exact hxy
 ·have hil:L.length≤i:=by simp at hb;omega
  rw[zgh hil] at hp;rw[show decide (zDs L)=true from zga hp] at h;exact h
theorem zaL{t:TxX}{x:OpX}{Q:Bool→K}(hr:∀w,Holds B Γ w→zAn w t)(hl:t.reads.length<100000000∧t.writes.length<100000000)(hx:∀w,Holds B Γ w→RdB w x.2 x.1.val)(h:HG B Γ (Q (uO t x.1))):HG B Γ (xY.call (txL t).toArray (opF x).toArray Q):=fun w hw=>by
 refine zRI _ _ _ _ ?_;have hxl:x.2.n=x.1.val.length:=by have:=(hx w hw).len;simpa using this.symm
 refine Sep.hg hw<|zD fun t2=>?_;refine zD fun o3=>?_;have fin:HG B (blk o3 (.cells (opF x).toArray vg (0,0))::blk t2 (.cells (txL t).toArray zn (0,0))::Γ) (Q (uO t x.1)):=zA h;generalize hR:uO t x.1=R at fin;unfold uO at hR;have S4:∀b,(b=true↔x.1.kind≠6∧x.1.n≠0)→(if x.1.kind≠6∧x.1.n≠0 then false else decide (x.1.kind=2)||(decide (x.1.kind=4)||decide (x.1.val.length=0)))=R→HG B (blk o3 (.cells (opF x).toArray vg (0,0))::blk t2 (.cells (txL t).toArray zn (0,0))::Γ) (xY.s4 Q ⟨o3,0,none⟩ b):=fun b hb hR=>by
  refine zF (fun hb1=>?_) fun hb1=>?_
  ·rw[if_pos (hb.1 hb1)] at hR;rw[hR];exact fin
  ·rw[if_neg fun h=>by rw[hb.2 h] at hb1;cases hb1] at hR
   repeat refine zT ?_
   refine zF (fun hc=>?_) fun hc=>?_
   ·rw[hc] at hR;rw[show true=R by rw[←hR];rfl];exact fin
   ·repeat refine zT ?_
    rw[hc] at hR;refine zF (fun hd=>?_) fun hd=>?_
    ·rw[hd] at hR;rw[show true=R by rw[←hR];rfl];exact fin
    ·repeat refine zT ?_
     rw[hd] at hR;rw[show decide ((x.2.n:Int)=0)=R by rw[←hR,hxl];simp only[Bool.false_or];exact ziD.2 (by omega)];exact fin
 have S3:∀b,(b=true↔x.1.key∉t.writes∧(x.1.key∉t.reads∨x.1.kind=2∨x.1.kind=3∨x.1.kind=6))→(if x.1.key∉t.writes∧(x.1.key∉t.reads∨x.1.kind=2∨x.1.kind=3∨x.1.kind=6) then false else if x.1.kind≠6∧x.1.n≠0 then false else decide (x.1.kind=2)||(decide (x.1.kind=4)||decide (x.1.val.length=0)))=R→HG B (blk o3 (.cells (opF x).toArray vg (0,0))::blk t2 (.cells (txL t).toArray zn (0,0))::Γ) (xY.s3 Q ⟨o3,0,none⟩ b):=fun b hb hR=>by
  refine zF (fun hb1=>?_) fun hb1=>?_
  ·rw[if_pos (hb.1 hb1)] at hR;rw[hR];exact fin
  ·rw[if_neg fun h=>by rw[hb.2 h] at hb1;cases hb1] at hR
   repeat refine zT ?_
   refine zF (fun hc=>?_) fun hc=>?_
   ·have hc':x.1.kind≠6:=by simpa using hc
    repeat refine zT ?_
    exact S4 _ (by simp[hc']) hR
   ·have hc':x.1.kind=6:=by simpa using hc
    exact S4 _ (by simp[hc']) hR
 have S1:∀b,(b=true↔32<x.1.val.length∨x.1.kind<1∨7<x.1.kind)→HG B (blk o3 (.cells (opF x).toArray vg (0,0))::blk t2 (.cells (txL t).toArray zn (0,0))::Γ) (xY.s1 Q ⟨t2,0,none⟩ ⟨o3,0,none⟩ b):=fun b hb=>by
  refine zF (fun hb1=>?_) fun hb1=>?_
  ·rw[if_pos (hb.1 hb1)] at hR;rw[hR];exact fin
  ·rw[if_neg fun h=>by rw[hb.2 h] at hb1;cases hb1] at hR
   repeat refine zT ?_
   refine zF (fun hc=>?_) fun hc=>?_
   ·have hc':x.1.kind=7:=by simpa using hc
    rw[if_pos hc'] at hR
    repeat refine zT ?_
    refine zF (fun hd=>?_) fun hd=>?_
    ·have hd':x.1.key=[]:=by simpa using hd
     repeat refine zT ?_
     rw[show decide (x.1.n=0)=R by rw[←hR,hd'];rfl];exact fin
    ·have hd':x.1.key≠[]:=by simpa using hd
     rw[show false=R by rw[←hR,zgU hd'];rfl];exact fin
   ·have hc':x.1.kind≠7:=by simpa using hc
    rw[if_neg hc'] at hR
    repeat refine zT ?_
    refine zL6 (by omega) (fun w hw=>(hr w hw.drops).2.1) ?_;by_cases hw1:x.1.key∈t.writes
    ·rw[zga hw1];exact s_f<|S3 _ (by simp[hw1]) hR
    refine s_t ?_
    repeat refine zT ?_
    refine zL6 (by omega) (fun w hw=>(hr w hw.drops).1) ?_;by_cases hr1:x.1.key∈t.reads
    ·rw[zga hr1];refine s_f ?_
     repeat refine zT ?_
     refine zF (fun hd=>?_) fun hd=>?_
     ·exact S3 _ (by
              have:x.1.kind=2:=by simpa using hd
              simp[hw1,this]) hR
     repeat refine zT ?_
     refine zF (fun he=>?_) fun he=>?_
     ·exact S3 _ (by
              have:x.1.kind=3:=by simpa using he
              simp[hw1,this]) hR
     repeat refine zT ?_
     refine S3 _ ?_ hR;have h2:¬x.1.kind=2:=by simpa using hd
     have h3:¬x.1.kind=3:=by simpa using he
     simp[hw1,hr1,h2,h3]
    ·rw[zgU hr1];exact s_t<|S3 _ (by simp[hw1,hr1]) hR
 repeat refine zT ?_
 refine zF (fun hb=>?_) fun hb=>?_
 ·exact S1 _ (by
          have:32<x.1.val.length:=by simp at hb;omega
          simp[this])
 have h32:¬32<x.1.val.length:=by simp at hb;omega
 repeat refine zT ?_
 refine zF (fun hc=>?_) fun hc=>?_
 ·exact S1 _ (by
          have:x.1.kind<1:=by simpa using hc
          simp[this])
 have h1:¬x.1.kind<1:=by simpa using hc
 repeat refine zT ?_
 refine S1 _ ?_;simp[h32,h1]
theorem zM0{t:TxX}{n:Int}{Q:Bool→K}(hr:∀w,Holds B Γ w→zAn w t)(hl:t.reads.length<10000000∧t.writes.length<10000000∧t.ops.length<10000000)(h:HG B Γ (Q (qC n t))):HG B Γ (zy.call (txL t).toArray n Q):=fun w hw=>by
 refine zMk _ _ _ _ ?_;obtain⟨n1,n2,n3⟩:=zGP (hr w hw);refine Sep.hg hw ?_;clear hw w;unfold zy;refine zD fun t2=>?_;have fin:HG B (blk t2 (.cells (txL t).toArray zn (0,0))::Γ) (Q (qC n t)):=zA h;generalize hR:qC n t=R at fin;unfold qC at hR;have S1:∀b,(b=true↔zAt n t)→HG B (blk t2 (.cells (txL t).toArray zn (0,0))::Γ) (zy.s1 Q n ⟨t2,0,none⟩ b):=fun b hb=>by
  unfold zy.s1;refine zF (fun hb1=>?_) fun hb1=>?_
  ·rw[if_pos (hb.1 hb1)] at hR;rw[hR];exact fin
  rw[if_neg fun h=>by rw[hb.2 h] at hb1;cases hb1] at hR;refine xg ?_;refine zBl [blk t2 (.cells (txL t).toArray zn (0,0))] ?_
  repeat refine zT ?_
  refine zD fun t9=>?_;refine zBg (A':=SlC yO 1 ⟨some ⟨t9,0,none⟩,0,0⟩ []) (zAq rfl (by simp)) ?_
  repeat refine zT ?_
  refine qp (fun w hw=>(hr w hw.drops).1) (fun v hv=>by obtain⟨y,_,rfl⟩:=zgV.1 hv;rfl) (by simp only;omega) fun a1 ha1=>?_
  repeat refine zT ?_
  refine qp (fun w hw=>(hr w hw.drops).2.1) (fun v hv=>by obtain⟨y,_,rfl⟩:=zgV.1 hv;rfl) (by simp only at ha1;omega) fun all hall=>?_;rw[show[]++t.reads.map qE++t.writes.map qE=(t.reads++t.writes).map qE by simp];have hln:(t.reads++t.writes).length=t.reads.length+t.writes.length:=zgK;have halln:all.n=t.reads.length+t.writes.length:=by simp only at ha1;omega
  have fin2:HG B (SlS all (t.reads++t.writes)::blk t2 (.cells (txL t).toArray zn (0,0))::Γ) (Q R):=zA fin;refine zAa (α:=Int) (fun x=>∃i:Nat,x=(i:Int)∧i≤(t.reads++t.writes).length∧(∀k∈(t.reads++t.writes).take i,1≤k.length∧k.length≤16)∧∀k∈t.reads.take i,k∉t.writes) (fun x=>(t.reads++t.writes).length-x.toNat) ⟨0,rfl,zgW _,by simp,by simp⟩ fun k1 x hx hk1=>?_;obtain⟨i,rfl,hi,hs1,hs2⟩:=hx;unfold zy.b2;refine zF (fun hc=>?_) fun hc=>?_
  ·have hil:i<(t.reads++t.writes).length:=by simp at hc;omega
   have hge:(t.reads++t.writes)[i]?=some (t.reads++t.writes)[i]:=zgG hil;have hmem:(t.reads++t.writes)[i]∈t.reads++t.writes:=zgX hil;have htk:(t.reads++t.writes).take (i+1)=(t.reads++t.writes).take i++[(t.reads++t.writes)[i]]:=zgJ hil;have hrt:t.reads.take (i+1)=t.reads.take i++if i<t.reads.length then[(t.reads++t.writes)[i]] else[]:=by
    by_cases hir:i<t.reads.length
    ·rw[if_pos hir,zgJ hir,List.getElem_append_left hir]
    ·rw[if_neg hir,zgh (by omega),zgh (by omega),zgy]
   generalize(t.reads++t.writes)[i]=x at hge hmem htk hrt;have hsz:(bs x).size=x.length:=rfl;have S3:∀b,(b=true↔(x.length<1∨16<x.length)∨(i<t.reads.length∧x∈t.writes))→HG B (SlS all (t.reads++t.writes)::blk t2 (.cells (txL t).toArray zn (0,0))::Γ) (zy.s3 Q k1 n ⟨t2,0,none⟩ all (i:Int) b):=fun b hb=>by
    refine zF (fun hb1=>?_) fun hb1=>?_
    ·have:zGQ t:=by
      rcases hb.1 hb1 with h|⟨h,h'⟩
      ·exact .inl ⟨x,hmem,h⟩
      ·refine .inr ⟨x,?_,h'⟩;rw[zhL h] at hge;exact zgx hge
     rw[if_pos this] at hR;rw[hR];exact fin2
    ·have hnb:¬((x.length<1∨16<x.length)∨(i<t.reads.length∧x∈t.writes)):=fun h=>by rw[hb.2 h] at hb1;cases hb1
     refine qJ<|hk1 _ ⟨i+1,by simp,hil,fun y hy=>?_,fun y hy=>?_⟩ (by omega)
     ·rw[htk] at hy;rcases zgP.1 hy with hy|hy
      ·exact hs1 y hy
      ·rw[zgM.1 hy];omega
     ·rw[hrt] at hy;rcases zgP.1 hy with hy|hy
      ·exact hs2 y hy
      ·split at hy
       ·rename_i hir;rw[zgM.1 hy];exact fun hxw=>hnb (.inr ⟨hir,hxw⟩)
       ·cases hy
   refine xg<|u7 (fun w hw=>(zO hw).1) hge ?_;refine zF (fun hd=>?_) fun hd=>?_
   ·exact S3 _ (by
            have:x.length<1:=by simp at hd;omega
            simp[this])
   refine u7 (fun w hw=>(zO hw).1) hge ?_;have hd':¬x.length<1:=by simp at hd;omega
   refine zF (fun he=>?_) fun he=>?_
   ·exact S3 _ (by
            have:16<x.length:=by simp at he;omega
            simp[this])
   have he':¬16<x.length:=by simp at he;omega
   repeat refine zT ?_
   refine zF (fun hf=>?_) fun hf=>?_
   ·have hir:i<t.reads.length:=by simp at hf;omega
    refine uY (fun x:TX=>[qE x]) (fun _=>rfl) (by omega) (fun w hw=>by rw[zE7];exact(zO hw).1) hge (fun t86 ht86=>?_)
    repeat refine zT ?_
    refine zTC (fun w hw=>ht86 w (by rw[zE7];exact(zO hw).1)) rfl<|zL6 (by omega) (fun w hw=>(hr w hw.drops).2.1) ?_;exact S3 _ (by
            rw[zgH];constructor
            ·exact fun h=>.inr ⟨hir,h⟩
            ·rintro((h|h)|h)
             ·exact absurd h hd'
             ·exact absurd h he'
             ·exact h.2)
   ·have hir:¬i<t.reads.length:=by simp at hf;omega
    exact S3 _ (by
            constructor
            ·exact fun h=>by cases h
            ·rintro((h|h)|h)
             ·exact absurd h hd'
             ·exact absurd h he'
             ·exact absurd h.1 hir)
  have hil:i=(t.reads++t.writes).length:=by simp at hc;omega
  rw[hil,zgQ] at hs1;rw[zgh (by omega)] at hs2;rw[if_neg (by
   rintro(⟨k,hk,h⟩|⟨k,hk,h⟩)
   ·have:=hs1 k hk;omega
   ·exact hs2 k hk h)] at hR
  have S4:∀b,b=R→HG B (SlS all (t.reads++t.writes)::blk t2 (.cells (txL t).toArray zn (0,0))::Γ) (zy.s4 Q k1 b):=fun b hb=>by
   rw[hb];exact fin2
  repeat refine zT ?_
  refine zF (fun hd=>?_) fun hd=>?_
  ·have hk2:t.kind=2:=by simpa using hd
   rw[if_pos hk2] at hR
   repeat refine zT ?_
   refine zF (fun he=>?_) fun he=>?_;rotate_left
   ·refine S4 _ ?_;rw[←hR,show decide (t.reads.length=0)=false from zgU (by simp at he;omega)];rfl
   rw[show decide (t.reads.length=0)=true from zga (by simp at he;omega),zhH] at hR
   repeat refine zT ?_
   refine zF (fun he2=>?_) fun he2=>?_;rotate_left
   ·refine S4 _ ?_;rw[←hR,show decide (t.ops.length=0)=false from zgU (by simp at he2;omega)];rfl
   rw[show decide (t.ops.length=0)=true from zga (by simp at he2;omega),zhH] at hR
   repeat refine zT ?_
   refine zF (fun he3=>?_) fun he3=>?_;rotate_left
   ·refine S4 _ ?_;rw[←hR,show decide (t.writes.length=1)=false from zgU (by simp at he3;omega)];rfl
   rw[show decide (t.writes.length=1)=true from zga (by simp at he3;omega),zhH] at hR
   repeat refine zT ?_
   refine zF (fun he4=>?_) fun he4=>?_;rotate_left
   ·refine S4 _ ?_;rw[←hR,he4];rfl
   rw[he4,zhH] at hR
   repeat refine zT ?_
   exact S4 _ hR
  have hk2:¬t.kind=2:=by simpa using hd
  rw[if_neg hk2] at hR;have S5:∀b,(b=true↔t.kind≠1∨t.to≠0∨16<t.ops.length)→HG B (SlS all (t.reads++t.writes)::blk t2 (.cells (txL t).toArray zn (0,0))::Γ) (zy.s5 Q k1 ⟨t2,0,none⟩ b):=fun b hb=>by
   unfold zy.s5;refine zF (fun hb1=>?_) fun hb1=>?_
   ·rw[if_pos (hb.1 hb1)] at hR;rw[hR];exact fin2
   rw[if_neg fun h=>by rw[hb.2 h] at hb1;cases hb1] at hR;refine zAa (α:=Int) (fun x=>∃i:Nat,x=(i:Int)∧i≤t.ops.length∧((t.ops.take i).all fun x=>uO t x.1)=true) (fun x=>t.ops.length-x.toNat) ⟨0,rfl,zgW _,by simp⟩ fun k6 x hx hk6=>?_;obtain⟨m,rfl,hm,hs3⟩:=hx;unfold zy.b6
   repeat refine zT ?_
   refine zF (fun hc6=>?_) fun hc6=>?_
   ·have hml:m<t.ops.length:=by simp at hc6;omega
    have hge:t.ops[m]?=some t.ops[m]:=zgG hml;have hmem:t.ops[m]∈t.ops:=zgX hml;have htk:t.ops.take (m+1)=t.ops.take m++[t.ops[m]]:=zgJ hml;generalize t.ops[m]=x at hge hmem htk
    repeat refine zT ?_
    refine uT opF zAs (fun w hw=>(hr w hw.drops).2.2.1) hge<|zaL (fun w hw=>hr w hw.drops) ⟨by omega,by omega⟩ (fun w hw=>(hr w hw.drops).2.2.2 x hmem) ?_;by_cases ho:uO t x.1=true
    ·rw[ho];refine s_f<|qJ<|hk6 _ ⟨m+1,by simp,hml,?_⟩ (by omega);rw[htk,List.all_append,hs3];simpa using ho
    ·have ho':uO t x.1=false:=by simpa using ho
     rw[ho'];refine s_t ?_;rw[show false=R by rw[←hR];symm;rw[List.all_eq_false];exact⟨x,hmem,by simpa using ho'⟩];exact fin2
   ·have hml:m=t.ops.length:=by simp at hc6;omega
    rw[hml,zgQ] at hs3;rw[show true=R by rw[←hR,hs3]];exact fin2
  repeat refine zT ?_
  refine zF (fun he=>?_) fun he=>?_
  ·exact S5 _ (by
           have:t.kind≠1:=by simpa using he
           simp[this])
  have hk1':t.kind=1:=by simpa using he
  repeat refine zT ?_
  refine zF (fun hf=>?_) fun hf=>?_
  ·exact S5 _ (by
           have:t.to≠0:=by simpa using hf
           simp[this])
  have hto:t.to=0:=by simpa using hf
  repeat refine zT ?_
  refine S5 _ ?_;simp[hk1',hto];omega
 refine zF (fun hb=>S1 _ (by
                  have:n<1:=by simpa using hb
                  simp[zAt,this])) fun hb=>?_
 have hn1:¬n<1:=by simpa using hb
 refine zF (fun hb=>S1 _ (by
                  have:3<n:=by simpa using hb
                  simp[zAt,this])) fun hb=>?_
 have hn3:¬3<n:=by simpa using hb
 repeat refine zT ?_
 refine zLM (by omega) (fun w hw=>(hr w hw.drops).1) ?_;by_cases hr1:zDs t.reads;rotate_left
 ·rw[zgU hr1];exact s_t (S1 _ (by simp[zAt,hr1]))
 rw[zga hr1];refine s_f ?_
 repeat refine zT ?_
 refine zLM (by omega) (fun w hw=>(hr w hw.drops).2.1) ?_;by_cases hr2:zDs t.writes;rotate_left
 ·rw[zgU hr2];exact s_t (S1 _ (by simp[zAt,hr2]))
 rw[zga hr2];refine s_f ?_
 repeat refine zT ?_
 refine zF (fun hb=>S1 _ (by
                  have:8<t.reads.length:=by simp at hb;omega
                  simp[zAt,this])) fun hb=>?_
 have h8:¬8<t.reads.length:=by simp at hb;omega
 repeat refine zT ?_
 refine zF (fun hb=>S1 _ (by
                  have:8<t.writes.length:=by simp at hb;omega
                  simp[zAt,this])) fun hb=>?_
 have h9:¬8<t.writes.length:=by simp at hb;omega
 repeat refine zT ?_
 refine zAw (e':=(t.reads.length+t.writes.length:Int)) (by rw[wrap64 (by omega) (by omega)];omega)<|S1 _ ?_;simp only[zAt,hn1,hn3,hr1,hr2,h8,h9,not_true,false_or,zgH];omega
end
end
section
open Go Go.Sep Go.RowKit
theorem zYF{α β:Type}(f:α→β)(L:List α):L.flatMap (fun x=>[f x])=L.map f:=by induction L <;> simp_all
theorem zcn{w:World}{cs:List Value}(hc:cs.length=4)(y:Rdy w (.fld 0 1 (.int .i64) (.fld 1 1 .str (.fld 2 1 (.sl (.int .u8) 1) (.fld 3 1 (.int .i64) .nil)))) cs):
  ∃x:OpX,cs=opF x∧RdB w x.2 x.1.val∧-9223372036854775808≤x.1.n∧x.1.n≤9223372036854775807:=by
 match cs,hc with
 | [a,b,c,d],_=>
  obtain⟨⟨x0,e0,_⟩,⟨x1,e1,_⟩,⟨s,e2,_,_,h1,h2⟩,⟨x3,e3,w3⟩,_⟩:=y;cases e0;cases e1;cases e2;cases e3
  simp[Lit.wf,IntKind.min,IntKind.max,IntKind.signed,IntKind.bits] at w3;obtain⟨xs,_,h3⟩:=zQw h1 h2;obtain⟨l,rfl⟩:=zJt x1;exact⟨(⟨x0,l,xs,x3⟩,s),rfl,h3,by simp only;omega⟩
theorem zOg{w:World}{s:Sl}(h1:s.a=none→s.n=0∧s.c=0)(h2:∀a i,s.a=some a→i<s.n→∃cs',cs'.length=1∧(∀j,j<1→w.cell? (a.add (i*1+j))=cs'[j]?)∧Rdy w .str cs'):∃L:List (List UInt8),RdC w s 1 (L.map qE):=by
 obtain⟨L,_,hL,_⟩:=zJr (fun x:List UInt8=>[qE x]) (fun _=>True) (fun _=>rfl) h1 h2 fun cs hc hr=>by
  obtain⟨b,rfl,_⟩:=hr;obtain⟨x,rfl⟩:=zJt b;exact⟨x,rfl,trivial⟩
 exact⟨L,by rw[zYF] at hL;exact hL⟩
theorem zFK{B w:World}{Γ:List zB}{t:TxX}(h:zAn B t)(hw:Holds B Γ w):zAn w t:=⟨h.1.old hw,h.2.1.old hw,h.2.2.1.old hw,fun x hx=>(h.2.2.2 x hx).old hw⟩
end
end Go.Proofs.YtlelhlcjaapkoaaGreat
namespace Go.Proofs.YtlelhlcjaapkoaaGreat
open Go Go.Sep Go.Sep.Bt
abbrev zHe(n:Nat)(M:zo)(ks:List (List UInt8))(W:WM):Prop:=∀p∈W,p.1∈ks∧p.2.home=(yt n M (bs p.1)).home∧p.2.cnt=(yt n M (bs p.1)).cnt
theorem zHe.now{n:Nat}{M:zo}{ks:List (List UInt8)}{W:WM}(h:zHe n M ks W)(k:List UInt8):(jy n M W k).home=(yt n M (bs k)).home∧(jy n M W k).cnt=(yt n M (bs k)).cnt:=by
 unfold jy;cases hm:qj k W with
 | none=>exact⟨rfl,rfl⟩
 | some r=>exact(h _ (zFx hm)).2
theorem zUf{ν:Type}{W:List (List UInt8×ν)}{k:List UInt8}{v:ν}{p:List UInt8×ν}(h:p∈uH k v W):p=(k,v)∨p∈W:=by
 rcases zFE k W with⟨_,h2,_,_⟩|⟨j,x,hj,h0,_,_,h2,_⟩
 ·rw[h2] at h;rcases zgP.1 h with h|h
  ·exact .inr h
  ·exact .inl (zgM.1 h)
 ·rw[h2] at h;rcases zh3 h with h|h
  ·exact .inr h
  ·exact .inl h
theorem zHe.set{n:Nat}{M:zo}{ks:List (List UInt8)}{W:WM}(h:zHe n M ks W){k:List UInt8}(hk:k∈ks)(has:Bool)(val:List UInt8):zHe n M ks (setW n M W k has val):=fun p hp=>by
 rcases zUf hp with rfl|hp
 ·exact⟨hk,(h.now k).1,(h.now k).2⟩
 ·exact h p hp
theorem zYG{n:Nat}{M:zo}{W:WM}{k:List UInt8}{d:Int}:(zNt n M W k d).2=0∨(zNt n M W k d).2=110∨(zNt n M W k d).2=111:=by
 unfold zNt
 repeat' split
 all_goals simp
theorem zVo{n:Nat}{M:zo}{W:WM}{O:OM}{o:OpM}:(stepW n M W O o).2.2=0∨(stepW n M W O o).2.2=110∨(stepW n M W O o).2.2=111:=by
 unfold stepW
 repeat' split
 all_goals first|exact zYG|simp
theorem zKq{t:TxX}{o:OpM}(h:uO t o=true)(hk:o.kind=2∨o.kind=3∨o.kind=6):o.key∈t.writes:=by
 by_cases hw:o.key∈t.writes
 ·exact hw
 ·exfalso;unfold uO at h;split at h
  ·cases h
  split at h
  ·omega
  split at h
  ·cases h
  ·rename_i h3;exact h3 ⟨hw,.inr hk⟩
theorem zYH{n:Nat}{M:zo}{ks:List (List UInt8)}{W:WM}{k:List UInt8}{d:Int}(h:zHe n M ks W)(hk:k∈ks):zHe n M ks (zNt n M W k d).1:=by
 unfold zNt;by_cases h1:(jy n M W k).has=true∧(jy n M W k).val.length≠8
 ·rw[if_pos h1];exact h
 rw[if_neg h1];generalize(if(jy n M W k).has then numOf (jy n M W k).val else 0)=a;cases zUc a d
 ·rw[if_neg (by simp)];exact h.set hk _ _
 ·rw[if_pos rfl];exact h
theorem zOh{n:Nat}{M:zo}{t:TxX}{W:WM}{O:OM}{o:OpM}(h:zHe n M t.writes W)(ho:uO t o=true):zHe n M t.writes (stepW n M W O o).1:=by
 unfold stepW;split
 ·exact h
 split
 ·exact h
 split
 ·exact h.set (zKq ho (.inl (by assumption))) _ _
 split
 ·exact h.set (zKq ho (.inr (.inl (by assumption)))) _ _
 split
 ·exact h
 split
 ·exact h
 split
 ·exact zYH h (zKq ho (.inr (.inr (by assumption))))
 ·exact h
abbrev zRa(x:OpX):Bool:=decide (x.1.kind=1∨x.1.kind=7)
theorem zVp{n:Nat}{M:zo}{W:WM}{O:OM}{x:OpX}:(stepW n M W O x.1).2.1.length=O.length+if zRa x then 1 else 0:=by
 unfold stepW zRa;by_cases h1:x.1.kind=1
 ·simp[h1]
 by_cases h7:x.1.kind=7
 ·simp[h7]
 rw[if_neg h1,if_neg h7]
 repeat' split
 all_goals first|(simp only[h1,h7,or_self,decide_false,zgc,zhG];done)|(simp[h1,h7] at *)
theorem zUg{n:Nat}{M:zo}{t:TxX}:∀{xs:List OpX} {W:WM} {O:OM},(∀x∈xs,uO t x.1=true)→zHe n M t.writes W →
  ((zJI n M xs W O).2.2=0∨(zJI n M xs W O).2.2=110∨(zJI n M xs W O).2.2=111)∧zHe n M t.writes (zJI n M xs W O).1∧((zJI n M xs W O).2.2=0→(zJI n M xs W O).2.1.length=O.length+(xs.filter zRa).length)
 | [],W,O,_,h=>⟨.inl rfl,h,fun _=>by simp[zX6]⟩
 | x::xs,W,O,hr,h=>by
  have hx:=hr x zgN;rw[zIF];split
  ·rename_i h0;exact⟨zVo,zOh h hx,fun h1=>absurd h1 h0⟩
  ·have ih:=zUg (n:=n) (M:=M) (t:=t) (xs:=xs) (W:=(stepW n M W O x.1).1) (O:=(stepW n M W O x.1).2.1) (fun y hy=>hr y (zgI _ hy)) (zOh h hx);refine⟨ih.1,ih.2.1,fun h1=>?_⟩;rw[ih.2.2 h1,zVp,zhD];split <;> simp <;> omega
abbrev zeT(n:Nat)(M:zo)(t:TxX)(p:List UInt8×Rec):Prop:=p.1∈t.writes∧(if t.kind=2 then p.2.home=t.to∧p.2.cnt=(yt n M (bs p.1)).cnt+1 else p.2.home=(yt n M (bs p.1)).home∧p.2.cnt=(yt n M (bs p.1)).cnt)
theorem zDM{n:Int}{t:TxX}(h:qC n t=true)(hk:t.kind=2):t.ops=[]∧∃k,t.writes=[k]:=by
 unfold qC at h;split at h
 ·cases h
 split at h
 ·cases h
 simp only[zgp,zgH] at h;refine⟨zgg.1 h.2.1,?_⟩;obtain⟨k,hk⟩:=zhJ.1 h.2.2.1;exact⟨k,hk⟩
theorem zOi{n:Int}{t:TxX}(h:qC n t=true)(hk:t.kind≠2):∀x∈t.ops,uO t x.1=true:=by
 unfold qC at h;split at h
 ·cases h
 split at h
 ·cases h
 split at h
 ·cases h
 ·exact zg2.1 h
theorem zaM{n:Nat}{M:zo}{t:TxX}{g:Int}(h:qC g t=true):
  ((jV n M t).2.2=0∨(jV n M t).2.2=110∨(jV n M t).2.2=111)∧((jV n M t).2.2=0→(∀p∈(jV n M t).1,zeT n M t p)∧(jV n M t).2.1.length=(t.ops.filter zRa).length):=by
 unfold jV;split
 ·rename_i hk;obtain⟨ho,k,hw⟩:=zDM h hk;rw[hw,zEM,ho];split
  ·exact⟨.inr (.inr rfl),fun h1=>by simp at h1⟩
  ·rw[zID];refine⟨.inl rfl,fun _=>⟨fun p hp=>?_,rfl⟩⟩;have hn:jy n M [] k=yt n M (bs k):=rfl;rcases zUf hp with rfl|hp
   ·refine⟨by rw[hw];simp,?_⟩;rw[if_pos hk,hn];exact⟨rfl,rfl⟩
   ·cases hp
 ·rename_i hk;obtain⟨h1,h2,h3⟩:=zUg (n:=n) (M:=M) (t:=t) (xs:=t.ops) (W:=[]) (O:=[]) (zOi h hk) (by simp);refine⟨h1,fun h0=>⟨fun p hp=>?_,by rw[h3 h0];simp⟩⟩;refine⟨(h2 p hp).1,?_⟩;rw[if_neg hk];exact(h2 p hp).2
section
variable{B:World}{Γ Δ:List zB}{st:Nat}{M:zo}{q:Bool→K}
end
end Go.Proofs.YtlelhlcjaapkoaaGreat
namespace Go.Proofs.YtlelhlcjaapkoaaGreat
open Go Go.Sep Go.RowKit
end Go.Proofs.YtlelhlcjaapkoaaGreat
namespace Go.Proofs.YtlelhlcjaapkoaaGreat
section
open Go Go.Sep Go.Sep.Bt
theorem zYI{n:Nat}{M:zo}{W:WM}{k k':TX}{r:Rec}:jy n M (uH k r W) k'=if k'=k then r else jy n M W k':=by
 unfold jy;rw[zDS];split <;> rfl
theorem zRb{n:Nat}{M:zo}:∀{xs ys:List OpX} {W:WM} {O:OM},xs.map Prod.fst=ys.map Prod.fst→zJI n M xs W O=zJI n M ys W O
 | [],[],_,_,_=>rfl
 | [],y::ys,_,_,h=>by cases h
 | x::xs,[],_,_,h=>by cases h
 | x::xs,y::ys,W,O,h=>by
  simp only[zgd,zhZ] at h;rw[zIF,zIF,h.1];split
  ·rfl
  ·exact zRb h.2
theorem zVq{n:Nat}{M:zo}{a b:TxX}(h:zC9 a b):jV n M a=jV n M b:=by
 obtain⟨h1,h2,h3,h4,h5⟩:=h;unfold jV;rw[h1,h2,h4,zRb h5]
section
variable{B:World}{Γ Δ:List zB}{st n:Nat}{M:zo}
theorem zVr{k:K}(h:(∀x∈M,x.2.ok)→HG B (yM st n M::Γ) k):HG B (yM st n M::Γ) k:=zL4 fun t X hM hok h1 h3=>by
 subst hM;exact zEJ hok h1 h3 (h hok)
end
end
section
open Go Go.Sep
def zM1(n:Nat):List UInt8:=if h:n<128 then[u8 n] else u8 (n%128+128)::zM1 (n / 128)
termination_by n
decreasing_by omega
theorem zJN{n:Nat}(h:n<128):zM1 n=[u8 n]:=by rw[zM1,dif_pos h]
theorem zRc{n:Nat}(h:¬n<128):zM1 n=u8 (n%128+128)::zM1 (n / 128):=by rw[zM1,dif_neg h]
theorem zHf:∀(k n:Nat),n<128^(k+1)→(zM1 n).length≤k+1
 | 0,n,h=>by rw[zJN (by omega)];simp
 | k+1,n,h=>by
  by_cases hn:n<128
  ·rw[zJN hn];simp
  ·rw[zRc hn];have:n / 128<128^(k+1):=Nat.div_lt_of_lt_mul (by rw[Nat.pow_succ] at h;omega);have:=zHf k _ this;simp only[zgO];omega
theorem zeU(n:Nat):bitsOf .or .u8 (IntKind.wrap .u8 (n:Int)) 128=((u8 (n%128+128)).toNat:Int):=by
 rw[zX3];unfold bitsOf;simp only;have key:∀x:BitVec 8,(x|||128#8).toNat=x.toNat%128+128:=by decide
 have h2:(BitVec.ofInt (IntKind.bits .u8) ((u8 n).toNat:Int)|||BitVec.ofInt (IntKind.bits .u8) 128).toNat=(BitVec.ofInt (IntKind.bits .u8) ((u8 n).toNat:Int)).toNat%128+128:=key (BitVec.ofInt 8 ((u8 n).toNat:Int));have h3:(BitVec.ofInt (IntKind.bits .u8) ((u8 n).toNat:Int)).toNat=(u8 n).toNat:=by
  show(BitVec.ofInt 8 ((u8 n).toNat:Int)).toNat=_;rw[BitVec.ofInt_natCast,BitVec.toNat_ofNat,Nat.mod_eq_of_lt (by have:=(u8 n).toNat_lt;omega)]
 rw[h2,h3,zX3];simp only[u8N];omega
theorem zco(n:Nat)(k:Nat)(hk:k<64):zIo .u64 (n:Int) (k:Int)=((n / 2^k:Nat):Int):=by
 unfold zIo;have:min ((k:Int).toNat) (IntKind.bits .u64)=k:=by simp[IntKind.bits];omega
 rw[this,Int.fdiv_eq_ediv_of_nonneg _ (Int.le_of_lt (Int.pow_pos (by decide))),Int.natCast_ediv,Int.natCast_pow];rfl
end
section
open Go Go.Sep
abbrev opB(x:OpX):zB:=Bytes qO x.2 x.1.val
abbrev txC(t:TxX)(Γ:List zB):List zB:=SlS t.rs t.reads::SlS t.ws t.writes::SlC vg 4 t.os (t.ops.flatMap opF)::Sep.stars (t.ops.map opB)::Γ
abbrev zKC(a b:TxX):Prop:=zC9 a b
section
variable{B:World}{Γ Δ:List zB}{k:K}
theorem zEP{α:Type}{F:α→zB}{l:List α}{x:α}{w:World}(hx:x∈l)(h:Holds B (Sep.stars (l.map F)::Γ) w):∃Δ,Holds B (F x::Δ) w:=by
 obtain⟨i,hi⟩:=zh5 hx;exact⟨_,zSb i hi h⟩
theorem zKr{t:TxX}{w:World}(h:Holds B (txC t Γ) w):zAn w t :=
 ⟨(zO (s:=t.rs) h).1,(zO (s:=t.ws) h).1,(zO (s:=t.os) h).1,fun x hx=>by
  obtain⟨Δ,hd⟩:=zEP (F:=opB) hx h.tail.tail.tail;exact hd.rdC (E:=qO) zgN⟩
theorem zEv{E T esz:Nat}{us:List Value}{s:Sl}{Q:Sl→K}(hr:∀w,Holds B Γ w→RdC w s esz us)(hfl:∀u∈us,qD u=true)(hroom:us.length≤100000000)(he:0<esz)(h:∀s',s'.n=s.n→HG B (SlC E esz s' us::Γ) (Q s'))(hT:zFe Tryz.prog T T E esz=true:=by kernel_rfl):
  HG B Γ (Ite s.a.isNone (Q (Sl.mk none 0 0)) (New E #[] fun t5=>Do Tryz.prog (Builtin.append_ #[T,T] T #[Sl.val (Sl.mk (some t5) 0 0),s.val]) Sl.val fun t7=>Q t7)):=fun w hw=>by
 have hrw:=hr w hw;have hl:=hrw.len;have hsn:s.n≤us.length:=by rw[hl];exact Nat.le_mul_of_pos_right _ he
 refine Sep.hg hw ?_;clear hw;refine zF (fun hb=>?_) fun hb=>?_
 ·have ha:s.a=none:=by cases hs:s.a with
   | none=>rfl
   | some a=>rw[hs] at hb;cases hb
  have hn:s.n=0:=hrw.nil ha;have hus:us=[]:=zgg.1 (by rw[hl,hn,Nat.zero_mul]);refine fun w2 hw2=>h ⟨none,0,0⟩ hn.symm w2 ?_;rw[hus];exact hw2.ji E esz
 ·refine zD fun t5=>?_;refine zBg (A':=SlC E esz ⟨some ⟨t5,0,none⟩,0,0⟩ []) (zAq (vs:=[]) rfl (by simp)) ?_;refine qp (s:=⟨some ⟨t5,0,none⟩,0,0⟩) (us:=us) (fun w hw=>hr w hw.drops) hfl (by simp only;omega) (hT:=hT) fun s' hs'=>?_;exact h s' (by simp only at hs';omega)
theorem zVs{s:Sl}{xs:List UInt8}{Q:Sl→K}(hr:∀w,Holds B Γ w→RdB w s xs)(hl:xs.length≤90000000)(h:∀s',HG B (Bytes qO s' xs::Γ) (Q s')):HG B Γ (uG.call s Q):=fun w hw=>by
 refine zFC _ _ _ ?_;refine Sep.hg hw ?_;clear hw w;unfold uG;exact zEv (us:=xs.map zBI) hr (zED _) (by rw[zgL];omega) (by omega) fun s' _=>h s'
theorem zOj{s:Sl}{L:List TX}{Q:Sl→K}(hr:∀w,Holds B Γ w→RdC w s 1 (L.map qE))(hl:L.length≤90000000)(h:∀s',HG B (SlS s' L::Γ) (Q s')):HG B Γ (xS.call s Q):=fun w hw=>by
 refine zD1 _ _ _ ?_;refine Sep.hg hw ?_;clear hw w;unfold xS;exact zEv (us:=L.map qE) hr (fun v hv=>by obtain⟨y,_,rfl⟩:=zgV.1 hv;rfl) (by rw[zgL];omega) (by omega) fun s' _=>h s'
theorem zRd(L:List OpX):∀v∈L.flatMap opF,qD v=true:=fun v hv=>by
 obtain⟨x,_,hx⟩:=zhS.1 hv;simp only[opF,zgS,zhg,or_false] at hx;rcases hx with rfl|rfl|rfl|rfl <;> rfl
theorem zVt{s:Sl}{L:List OpX}{Q:Sl→K}(hr:∀w,Holds B Γ w→RdC w s 4 (L.flatMap opF))(hl:L.length≤20000000)(h:∀s',HG B (SlC vg 4 s' (L.flatMap opF)::Γ) (Q s')):HG B Γ (vN.call s Q):=fun w hw=>by
 refine zD2 _ _ _ ?_;refine Sep.hg hw ?_;clear hw w;unfold vN;exact zEv (us:=L.flatMap opF) hr (zRd L) (by rw[zH _ 4 zAs];omega) (by omega) fun s' _=>h s'
theorem zFk{α:Type}{f:α→List Value}{esz:Nat}(hf:∀x,(f x).length=esz):∀{L:List α} {i off:Nat} {x y:α} {v:Value},L[i]?=some x→off<esz→(f x).set off v=f y→(L.flatMap f).set (i*esz+off) v=(L.set i y).flatMap f
 | [],i,off,x,y,v,hx,_,_=>by simp at hx
 | z::L,0,off,x,y,v,hx,ho,hy=>by
  have hzx:z=x:=by simpa using hx
  subst hzx;rw[Nat.zero_mul,zg8,zgi,List.set_cons_zero,zgi,List.set_append_left _ _ (by rw[hf];exact ho),hy]
 | z::L,i+1,off,x,y,v,hx,ho,hy=>by
  have ih:=zFk hf (L:=L) (i:=i) (by simpa using hx) ho hy;rw[zgi,List.set_cons_succ,zgi,←ih,List.set_append_right _ _ (by rw[hf,Nat.succ_mul];omega),hf];congr 2;rw[Nat.succ_mul];omega
theorem zL7{t:TxX}{Q:Array Value→K}(hr:∀w,Holds B Γ w→zAn w t)(hl:t.reads.length≤1000∧t.writes.length≤1000∧t.ops.length≤1000∧∀x∈t.ops,x.1.val.length≤1000000)(h:∀t',zKC t' t→HG B (txC t' Γ) (Q (txL t').toArray)):HG B Γ (zBV.call (txL t).toArray Q):=fun w hw=>by
 refine zPz _ _ _ ?_;refine Sep.hg hw ?_;clear hw w;obtain⟨hl1,hl2,hl3,hl4⟩:=hl;unfold zBV;refine zD fun t1=>?_;refine zD fun t2=>?_
 repeat refine zT ?_
 refine zOj (fun w hw=>(hr w hw.drops).1) (by omega) fun rs=>?_;refine vS ?_;refine zOj (fun w hw=>(hr w hw.drops).2.1) (by omega) fun ws=>?_;refine vS ?_;refine zVt (fun w hw=>(hr w hw.drops).2.2.1) (by omega) fun os=>?_
 repeat refine zT ?_
 refine fun w hw=>Sep.hg (show Holds B (Sep.stars (([]:List OpX).map opB)::_) w from hw.zAA) ?_;clear hw w;refine yw os fun a1 a2 a3 a4=>?_;rw[zH _ 4 zAs] at a1;refine zA (Δ:=SlC vg 4 os (t.ops.flatMap opF)::Sep.stars (([]:List OpX).map opB)::blk t1 (.cells [.int .i64 t.kind,rs.val,ws.val,os.val,.int .i64 t.to].toArray zn (0,0))::blk t2 (.cells [.int .i64 0,Sl.val ⟨none,0,0⟩,Sl.val ⟨none,0,0⟩,Sl.val ⟨none,0,0⟩,.int .i64 0].toArray zn (0,0))::SlS ws t.writes::SlS rs t.reads::Γ) ?_;refine qH (α:=Int) (ι:=Nat×List OpX) (fun x i=>x=(i.1:Int)∧i.1≤t.ops.length∧i.2.map Prod.fst=t.ops.map Prod.fst∧i.2.drop i.1=t.ops.drop i.1)
  (fun x i=>SlC vg 4 os (i.2.flatMap opF)::Sep.stars ((i.2.take i.1).map opB)::blk t1 (.cells [.int .i64 t.kind,rs.val,ws.val,os.val,.int .i64 t.to].toArray zn (0,0))::blk t2 (.cells [.int .i64 0,Sl.val ⟨none,0,0⟩,Sl.val ⟨none,0,0⟩,Sl.val ⟨none,0,0⟩,.int .i64 0].toArray zn (0,0))::SlS ws t.writes::SlS rs t.reads::Γ)
  (fun x i=>t.ops.length-i.1) (0,t.ops) ⟨rfl,zgW _,rfl,rfl⟩ ?_
 rintro k' _ ⟨i,L⟩ ⟨rfl,hi,hm,hd⟩ hk';simp only at hi hm hd hk' ⊢;have hLl:L.length=t.ops.length:=by have:=congrArg List.length hm;simpa using this
 unfold zBV.b1;refine zF (fun hb=>?_) fun hb=>?_
 ·have hil:i<t.ops.length:=by simp only[zgH] at hb;omega
  have hge:L[i]?=some t.ops[i]:=by
   have:=congrArg (·[0]?) hd;simp only[zgt,zho] at this;rw[this,zgG hil]
  have hmem:t.ops[i]∈t.ops:=zgX hil;generalize t.ops[i]=x at hge hmem;have hvl:=hl4 x hmem;refine uT opF zAs (fun w hw=>(zO (s:=os) hw).1) hge ?_;refine zD fun o4=>?_
  repeat refine zT ?_
  refine zVs (xs:=x.1.val) (fun w hw=>(hr w hw.drops).2.2.2 x hmem) (by omega) fun vs=>?_
  repeat refine zT ?_
  refine zBk (s:=os) (i:=i) ?_;refine zFV (s:=os) ?_ (by rw[zH _ 4 zAs];omega);rw[zFk (y:=((x.1,vs):OpX)) zAs hge (by omega) rfl];refine qJ ?_;have hA:(L.set i (x.1,vs)).map Prod.fst=t.ops.map Prod.fst:=by
   rw[←hm,zh8];refine zhV fun j=>?_;rw[List.getElem?_set];split
   ·rename_i hij;subst hij;split
    ·simp[hge]
    ·rename_i hj;simp only[zgL] at hj;omega
   ·rfl
  have hB:(L.set i (x.1,vs)).drop (i+1)=t.ops.drop (i+1):=by
   rw[ziB (by omega),←zgo,hd,zgo]
  have h:=hk' ((i:Int)+1) (i+1,L.set i (x.1,vs)) ⟨by simp,hil,hA,hB⟩ (by simp only;omega);have ht:(L.set i (x.1,vs)).take (i+1)=L.take i++[((x.1,vs):OpX)]:=by
   have hx:(L.set i (x.1,vs))[i]?=some (x.1,vs):=by rw[zhO (by omega)]
   rw[List.take_add_one,hx,List.take_set_of_le (zgu _)];rfl
  simp only at h;rw[ht] at h;have:=zAb (F:=opB) (A:=L.take i) (C:=[]) (x:=((x.1,vs):OpX)) (Γ:=SlC vg 4 os ((L.set i (x.1,vs)).flatMap opF)::blk t1 (.cells [.int .i64 t.kind,rs.val,ws.val,os.val,.int .i64 t.to].toArray zn (0,0))::blk t2 (.cells [.int .i64 0,Sl.val ⟨none,0,0⟩,Sl.val ⟨none,0,0⟩,Sl.val ⟨none,0,0⟩,.int .i64 0].toArray zn (0,0))::SlS ws t.writes::SlS rs t.reads::Γ) (zA h);rw[zgy] at this;exact zA this
 ·have hil:i=t.ops.length:=by simp only[zgF] at hb;omega
  rw[hil,←hLl,zgQ]
  repeat refine zT ?_
  have:=h ⟨t.kind,t.reads,t.writes,L,t.to,rs,ws,os⟩ ⟨rfl,rfl,rfl,rfl,hm⟩;exact zA this
theorem zP3{t:TxX}{Q:Sl→K}(hr1:∀w,Holds B Γ w→RdC w t.rs 1 (t.reads.map qE))(hr2:∀w,Holds B Γ w→RdC w t.ws 1 (t.writes.map qE))(hl:t.reads.length≤400000)(hl2:t.writes.length≤400000)(h:∀s,HG B (SlS s (vX (t.reads++t.writes))::Γ) (Q s)):HG B Γ (zDQ.call (txL t).toArray Q):=fun w hw=>by
 refine zP0 _ _ _ ?_;refine Sep.hg hw ?_;clear hw w;unfold zDQ;refine zD fun t1=>?_
 repeat refine zT ?_
 refine zD fun t8=>?_;refine zS8 (La:=t.reads) (Lb:=t.writes) (by omega) (by omega) (fun w hw=>hr1 w hw.drops) (fun w hw=>hr2 w hw.drops) fun s=>?_;have hln:(t.reads++t.writes).length=t.reads.length+t.writes.length:=zgK;refine fun w hw=>zFy (by omega) hw fun w hw=>?_;refine Sep.hg hw ?_;clear hw w;refine zS7 (by rw[zOV];omega) fun s'=>?_;have:=h s';unfold vX at this;exact zA this
end
end
section
open Go Go.Sep
def zIX(p:Nat)(xs:List UInt8):zB:=ex fun s:Sl=>Sep.stars [blk p (.cells [s.val].toArray zEV (0,0)),SlC qO 1 s (xs.map zBI)]
section
variable{B:World}{Γ Δ:List zB}{p:Nat}{xs:List UInt8}{k Q:K}
theorem zUh(h:∀s,HG B (blk p (.cells [s.val].toArray zEV (0,0))::SlC qO 1 s (xs.map zBI)::Γ) k):HG B (zIX p xs::Γ) k:=zCE fun s=>zBL (h s)
theorem zKD{s:Sl}(h:HG B (zIX p xs::Γ) k):HG B (blk p (.cells [s.val].toArray zEV (0,0))::SlC qO 1 s (xs.map zBI)::Γ) k:=fun w hw=>by
 refine h w ?_;have h3:Holds B (Sep.stars [blk p (.cells [s.val].toArray zEV (0,0)),SlC qO 1 s (xs.map zBI)]::Γ) w:=Holds.flat.2 hw;exact h3.imp fun g hg=>⟨s,hg⟩
instance(priority:=high) zey:Sep.Own p (zIX p xs::Γ) (zIX p xs) Γ:=⟨.refl _⟩
theorem zVu{q0:Addr→K}(h:∀p,HG B (zIX p []::Γ) (q0 ⟨p,0,none⟩)):HG B Γ (New zEV #[Sl.val ⟨none,0,0⟩] q0):=by
 refine zD fun p=>?_;refine fun w hw=>?_;refine hg (show Holds B (SlC qO 1 ⟨none,0,0⟩ (([]:List UInt8).map zBI)::_) w from hw.ji _ _) ?_;refine zGG ?_;exact zKD (h p)
theorem zYJ{n:Nat}(hn:n<1180591620717411303424)(hx:xs.length≤50000000)(h:HG B (zIX p (xs++zM1 n)::Γ) Q):HG B (zIX p xs::Γ) (vI.call (some ⟨p,0,none⟩) (n:Int) Q):=by
 refine fun w hw=>zLe _ _ _ _ ?_;refine hg hw ?_;clear hw w;have hnl:=zHf 9 n (by simpa using hn);unfold vI;refine qH (α:=Int) (ι:=Nat×List UInt8) (fun x i=>x=(i.1:Int)∧i.2++zM1 i.1=xs++zM1 n) (fun x i=>zIX p i.2::Γ) (fun x i=>i.1) (n,xs) ⟨rfl,rfl⟩ ?_;rintro k' _ ⟨m,ys⟩ ⟨rfl,he⟩ hk';simp only at he hk' ⊢;have hyl:ys.length≤50000010:=by have:=congrArg List.length he;simp only[zgK] at this;omega
 unfold vI.b1;refine zF (fun hb=>?_) fun hb=>?_
 ·have hm:¬m<128:=by simp only[zgH] at hb;omega
  refine uf ?_;refine zUh fun s=>?_;refine yw s fun a1 a2 a3 a4=>?_;simp only[zgL] at a1
  repeat refine zT ?_
  refine zAw rfl ?_;refine zAw (zeU m) ?_;refine zD fun t16=>?_;refine qp (s:=s) (esz:=1) (us:=[zBI (u8 (m%128+128))]) (zBM rfl) (by simp[zBI,qD]) (by simp only;omega) fun s2 _=>?_;rw[show ys.map zBI++[zBI (u8 (m%128+128))]=(ys++[u8 (m%128+128)]).map zBI by simp]
  repeat refine zT ?_
  refine zSe (by decide) ?_;refine zAw (zco m 7 (by decide)) ?_;refine uL s2 ?_;refine yN p ?_;refine zKD ?_;refine zA (hk' ((m / 2^7:Nat):Int) (m / 2^7,ys++[u8 (m%128+128)]) ⟨rfl,?_⟩ (by simp only;omega));simp only;rw[←he,zRc hm];simp
 ·have hm:m<128:=by simp only[zgF] at hb;omega
  refine uf ?_;refine zUh fun s=>?_;refine yw s fun a1 a2 a3 a4=>?_;simp only[zgL] at a1
  repeat refine zT ?_
  refine zAw (zX3 m) ?_;refine zD fun t16=>?_;refine qp (s:=s) (esz:=1) (us:=[zBI (u8 m)]) (zBM rfl) (by simp[zBI,qD]) (by simp only;omega) fun s2 _=>?_;rw[show ys.map zBI++[zBI (u8 m)]=(ys++[u8 m]).map zBI by simp]
  repeat refine zT ?_
  refine uL s2 ?_;refine yN p ?_;refine zKD ?_;rw[←zJN hm,he];exact zA h
theorem zaN{b:Sl}{ys:List UInt8}(hr:∀w,Holds B Γ w→RdB w b ys)(hy:ys.length≤10000000)(hx:xs.length≤10000000)(h:HG B (zIX p (xs++zM1 ys.length++ys)::Γ) Q):HG B (zIX p xs::Γ) (zAZ.call (some ⟨p,0,none⟩) b Q):=by
 refine fun w hw=>zKo _ _ _ _ ?_;have hbn:b.n=ys.length:=by have:=(hr w hw.drops).len;simpa using this.symm
 refine hg hw ?_;clear hw w;have hnl:=zHf 9 ys.length (by simp;omega);unfold zAZ;refine zAw (zCk (by omega) (by omega)) ?_;rw[hbn];refine zYJ (by omega) (by omega) ?_;refine uf ?_;refine zUh fun s=>?_;refine yw s fun a1 a2 a3 a4=>?_;simp only[zgL,zgK] at a1
 repeat refine zT ?_
 refine qp (s:=s) (esz:=1) (us:=ys.map zBI) (fun w hw=>hr w hw.drops) (zED _) (by omega) fun s2 _=>?_;rw[←zgT]
 repeat refine zT ?_
 refine uL s2 ?_;refine yN p ?_;refine zKD ?_;exact zA h
theorem zaO{q:Sl→K}(hx:xs.length≤50000000)(h:∀s,HG B (SlC qO 1 s (xs.map zBI)::zIX p xs::Γ) (q s)):HG B (zIX p xs::Γ) (zCL.call (some ⟨p,0,none⟩) q):=by
 refine fun w hw=>zKp _ _ _ ?_;refine hg hw ?_;clear hw w;unfold zCL;refine uf ?_;refine zUh fun s=>?_
 repeat refine zT ?_
 refine fun w hw=>zEx _ _ _ ?_;refine hg hw ?_;clear hw w;unfold jQ;refine zEv (us:=xs.map zBI) (fun w hw=>(zO (s:=s) hw).1) (zED _) (by simp;omega) (by omega) fun s2 _=>?_;refine uL s ?_;refine yN p ?_;refine zKD ?_;exact zA (h s2)
end
end
section
open Go Go.Sep
def zM2(t:TxX)(o:OpM):Bool :=
 if 32<o.val.length∨(o.n≠0∧o.kind≠6) then false
 else if o.kind=2 then decide (o.key∈t.writes)
 else if o.kind=3∨o.kind=6 then decide (o.key∈t.writes)&&decide (o.val.length=0)
 else if o.kind=4 then decide (o.key∈t.reads++t.writes)
 else if o.kind=1∨o.kind=5 then decide (o.key∈t.reads++t.writes)&&decide (o.val.length=0)
 else if o.kind=7 then decide (o.key=[])
 else false
theorem zVv(t:TxX)(o:OpM):zM2 t o=uO t o:=by
 unfold zM2 uO;by_cases h1:32<o.val.length
 ·simp[h1]
 simp only[h1,false_or];by_cases hw:o.key∈t.writes <;> by_cases hr:o.key∈t.reads <;> by_cases hn:o.n=0 <;> by_cases hv:o.val.length=0 <;>
  (by_cases k1:o.kind=1
   ·simp[k1,hw,hr,hn,hv]
   by_cases k2:o.kind=2
   ·simp[k2,hw,hr,hn,hv]
   by_cases k3:o.kind=3
   ·simp[k3,hw,hr,hn,hv]
   by_cases k4:o.kind=4
   ·simp[k4,hw,hr,hn,hv]
   by_cases k5:o.kind=5
   ·simp[k5,hw,hr,hn,hv]
   by_cases k6:o.kind=6
   ·simp[k6,hw,hr,hn,hv]
   by_cases k7:o.kind=7
   ·simp[k7,hw,hr,hn,hv]
   have k8:o.kind<1∨7<o.kind:=by omega
   simp[k1,k2,k3,k4,k5,k6,k7,k8])
abbrev zLN(k:TX):Prop:=1≤k.length∧k.length≤16
abbrev zP4(t:TxX):Prop:=t.reads.length≤8∧t.writes.length≤8-t.reads.length∧(zDs t.reads∧∀k∈t.reads,zLN k)∧(zDs t.writes∧∀k∈t.writes,zLN k)∧∀k∈t.reads,k∉t.writes
theorem zYK{n:Int}{t:TxX}(h1:1≤n)(h3:n≤3):zP4 t↔¬zAt n t∧¬zGQ t:=by
 constructor
 ·rintro⟨a1,a2,⟨a3,a4⟩,⟨a5,a6⟩,a7⟩;refine⟨?_,?_⟩
  ·rintro(h|h|h|h|h|h|h)
   ·omega
   ·omega
   ·exact h a3
   ·exact h a5
   ·omega
   ·omega
   ·omega
  ·rintro(⟨k,hk,h⟩|⟨k,hk,h⟩)
   ·rcases zgP.1 hk with hk|hk
    ·have:=a4 k hk;omega
    ·have:=a6 k hk;omega
   ·exact a7 k hk h
 ·rintro⟨h,g⟩;simp only[zAt,not_or,Classical.not_not] at h;obtain⟨_,_,b1,b2,b3,b4,b5⟩:=h;refine⟨by omega,by omega,⟨b1,fun k hk=>?_⟩,⟨b2,fun k hk=>?_⟩,fun k hk hw=>g (.inr ⟨k,hk,hw⟩)⟩
  ·have h6:¬(k.length<1∨16<k.length):=fun h=>g (.inl ⟨k,zhF _ hk,h⟩);exact⟨by omega,by omega⟩
  ·have h6:¬(k.length<1∨16<k.length):=fun h=>g (.inl ⟨k,zg3 _ hk,h⟩);exact⟨by omega,by omega⟩
section
variable{B:World}{Γ Δ:List zB}{k:K}
theorem zHg{s:Sl}{L:List TX}{key:TX}{Q:Bool→K}(hL:L.length<100000000)(hr:∀w,Holds B Γ w→RdC w s 1 (L.map qE))(h:HG B Γ (Q (decide (key∈L)))):HG B Γ (qW.call s (bs key) Q):=fun w hw=>by
 refine zDJ _ _ _ _ ?_;have hn:s.n=L.length:=by have:=(hr w hw).len;simpa using this.symm
 refine Sep.hg hw ?_;clear hw w;unfold qW;refine fun w hw=>zD3 _ _ _ _ ?_;refine Sep.hg hw ?_;clear hw w;unfold qY;refine zAa (α:=Int) (fun x=>∃i:Nat,x=(i:Int)∧i≤L.length∧key∉L.take i) (fun x=>L.length-x.toNat) ⟨0,rfl,zgW _,by simp⟩ fun k' x hx hk'=>?_;obtain⟨i,rfl,hi,hno⟩:=hx;unfold qY.b1;refine zF (fun hb=>?_) fun hb=>?_
 ·have hil:i<L.length:=by simp only[zgH] at hb;omega
  have hge:L[i]?=some L[i]:=zgG hil;have hmem:L[i]∈L:=zgX hil;have htk:L.take (i+1)=L.take i++[L[i]]:=zgJ hil;generalize L[i]=x at hge hmem htk;refine u7 hr hge ?_;rw[qZ,qZ];refine zF (fun he=>?_) fun he=>?_
  ·have he':key=x:=by simpa using he
   rw[show decide (key∈L)=true from zga (by rw[he'];exact hmem)] at h;show HG B Γ (Q (decide ((0:Int)≤(i:Int))));rw[show decide ((0:Int)≤(i:Int))=true by simp];exact h
  ·have he':¬key=x:=by simpa using he
   refine qJ ?_;refine hk' _ ⟨i+1,by simp,hil,?_⟩ (by omega);rw[htk];simp only[zgP,zgM,not_or];exact⟨hno,he'⟩
 ·have hil:i=L.length:=by simp only[zgF] at hb;omega
  rw[hil,zgQ] at hno;rw[show decide (key∈L)=false from zgU hno] at h;show HG B Γ (Q (decide ((0:Int) ≤ -1)));rw[show decide ((0:Int) ≤ -1)=false by decide];exact h
theorem zRe{s:Sl}{L:List TX}{Q:Bool→K}(hL:L.length<1000000000)(hr:∀w,Holds B Γ w→RdC w s 1 (L.map qE))(h:HG B Γ (Q (decide (zDs L∧∀k∈L,zLN k)))):HG B Γ (vU.call s Q):=fun w hw=>by
 refine zNv _ _ _ ?_;have hn:s.n=L.length:=by have:=(hr w hw).len;simpa using this.symm
 refine Sep.hg hw ?_;clear hw w;unfold vU;refine zAa (α:=Int) (fun x=>∃i:Nat,x=(i:Int)∧i≤L.length∧zDs (L.take i)∧∀k∈L.take i,zLN k) (fun x=>L.length-x.toNat) ⟨0,rfl,zgW _,by simp,by simp⟩ fun k' x hx hk'=>?_;obtain⟨i,rfl,hi,hp,hks⟩:=hx;unfold vU.b1;refine zF (fun hb=>?_) fun hb=>?_
 ·have hil:i<L.length:=by simp only[zgH] at hb;omega
  have g2:L[i]?=some L[i]:=zgG hil;have t2:L.take (i+1)=L.take i++[L[i]]:=zgJ hil;have m2:L[i]∈L:=zgX hil;have hpi:∀j x,L[j]?=some x→j<i→zDs L→x<L[i]:=fun j x hx hj h=>by
   obtain⟨h1,rfl⟩:=zgZ.1 hx;exact(List.pairwise_iff_getElem.1 h) j i h1 hil hj
  generalize L[i]=y at g2 t2 m2 hpi;have hsz:(bs y).size=y.length:=rfl;have no:¬(zDs L∧∀k∈L,zLN k)→HG B Γ (vU.s2 Q k' s s (s.n:Int) (i:Int) true):=fun hn=>by
   rw[zgU hn] at h;unfold vU.s2;exact s_t h
  refine u7 hr g2 ?_;rw[qZ];refine zF (fun hc=>?_) fun hc=>?_
  ·refine no fun hh=>?_;have:y=[]:=by simpa using hc
   have:=(hh.2 y m2).1;simp_all
  have hy1:1≤y.length:=by
   have:y≠[]:=by simpa using hc
   exact List.length_pos_iff.2 this
  refine zF (fun hd=>?_) fun hd=>?_
  ·refine no fun hh=>?_;have:=(hh.2 y m2).2;simp only[zgH] at hd;omega
  have hy16:y.length≤16:=by simp only[zgF] at hd;omega
  have yes:zDs (L.take (i+1))→HG B Γ (vU.s2 Q k' s s (s.n:Int) (i:Int) false):=fun hp2=>by
   unfold vU.s2;refine s_f ?_;refine qJ ?_;refine hk' _ ⟨i+1,by simp,hil,hp2,fun k hk=>?_⟩ (by omega);rw[t2] at hk;rcases zgP.1 hk with hk|hk
   ·exact hks k hk
   ·rw[zgM.1 hk];exact⟨hy1,hy16⟩
  refine zF (fun he=>?_) fun he=>?_
  ·obtain⟨j,rfl⟩:∃j,i=j+1:=⟨i-1,by simp only[zgH] at he;omega⟩
   have g1:L[j]?=some L[j]:=zgG (by omega);have t1:L.take (j+1)=L.take j++[L[j]]:=zgJ (by omega);have hxy:=hpi j _ g1 (by omega);generalize L[j]=x at g1 t1 hxy;refine qJ ?_;refine u7 hr g1 ?_ (by omega);rw[qZ,zCM];by_cases hlt:x<y
   ·rw[zga hlt];refine yes ?_;rw[t2];refine zgf.2 ⟨hp,zhe _ _,fun a ha b hb=>?_⟩;rw[zgM.1 hb];rw[t1] at ha hp;rcases zgP.1 ha with ha|ha
    ·exact ziA ((zgf.1 hp).2.2 a ha x (by simp)) hlt
    ·rw[zgM.1 ha];exact hlt
   ·rw[zgU hlt];exact no fun hh=>hlt (hxy hh.1)
  ·have hi0:i=0:=by simp only[zgF] at he;omega
   subst hi0;refine yes ?_;rw[t2];simp
 ·have hil:i=L.length:=by simp only[zgF] at hb;omega
  rw[hil,zgQ] at hp hks;rw[zga (show zDs L∧∀k∈L,zLN k from⟨hp,hks⟩)] at h;exact h
theorem zaP{t:TxX}{x:OpX}{Q:Bool→K}(hr:∀w,Holds B Γ w→zAn w t)(hl:t.reads.length<10000000∧t.writes.length<10000000)(hx:∀w,Holds B Γ w→RdB w x.2 x.1.val)(h:HG B Γ (Q (uO t x.1))):HG B Γ (y8.call (txL t).toArray (opF x).toArray Q):=fun w hw=>by
 refine zP1 _ _ _ _ ?_;have hxl:x.2.n=x.1.val.length:=by have:=(hx w hw).len;simpa using this.symm
 refine Sep.hg hw ?_;clear hw w;unfold y8;refine zD fun t2=>?_;refine zD fun o3=>?_;have fin:HG B (blk o3 (.cells (opF x).toArray vg (0,0))::blk t2 (.cells (txL t).toArray zn (0,0))::Γ) (Q (zM2 t x.1)):=by rw[zVv];exact zA h
 generalize hR:zM2 t x.1=R at fin;unfold zM2 at hR;have hlen:decide ((x.2.n:Int)=0)=decide (x.1.val.length=0):=ziD.2 (by omega);have S2:∀w k:Bool,w=decide (x.1.key∈t.writes)→k=decide (x.1.key∈t.reads++t.writes)→¬(32<x.1.val.length∨(x.1.n≠0∧x.1.kind≠6))→HG B (blk o3 (.cells (opF x).toArray vg (0,0))::blk t2 (.cells (txL t).toArray zn (0,0))::Γ) (y8.s2 Q ⟨o3,0,none⟩ w k):=fun w k hw hk hn=>by
  rw[if_neg hn,←hw,←hk] at hR;unfold y8.s2
  repeat refine zT ?_
  refine zF (fun h2=>?_) fun h2=>?_
  ·rw[if_pos (by simpa using h2)] at hR;rw[hR];exact fin
  have h2':¬x.1.kind=2:=by simpa using h2
  rw[if_neg h2'] at hR;have S3t:x.1.kind=3∨x.1.kind=6→HG B (blk o3 (.cells (opF x).toArray vg (0,0))::blk t2 (.cells (txL t).toArray zn (0,0))::Γ) (y8.s3 Q ⟨o3,0,none⟩ w k x.1.kind true):=fun h36=>by
   rw[if_pos h36] at hR;unfold y8.s3 y8.s4;refine s_t ?_;refine zF (fun hb=>?_) fun hb=>?_
   ·rw[hb,zhH] at hR
    repeat refine zT ?_
    rw[hlen,hR];exact fin
   ·rw[hb,zhs] at hR;rw[hR];exact fin
  refine zF (fun h3=>?_) fun h3=>?_
  ·rw[show decide (x.1.kind=3)=true from h3];exact S3t (.inl (by simpa using h3))
  have h3':¬x.1.kind=3:=by simpa using h3
  by_cases h6:x.1.kind=6
  ·rw[zga h6];exact S3t (.inr h6)
  rw[zgU h6];rw[if_neg (by omega)] at hR;unfold y8.s3;refine s_f ?_;refine zF (fun h4=>?_) fun h4=>?_
  ·rw[if_pos (by simpa using h4)] at hR;rw[hR];exact fin
  have h4':¬x.1.kind=4:=by simpa using h4
  rw[if_neg h4'] at hR;have S5t:x.1.kind=1∨x.1.kind=5→HG B (blk o3 (.cells (opF x).toArray vg (0,0))::blk t2 (.cells (txL t).toArray zn (0,0))::Γ) (y8.s5 Q ⟨o3,0,none⟩ k x.1.kind true):=fun h15=>by
   rw[if_pos h15] at hR;unfold y8.s5 y8.s6;refine s_t ?_;refine zF (fun hb=>?_) fun hb=>?_
   ·rw[hb,zhH] at hR
    repeat refine zT ?_
    rw[hlen,hR];exact fin
   ·rw[hb,zhs] at hR;rw[hR];exact fin
  refine zF (fun h1=>?_) fun h1=>?_
  ·rw[show decide (x.1.kind=1)=true from h1];exact S5t (.inl (by simpa using h1))
  have h1':¬x.1.kind=1:=by simpa using h1
  by_cases h5:x.1.kind=5
  ·rw[zga h5];exact S5t (.inr h5)
  rw[zgU h5];rw[if_neg (by omega)] at hR;unfold y8.s5;refine s_f ?_;refine zF (fun h7=>?_) fun h7=>?_
  ·rw[if_pos (by simpa using h7)] at hR
   repeat refine zT ?_
   rw[qZ];rw[show(x.1.key==(⟨#[]⟩:ByteArray).toList)=R by rw[←hR];cases x.1.key <;> simp];exact fin
  ·rw[if_neg (by simpa using h7)] at hR;rw[hR];exact fin
 have S1:∀b,(b=true↔32<x.1.val.length∨(x.1.n≠0∧x.1.kind≠6))→HG B (blk o3 (.cells (opF x).toArray vg (0,0))::blk t2 (.cells (txL t).toArray zn (0,0))::Γ) (y8.s1 Q ⟨t2,0,none⟩ ⟨o3,0,none⟩ b):=fun b hb=>by
  unfold y8.s1;refine zF (fun hb1=>?_) fun hb1=>?_
  ·rw[if_pos (hb.1 hb1)] at hR;rw[hR];exact fin
  have hn:¬(32<x.1.val.length∨(x.1.n≠0∧x.1.kind≠6)):=fun h=>by rw[hb.2 h] at hb1;cases hb1
  repeat refine zT ?_
  refine zHg (by omega) (fun w hw=>(hr w hw.drops).2.1) ?_;by_cases hw1:x.1.key∈t.writes
  ·rw[zga hw1];refine s_t ?_;exact S2 true true (by simp[hw1]) (by simp[hw1]) hn
  rw[zgU hw1];refine s_f ?_
  repeat refine zT ?_
  refine zHg (by omega) (fun w hw=>(hr w hw.drops).1) ?_;exact S2 false _ (by simp[hw1]) (by simp[hw1]) hn
 repeat refine zT ?_
 refine zF (fun hb=>?_) fun hb=>?_
 ·exact S1 true (by
           have:32<x.1.val.length:=by simp only[zgH] at hb;omega
           simp[this])
 have h32:¬32<x.1.val.length:=by simp only[zgF] at hb;omega
 repeat refine zT ?_
 refine zF (fun hc=>?_) fun hc=>?_
 ·have hc':x.1.n≠0:=by simpa using hc
  repeat refine zT ?_
  exact S1 _ (by simp[h32,hc'])
 ·have hc':x.1.n=0:=by simpa using hc
  exact S1 _ (by simp[h32,hc'])
abbrev dfV(b:Nat):Value:=.func (.func 232) #[] #[.pointer (some ⟨b,0,none⟩)]
abbrev cfV(b:Nat):Value:=.func (.func 178) #[] #[.pointer (some ⟨b,0,none⟩)]
theorem zRf{t:TxX}{Q:Bool→K}(hr:∀w,Holds B Γ w→zAn w t)(hl:t.reads.length<10000000∧t.writes.length<10000000)(h:HG B Γ (Q (decide (zP4 t)))):HG B Γ (vT.call (txL t).toArray Q):=fun w hw=>by
 refine zKn _ _ _ ?_;obtain⟨n1,n2,n3⟩:=zGP (hr w hw);refine Sep.hg hw ?_;clear hw w;unfold vT;refine zD fun t1=>?_;have no:¬zP4 t→HG B (blk t1 (.cells (txL t).toArray zn (0,0))::Γ) (vT.s1 Q ⟨t1,0,none⟩ true):=fun hn=>by
  rw[zgU hn] at h;unfold vT.s1;exact s_t (zA h)
 repeat refine zT ?_
 refine zF (fun hb=>no fun hd=>by have:=hd.1;simp only[zgH] at hb;omega) fun hb=>?_;have hr8:t.reads.length≤8:=by simp only[zgF] at hb;omega
 repeat refine zT ?_
 refine zAw (by rw[wrap64 (by omega) (by omega)]) ?_;refine zF (fun hb2=>no fun hd=>by have:=hd.2.1;simp only[zgH] at hb2;omega) fun hb2=>?_;have hw8:t.writes.length≤8-t.reads.length:=by simp only[zgF] at hb2;omega
 repeat refine zT ?_
 refine zRe (by omega) (fun w hw=>(hr w hw.drops).1) ?_;by_cases hr1:zDs t.reads∧∀k∈t.reads,zLN k;rotate_left
 ·rw[zgU hr1];exact s_t (no fun hd=>hr1 hd.2.2.1)
 rw[zga hr1];refine s_f ?_
 repeat refine zT ?_
 refine zRe (by omega) (fun w hw=>(hr w hw.drops).2.1) ?_;by_cases hr2:zDs t.writes∧∀k∈t.writes,zLN k;rotate_left
 ·rw[zgU hr2];exact no fun hd=>hr2 hd.2.2.2.1
 rw[zga hr2];unfold vT.s1;refine s_f ?_
 repeat refine zT ?_
 have ok:decide (zP4 t) = !(t.reads.any fun k=>decide (k∈t.writes)):=by
  rw[ziH];simp only[zgH,zhT,List.any_eq_false];constructor
  ·exact fun hd=>fun k hk=>hd.2.2.2.2 k hk
  ·exact fun ha=>⟨hr8,hw8,hr1,hr2,fun k hk=>by simpa using ha k hk⟩
 rw[ok] at h;refine fun w hw=>zCd _ _ _ _ ?_;refine Sep.hg hw ?_;clear hw w;unfold x9;refine fun w hw=>zC6 _ _ _ _ ?_;refine Sep.hg hw ?_;clear hw w;show HG B _ (zIw Tryz.prog (zVd Value.string) t.rs (dfV t1) _);refine zIA (fun k=>decide (k∈t.writes)) n1 (by omega) (fun i x k hx hk=>u7 (fun w hw=>(hr w hw.drops).1) hx hk) (fun x q _ hq=>?_) ?_
 ·refine zEa ?_;refine fun w hw=>zJL _ _ _ _ ?_;refine Sep.hg hw ?_;clear hw w;unfold zDC
  repeat refine zT ?_
  refine zHg (by omega) (fun w hw=>(hr w hw.drops).2.1) ?_;exact hq
 ·rw[zHR,zPp];exact zA h
theorem zRg{t:TxX}{n:Int}{Q:Int→K}(hr:∀w,Holds B Γ w→zAn w t)(hl:t.reads.length<10000000∧t.writes.length<10000000∧t.ops.length<10000000)(h:HG B Γ (Q (if qC n t then 0 else 1))):HG B Γ (qy.call (txL t).toArray n Q):=fun w hw=>by
 refine zNu _ _ _ _ ?_;obtain⟨n1,n2,n3⟩:=zGP (hr w hw);refine Sep.hg hw ?_;clear hw w;unfold qy;refine zD fun t2=>?_;have S2:∀b,b=qC n t→HG B (blk t2 (.cells (txL t).toArray zn (0,0))::Γ) (qy.s2 Q b):=fun b hb=>by
  unfold qy.s2;rw[←hb] at h;refine zF (fun hc=>?_) fun hc=>?_
  ·have:b=false:=by simpa using hc
   rw[this] at h;exact zA h
  ·have:b=true:=by simpa using hc
   rw[this] at h;exact zA h
 have S1:∀b,(b=true↔¬zAt n t∧¬zGQ t)→HG B (blk t2 (.cells (txL t).toArray zn (0,0))::Γ) (qy.s1 Q n ⟨t2,0,none⟩ b):=fun b hb=>by
  have hR:qC n t=(b&&if t.kind=2 then decide (t.reads.length=0)&&(decide (t.ops.length=0)&&(decide (t.writes.length=1)&&(decide (0≤t.to)&&decide (t.to<n))))
    else if t.kind≠1∨t.to≠0∨16<t.ops.length then false else t.ops.all fun x=>uO t x.1):=by
   unfold qC;cases b with
   | true=>
    obtain⟨h1,h2⟩:=hb.1 rfl;rw[if_neg h1,if_neg h2,zhH]
   | false=>
    rw[zhs];by_cases h1:zAt n t
    ·rw[if_pos h1]
    ·rw[if_neg h1];by_cases h2:zGQ t
     ·rw[if_pos h2]
     ·exact absurd (hb.2 ⟨h1,h2⟩) (by simp)
  unfold qy.s1
  repeat refine zT ?_
  refine zF (fun hk1=>?_) fun hk1=>?_
  ·have hk1':t.kind=1:=by simpa using hk1
   rw[if_neg (by omega)] at hR;refine zF (fun hb1=>?_) fun hb1=>?_;rotate_left
   ·exact S2 _ (by rw[hR,hb1];rfl)
   rw[hb1,zhH] at hR
   repeat refine zT ?_
   refine zF (fun hto=>?_) fun hto=>?_;rotate_left
   ·have:t.to≠0:=by simpa using hto
    exact S2 _ (by rw[hR,if_pos (.inr (.inl this))])
   have hto':t.to=0:=by simpa using hto
   repeat refine zT ?_
   refine zF (fun ho=>?_) fun ho=>?_;rotate_left
   ·have:16<t.ops.length:=by simp only[zgF] at ho;omega
    exact S2 _ (by rw[hR,if_pos (.inr (.inr this))])
   have ho':¬16<t.ops.length:=by simp only[zgH] at ho;omega
   rw[if_neg (by rintro(g|g|g) <;> contradiction)] at hR
   repeat refine zT ?_
   refine fun w hw=>zCc _ _ _ _ ?_;refine Sep.hg hw ?_;clear hw w;unfold xw;refine fun w hw=>zC5 _ _ _ _ ?_;refine Sep.hg hw ?_;clear hw w;show HG B _ (zIw Tryz.prog (zaD 4) t.os (cfV t2) _);refine zIA (fun x=>!uO t x.1) n3 (by omega) (fun i x k hx hk=>zch zAs (by omega) (fun w hw=>(hr w hw.drops).2.2.1) hx hk) (fun x q hx hq=>?_) ?_
   ·refine zEa ?_;refine fun w hw=>zLd _ _ _ _ ?_;refine Sep.hg hw ?_;clear hw w;unfold zEs;refine zD fun o2=>?_
    repeat refine zT ?_
    refine zaP (fun w hw=>hr w hw.drops) ⟨by omega,by omega⟩ (fun w hw=>(hr w hw.drops).2.2.2 x hx) ?_;exact zA hq
   ·rw[zHR,zPp];refine S2 _ ?_;rw[hR,List.all_eq_not_any_not]
  have hk1':¬t.kind=1:=by simpa using hk1
  refine zF (fun hk2=>?_) fun hk2=>?_;rotate_left
  ·have hk2':¬t.kind=2:=by simpa using hk2
   rw[if_neg hk2',if_pos (.inl hk1'),Bool.and_false] at hR;exact S2 _ hR.symm
  have hk2':t.kind=2:=by simpa using hk2
  rw[if_pos hk2'] at hR;refine zF (fun hb1=>?_) fun hb1=>?_;rotate_left
  ·exact S2 _ (by rw[hR,hb1];rfl)
  rw[hb1,zhH] at hR
  repeat refine zT ?_
  refine zF (fun he=>?_) fun he=>?_;rotate_left
  ·refine S2 _ ?_;rw[hR,show decide (t.reads.length=0)=false from zgU (by simp only[zgF] at he;omega)];rfl
  rw[show decide (t.reads.length=0)=true from zga (by simp only[zgH] at he;omega),zhH] at hR
  repeat refine zT ?_
  refine zF (fun he2=>?_) fun he2=>?_;rotate_left
  ·refine S2 _ ?_;rw[hR,show decide (t.ops.length=0)=false from zgU (by simp only[zgF] at he2;omega)];rfl
  rw[show decide (t.ops.length=0)=true from zga (by simp only[zgH] at he2;omega),zhH] at hR
  repeat refine zT ?_
  refine zF (fun he3=>?_) fun he3=>?_;rotate_left
  ·refine S2 _ ?_;rw[hR,show decide (t.writes.length=1)=false from zgU (by simp only[zgF] at he3;omega)];rfl
  rw[show decide (t.writes.length=1)=true from zga (by simp only[zgH] at he3;omega),zhH] at hR
  repeat refine zT ?_
  refine zF (fun he4=>?_) fun he4=>?_;rotate_left
  ·refine S2 _ ?_;rw[hR,he4];rfl
  rw[he4,zhH] at hR
  repeat refine zT ?_
  exact S2 _ hR.symm
 refine zF (fun hb=>?_) fun hb=>?_;rotate_left
 ·have:n<1:=by simp only[zgF] at hb;omega
  exact S1 _ (by simp[zAt,this])
 have hn1:1≤n:=by simpa using hb
 refine zF (fun hb=>?_) fun hb=>?_;rotate_left
 ·have:3<n:=by simp only[zgF] at hb;omega
  exact S1 _ (by simp[zAt,this])
 have hn3:n≤3:=by simpa using hb
 repeat refine zT ?_
 refine zRf (fun w hw=>hr w hw.drops) ⟨by omega,by omega⟩ ?_;exact S1 _ (by rw[zgH];exact zYK hn1 hn3)
end
end
section
open Go Go.Sep Go.Sep.Bt
structure MkX where
 key:TX
 home:Int
 cnt:Int
deriving DecidableEq
abbrev mkL(m:MkX):List Value:=[qE m.key,.int .i64 m.home,.int .u64 m.cnt]
theorem jB(m:MkX):(mkL m).length=3:=rfl
theorem zRh(L:List MkX):∀v∈L.flatMap mkL,qD v=true:=fun v hv=>by
 obtain⟨x,_,hx⟩:=zhS.1 hv;simp only[mkL,zgS,zhg,or_false] at hx;rcases hx with rfl|rfl|rfl <;> rfl
abbrev zfn(n:Nat)(M:zo)(k:TX):MkX:=⟨k,(yt n M (bs k)).home,(yt n M (bs k)).cnt⟩
def zBB(n:Nat)(M:zo)(ks:List TX):List MkX:=ks.map (zfn n M)
abbrev tgL(a b c d:Int):List Value:=[.int .i64 a,.int .u64 b,.int .u64 c,.int .i64 d]
abbrev orL(a b c d:Int)(t:TxX)(ms:Sl):List Value:=[.int .i64 a,.int .u64 b,.int .u64 c,.int .i64 d,.int .i64 t.kind,t.rs.val,t.ws.val,t.os.val,.int .i64 t.to,ms.val]
theorem zYL{t:TxX}(h:¬zHb t):t.reads.length≤40∧t.writes.length≤40∧t.ops.length≤60∧(∀x∈t.reads++t.writes,x.length≤200)∧∀x∈t.ops,x.1.key.length≤200∧x.1.val.length≤200:=by
 simp only[zHb,not_or,Nat.not_lt,not_exists,not_and] at h;obtain⟨h1,h2,h3,h4,h5,h6⟩:=h;refine⟨h1,h2,h3,fun x hx=>?_,fun x hx=>⟨(h6 x hx).1,(h6 x hx).2⟩⟩;rcases zgP.1 hx with hx|hx
 ·exact h4 x hx
 ·exact h5 x hx
section
variable{B:World}{Γ Δ:List zB}{k:K}{st sd n:Nat}{M:zo}
theorem zYM{E esz:Nat}{vs:List Value}(h:HG B (SlC E esz ⟨none,0,0⟩ vs::Γ) k)(hv:vs=[]:=by rfl):HG B Γ k:=fun w hw=>h w (by rw[hv];exact hw.ji E esz)
theorem zYN{t:TxX}{Q:Sl→K}(hr:∀w,Holds B Γ w→zAn w t)(hl:t.reads.length≤1000∧t.writes.length≤1000)(hk:∀x∈t.reads++t.writes,x.length≤1000)
  (h:∀s,HG B (SlC zi 3 s ((zBB n M (vX (t.reads++t.writes))).flatMap mkL)::yM st n M::Γ) (Q s)):HG B (yM st n M::Γ) (zA7.call (some ⟨st,0,none⟩) (txL t).toArray Q):=fun w hw=>by
 refine zMW _ _ _ _ ?_;refine Sep.hg hw ?_;clear hw w;have hks:∀x∈vX (t.reads++t.writes),x.length≤1000:=fun x hx=>hk x (zDW.1 hx);have hkl:=zDX (t.reads++t.writes);rw[zgK] at hkl;unfold zA7;refine zD fun t3=>?_
 repeat refine zT ?_
 refine zP3 (fun w hw=>(hr w hw.drops).1) (fun w hw=>(hr w hw.drops).2.1) (by omega) (by omega) fun ks=>?_;generalize vX (t.reads++t.writes)=K at hks hkl h ⊢;refine zYM (E:=zi) (esz:=3) (vs:=([]:List MkX).flatMap mkL) ?_;refine yw ks fun a1 a2 a3 a4=>?_;rw[zgL,zgs] at a1;refine zA (Δ:=SlC zi 3 ⟨none,0,0⟩ (([]:List MkX).flatMap mkL)::SlS ks K::yM st n M::Γ) ?_;refine qH (α:=Sl×Int) (ι:=Nat) (fun x i=>x.2=(i:Int)∧i≤K.length) (fun x i=>SlC zi 3 x.1 ((zBB n M (K.take i)).flatMap mkL)::SlS ks K::yM st n M::Γ) (fun x i=>K.length-i) 0 ⟨rfl,zgW _⟩ ?_;rintro k' ⟨o,_⟩ i ⟨rfl,hi⟩ hk';simp only at hi hk' ⊢;refine yw o fun b1 b2 b3 b4=>?_;rw[zH _ 3 jB,zBB,zgL,zgR] at b1;unfold zA7.b1;refine zF (fun hb=>?_) fun hb=>?_
 ·have hil:i<K.length:=by simp only[zgH] at hb;omega
  have hge:K[i]?=some K[i]:=zgG hil;have hmem:K[i]∈K:=zgX hil;have htk:K.take (i+1)=K.take i++[K[i]]:=zgJ hil;generalize K[i]=x at hge hmem htk;have hxl:=hks x hmem;have hsz:(bs x).size=x.length:=rfl;refine u7 (L:=K) (fun w hw=>(zO (s:=ks) hw).1) hge ?_;refine yN st ?_;refine zBi (by omega) fun sl hok=>?_;refine zD fun r7=>?_;refine yX (b:=r7) (l':=zDn (yt n M (bs x)) sl) ?_
  repeat refine zT ?_
  refine zDI (s:=o) (m:=1) (us:=[.string (bs x),.int .i64 (yt n M (bs x)).home,.int .u64 (yt n M (bs x)).cnt]) (fun o2 ho2=>?_);refine qJ ?_;rw[show(zBB n M (K.take i)).flatMap mkL++[.string (bs x),.int .i64 (yt n M (bs x)).home,.int .u64 (yt n M (bs x)).cnt]=(zBB n M (K.take (i+1))).flatMap mkL by rw[htk];simp[zBB]];exact zA (hk' (o2,(i:Int)+1) (i+1) ⟨by simp,hil⟩ (by omega))
 ·have hil:i=K.length:=by simp only[zgF] at hb;omega
  rw[hil,zgQ];exact zA (h o)
theorem zUi{t:TxX}{a b c d:Int}{Q:Array Value→K}(hr:∀w,Holds B Γ w→zAn w t)(hl:t.reads.length≤1000∧t.writes.length≤1000∧t.ops.length≤1000∧∀x∈t.ops,x.1.val.length≤1000000)(hk:∀x∈t.reads++t.writes,x.length≤1000)
  (h:∀t' ms,zKC t' t→HG B (SlC zi 3 ms ((zBB n M (vX (t.reads++t.writes))).flatMap mkL)::yM st n M::txC t' Γ) (Q (orL a b c d t' ms).toArray)) :
  HG B (yM st n M::Γ) (zEC.call (some ⟨st,0,none⟩) (tgL a b c d).toArray (txL t).toArray Q):=fun w hw=>by
 refine zNk _ _ _ _ _ ?_;refine Sep.hg hw ?_;clear hw w;unfold zEC;refine zD fun tag4=>?_;refine zD fun t5=>?_;refine zD fun t6=>?_
 repeat refine zT ?_
 refine zL7 (t:=t) (fun w hw=>hr w hw.drops) hl fun t' ht'=>?_
 repeat refine zT ?_
 refine yN st ?_;refine zYN (t:=t) (fun w hw=>hr w hw.drops) ⟨hl.1,hl.2.1⟩ hk fun ms=>?_
 repeat refine zT ?_
 exact zA (h t' ms ht')
end
end
end Go.Proofs.YtlelhlcjaapkoaaGreat
