/- Texts of the claim DurableLives, one behind the other. -/
import Derived.Test.YtgmbfnboiobeaaaGreatDurableLivesM2
import Derived.Laws.StructEq
set_option linter.all false
set_option maxRecDepth 100000
namespace Go.Proofs.YtgmbfnboiobeaaaGreat
section
open Go Go.Sep
section
variable {B w:World} {Γ:List zC} {l d:Nat} {W:qc} {s:Sl} {rs:zER} {D:zD}
theorem zEs {name:List UInt8} {size:Int} {k:Option Addr→Int→K} (hn:1 ≤ name.length∧name.length ≤ 8) (hsz:16 ≤ size∧size ≤ 65536) (hD:OkD D) (h:Holds B (zJ d D::Γ) w)
  (hok:((vR name size).load D).2.2 = 0→∀ l w,OkD ((vR name size).load D).1→Holds B (xG l d ((vR name size).load D).2.1::zJ d ((vR name size).load D).1::Γ) w→k (some ⟨l,0,none⟩) 0 w)
  (herr:((vR name size).load D).2.2 ≠ 0→∀ w,OkD ((vR name size).load D).1→Holds B (zJ d ((vR name size).load D).1::Γ) w→k none ((vR name size).load D).2.2 w):xO.call (some ⟨d,0,none⟩) (bs name) size k w:=by
 refine zGw _ _ _ _ _ ?_
 unfold xO
 have hsz':((bs name).size:Int) = name.length:=by simp [bs,ByteArray.size]
 refine zk ?_ ?_
 ·rw [uq]
  have e0:(⟨#[]⟩:ByteArray).toList = []:=uq []
  rw [e0]
  have:name ≠ []:=fun e=>by rw [e] at hn; simp at hn
  simpa using this
 refine zk (by simp only [decide_eq_false_iff_not]; omega) ?_
 refine zk (by simp only [decide_eq_false_iff_not]; omega) ?_
 unfold xO.s1
 refine zk (by simp only [decide_eq_false_iff_not]; omega) ?_
 refine vX h ?_
 clear h
 intro l w h
 try simp only [yB,Nat.zero_add,Nat.reduceAdd]
 replace h:=(h.zAD).zAJ zR 1
 replace h:=P3 h
 replace h:=P2 h
 replace h:=P2 h
 replace h:=P3 h
 try simp only [N1,N2,N3,N4,N5,N6,N7] at h
 have h2:=xG.shuts (W:=vR name size) (rs:=[]) rfl h
 refine zEr hD hn.2 rfl h2 fun w hD' h=>?_
 refine yc (fun hq=>?_) (fun hq=>?_)
 ·exact herr (by simpa using hq) w hD' h.tail
 ·exact hok (by simpa using hq) l w hD' h
theorem zKR.opens {recs:List (List UInt8)} (h:Holds B (zKR s recs::Γ) w):∃ rs:zER,rs.map Prod.snd = recs∧Holds B (SlC zR 1 s (rs.map vW)::stars (rs.map vk)::Γ) w:=by
 obtain ⟨rs,h⟩:=Holds.ex.1 h
 obtain ⟨h1,h2⟩:=Holds.pur.1 (Holds.flat.1 h)
 exact ⟨rs,h1,h2⟩
def one:List UInt8:=[111,110,101]
def two:List UInt8:=[116,119,111]
end
end
end Go.Proofs.YtgmbfnboiobeaaaGreat
namespace Go.Sep
section
open Go Go.RowKit
abbrev zMX (r:Loop):Loop:={ r with state:=.busy }
abbrev zOd (r:Loop) (J:Exit):Loop:={ r with state:=.done,pending:=some (zGn J) }
abbrev zPp (r:Loop):Prop:=r.state = .ready∧r.pending = none
def Aft (B:World) (l:Nat) (r:Loop) (J:Exit) (a j:K):K:=fun w=>(∃ Δ,Holds B (blk l (.loop r)::Δ) w∧HG B Δ a)∨(∃ Δ,Holds B (blk l (.loop (zOd r J))::Δ) w∧HG B Δ j)
section
variable {P:Program} {B:World} {Γ Δ:List zC} {l:Nat} {r:Loop} {J:Exit} {k a j:K}
theorem zNX (h:HG B Δ a) [p:Own l Γ (blk l (.loop r)) Δ]:HG B Γ (Aft B l r J a j):=fun w hw=>.inl ⟨Δ,hw.perm p.perm,h⟩
theorem zLl {D:Nat} (h:HG B Δ k) [p:Own D Γ (blk D (.deferred (some []))) Δ]:HG B Γ (vT D k):=fun w hw=>
 zFg (hw.perm p.perm) fun w hw=>h w hw
theorem zKX {α:Type} {g:FuncId} {cs:List Value} {cX:α→List Value} {body:(K→K)→K→K→α→K} {after afterJ:Nat→K} (hc:callable P g = true)
  (h:∀ D l r,zPp r→(∀ (x:α) (kN kJ:K) (Δ:List zC),HG B (blk l (.loop r)::Δ) (body (zHV l r) (zHS l (zMX r) kN) (zJz l (zMX r) J kJ) x)→HG B (blk l (.loop r)::Δ) (vS P (yv l) (cX x) (YN kN kJ))) →
   HG B (blk l (.loop r)::blk D (.deferred (some []))::Γ) (zY P g (yv l::cs).toArray fun _=>Aft B l r J (after D) (afterJ D))) :
  HG B Γ (vI P (.func (.func g) #[] cs.toArray) J cX body after afterJ):=fun w hw=>by
 refine ⟨g,cs.toArray,rfl,hc,fun r w1 h1 h2 h3 hw1 hy=>?_⟩
 have h4:=hw.alloc (.deferred (some []))
 have h5:=h4.alloc (.loop r)
 have e:({ w with heap:=w.heap.push (.deferred (some [])) }:World).heap.size = w.heap.size + 1:=by simp
 rw [e] at h5
 subst hw1
 have h6:=h w.heap.size (w.heap.size + 1) r ⟨h1,h2⟩ (fun x kN kJ Δ hb w hw=>⟨_,rfl,hy x kN kJ w hw.block (hb w hw)⟩) _ h5
 refine (show Calls P g (yv (w.heap.size + 1)::cs).toArray _ (Ret _) from h6).mono fun e w3 he=>?_
 cases e with
 | returned v=>
  rcases he with ⟨Δ,h7,h8⟩ | ⟨Δ,h7,h8⟩
  ·exact .inl ⟨h7.block,h8 _ (vC (o':=.loop { r with state:=.exhausted }) h7).tail⟩
  ·exact .inr ⟨h7.block,h8 _ (vC (o':=.loop { r with state:=.exhausted,pending:=some (zGn J) }) h7).tail⟩
 | panicked c=>exact he.elim
 | outgrown=>exact he.elim
end
end
end Go.Sep
namespace Go.Proofs.YtgmbfnboiobeaaaGreat
section
open Go Go.Sep
set_option maxHeartbeats 4000000
attribute [local irreducible] G Gp Cx Tx Ex Sx Dx Ox Ax Lx Rx Fx Bx Bj Al Do Ld LdN St StN New zY Ar DoU Rd Rd2 Pu Cd Ite Fv u6 vS vP yt vD zAE zAo zBK Ext Dead Dr qx Sv LdS jw RdS zBZ Nn Idx zBa zBb Fld Bld Slc zBc Cat All yY vE vI vT
instance:CB Tryz.prog 102:=⟨by kernel_rfl⟩
instance:CB Tryz.prog 25:=⟨by kernel_rfl⟩
instance:CB Tryz.prog 26:=⟨by kernel_rfl⟩
instance:CB Tryz.prog 27:=⟨by kernel_rfl⟩
instance:CB Tryz.prog 28:=⟨by kernel_rfl⟩
instance:CB Tryz.prog 31:=⟨by kernel_rfl⟩
instance:CB Tryz.prog 32:=⟨by kernel_rfl⟩
instance:CB Tryz.prog 33:=⟨by kernel_rfl⟩
instance:CB Tryz.prog 35:=⟨by kernel_rfl⟩
instance:CB Tryz.prog 36:=⟨by kernel_rfl⟩
instance:CB Tryz.prog 57:=⟨by kernel_rfl⟩
instance:CB Tryz.prog 59:=⟨by kernel_rfl⟩
instance:CB Tryz.prog 60:=⟨by kernel_rfl⟩
instance:CB Tryz.prog 61:=⟨by kernel_rfl⟩
instance:CB Tryz.prog 62:=⟨by kernel_rfl⟩
instance:CB Tryz.prog 63:=⟨by kernel_rfl⟩
instance:CB Tryz.prog 64:=⟨by kernel_rfl⟩
instance:CB Tryz.prog 68:=⟨by kernel_rfl⟩
instance:CB Tryz.prog 92:=⟨by kernel_rfl⟩
instance:CB Tryz.prog 93:=⟨by kernel_rfl⟩
instance:CT Tryz.prog 66:=⟨by kernel_rfl⟩
instance:CT Tryz.prog 79:=⟨by kernel_rfl⟩
instance:CT Tryz.prog 80:=⟨by kernel_rfl⟩
instance:FT Tryz.prog 127 2 2 1:=⟨by kernel_rfl⟩
instance:FT Tryz.prog 68 0 0 1:=⟨by kernel_rfl⟩
instance:FT Tryz.prog 68 1 1 1:=⟨by kernel_rfl⟩
instance:FT Tryz.prog 68 2 2 1:=⟨by kernel_rfl⟩
instance:FT Tryz.prog 68 3 3 1:=⟨by kernel_rfl⟩
instance:FT Tryz.prog 82 0 0 1:=⟨by kernel_rfl⟩
instance:FT Tryz.prog 82 1 1 1:=⟨by kernel_rfl⟩
instance:PLT Tryz.prog 127 [(0,1),(1,1),(2,1)]:=⟨_,Tryz.underlying127,by kernel_rfl⟩
instance:PLT Tryz.prog 68 [(0,1),(1,1),(2,1),(3,1)]:=⟨_,Tryz.underlying68,by kernel_rfl⟩
instance:PLT Tryz.prog 82 [(0,1),(1,1)]:=⟨_,Tryz.underlying82,by kernel_rfl⟩
instance:UN Tryz.prog 78 (.pointer 82):=⟨Tryz.underlying78⟩
instance:ZT Tryz.prog 68 (.agg #[(.pointer none),(.int .u64 0),(.bool false),(.map none)]):=⟨Tryz.t68,by kernel_rfl,by kernel_rfl⟩
instance:ZT Tryz.prog 82 (.agg #[(.pointer none),(.pointer none)]):=⟨Tryz.t82,by kernel_rfl,by kernel_rfl⟩
def ql (c:Pt) (Q:Int→K): K :=
 yw.call 0 true fun a=>
 yx.call c ⟨#[108,105,102,101]⟩ a fun b=>
 Q b
theorem zCQ (a Q w) (h:ql a Q w):ql.call a Q w:=by
 exact zn 6 h Tryz.func8
def zu.s2 (Q:Pt→Int→K) (b:Int→K) (f:Pt) (g:Sl) (i:Int) (j:(Option Nat)) (k:Sl) (l c:Int) (d:Bool): K :=
 Ite d
  (Q none 1)
  (Ar (IntKind.wrap .i64 (c + 1)) fun a=>
  b a)
def zu.b3 (Q:Pt→Int→K) (l i:Int→K) (c:Addr) (j:Sl) (k a:Int): K :=
 Ite (decide (a < k))
  (Idx j a 1 fun d=>
  Ld d (Value.int .i64) fun f=>
  yP.call (some c) f fun b=>
  Ite (decide (b ≠ 0))
   (Q none b)
   (Ar (IntKind.wrap .i64 (a + 1)) fun g=>
   i g))
  (Q (some c) 0)
def zu.b1 (Q:Pt→Int→K) (f:Int→K) (g:Pt) (a:Sl) (i:Int) (b:(Option Nat)) (j:Sl) (k c:Int): K :=
 Ite (decide (c < k))
  (Idx j c 1 fun o=>
  Ld o (Value.int .i64) fun d=>
  Rd Tryz.prog (Instr.lookup 65 (.map b) (.int .i64 d) false) (Value.int .i64) fun p=>
  Ar (IntKind.wrap .i64 (p + 1)) fun q=>
  DoU Tryz.prog (Instr.mapUpdate 65 (.map b) (.int .i64 d) (.int .i64 q))<|
  Ite (decide (d < 0))
   (zu.s2 Q f g a i b j k c true)
   (Ite (decide ((3:Int) < d))
    (zu.s2 Q f g a i b j k c true)
    (Rd Tryz.prog (Instr.lookup 65 (.map b) (.int .i64 d) false) (Value.int .i64) fun r=>
    Ite (decide ((1:Int) < r))
     (zu.s2 Q f g a i b j k c true)
     (zu.s2 Q f g a i b j k c (decide ((2:Int) < (a.n:Int)))))))
  (Do Tryz.prog (Instr.makeMap 66 none) Value.map fun s=>
  New 68 #[.pointer g,.int .u64 0,.bool false,.map s] fun l=>
  zT.call (some l) i fun m=>
  Ite (decide (m ≠ 0))
   (Q none m)
   (yY (α:=Int) (fun X x=>zu.b3 Q f X l a (a.n:Int) x) 0))
def zu (c:Pt) (a:Sl) (d:Int) (Q:Pt→Int→K): K :=
 Do Tryz.prog (Instr.makeMap 65 none) Value.map fun b=>
 yY (α:=Int) (fun X x=>zu.b1 Q X c a d b a (a.n:Int) x) 0
theorem zDb (k l m Q w) (h:zu k l m Q w):zu.call k l m Q w:=by
 have:∀ a,XH 3 a→JH 7 fun D=>∃ b c d f g i j,D [(0,.pointer b),(1,Sl.val c),(2,.int .u64 d),(8,.map f),(17,Sl.val g),(18,.int .i64 i),(19,.int .i64 j)] (fun C=>∀ n,C [(0,.pointer b),(1,Sl.val c),(2,.int .u64 d),(8,.map f),(17,Sl.val g),(18,.int .i64 i),(19,.int .i64 j),(43,.bool n)] (zu.s2 Q a b c d f g i j n)):=by intros; exact ⟨fun _ ⟨_,_,_,_,_,_,_,h⟩=>⟨_,_,h⟩⟩
 have:∀ a,XH 3 a→∀ o p q,LH 14 (fun x:Int=>[(11,(.pointer (some o))),(55,Sl.val p),(56,.int .i64 q),(57,.int .i64 x)]) (fun X x=>zu.b3 Q a X o p q x):=by intros; exact ⟨⟩
 have:∀ r s t u v y,LH 3 (fun x:Int=>[(0,.pointer r),(1,Sl.val s),(2,.int .u64 t),(8,.map u),(17,Sl.val v),(18,.int .i64 y),(19,.int .i64 x)]) (fun X x=>zu.b1 Q X r s t u v y x):=fun _ _ _ _ _ _=>⟨⟩
 exact zn 69 h Tryz.func9
def zN.s2 (Q:Sl→Bool→Int→K) (f g:Int) (i:Pt): K :=
 Nn i fun a=>
 Ld (a.add 1) Value.pointer fun b=>
 yK.call b f g fun c d=>
 Q c d 0
def zN.s1 (Q:Sl→Bool→Int→K) (b f:Int) (j:Pt) (k:Bool): K :=
 Ite k
  (Q (Sl.mk none 0 0) false 0)
  (Nn j fun a=>
  Ld (a.add 1) Value.pointer fun g=>
  yG.call g fun i=>
  Ite (decide (i < b))
   (New 85 #[Sl.val ⟨none,0,0⟩] fun c=>
   qz.call (some c) 1<|
   yj.call (some c) b<|
   qZ.call (some a) (some c) fun d=>
   Ite (decide (d ≠ 0))
    (Q (Sl.mk none 0 0) false d)
    (zN.s2 Q b f (some a)))
   (zN.s2 Q b f (some a)))
def zN (l:Pt) (m b c:Int) (Q:Sl→Bool→Int→K): K :=
 Nn l fun d=>
 Ld (d.add 3) Value.map fun g=>
 Rd Tryz.prog (Instr.lookup 66 (.map g) (.int .i64 m) false) Value.pointer fun a=>
 Ld (d.add 2) Value.bool fun i=>
 Ite (!i)
  (zN.s1 Q b c a true)
  (Ite ((a).isNone)
   (zN.s1 Q b c a true)
   (Nn a fun f=>
   Ld (f.add 1) Value.pointer fun j=>
   yG.call j fun k=>
   zN.s1 Q b c (some f) (decide (b < k))))
theorem jk (i j k l Q w) (h:zN i j k l Q w):zN.call i j k l Q w:=by
 have:JH 11 fun D=>∃ a b c,D [(2,.int .u64 a),(3,.int .i64 b),(11,.pointer c)] (fun C=>C [(2,.int .u64 a),(3,.int .i64 b),(11,.pointer c)] (zN.s2 Q a b c)):=⟨fun _ ⟨_,_,_,h⟩=>⟨_,_,h⟩⟩
 have:JH 3 fun D=>∃ d f g,D [(2,.int .u64 d),(3,.int .i64 f),(11,.pointer g)] (fun C=>∀ m,C [(2,.int .u64 d),(3,.int .i64 f),(11,.pointer g),(39,.bool m)] (zN.s1 Q d f g m)):=⟨fun _ ⟨_,_,_,h⟩=>⟨_,_,h⟩⟩
 exact zn 72 h Tryz.func14
def yS (c:Pt) (Q:Int→K): K :=
 Nn c fun a=>
 Ld (a.add 1) (Value.int .u64) fun b=>
 Q b
theorem zAP (a Q w) (h:yS a Q w):yS.call a Q w:=by
 exact zn 7 h Tryz.func15
def yg (c:Pt) (Q:Bool→K): K :=
 Nn c fun a=>
 Ld (a.add 2) Value.bool fun b=>
 Q b
theorem zAQ (a Q w) (h:yg a Q w):yg.call a Q w:=by
 exact zn 7 h Tryz.func16
def yw.s1 (Q:Sl→K) (b:Addr): K :=
 qQ.call (some b) fun a=>
 Q a
def yw (b:Int) (c:Bool) (Q:Sl→K): K :=
 New 85 #[Sl.val ⟨none,0,0⟩] fun a=>
 yj.call (some a) b<|
 Ite c
  (qz.call (some a) 1<|
  yw.s1 Q a)
  (qz.call (some a) 0<|
  yw.s1 Q a)
theorem zDc (b c Q w) (h:yw b c Q w):yw.call b c Q w:=by
 have:JH 6 fun D=>∃ a,D [(5,(.pointer (some a)))] (fun C=>C [(5,(.pointer (some a)))] (yw.s1 Q a)):=⟨fun _ ⟨_,h⟩=>⟨_,_,h⟩⟩
 exact zn 18 h Tryz.func26
def zT.s2 (Q:Int→K) (a:Addr) (b k:Int) (l:Bool): K :=
 Ite l
  (Q 61)
  (Ite (decide (b = 18446744073709551615))
   (Q 111)
   (Ar (IntKind.wrap .u64 (b + 1)) fun c=>
   St (a.add 1) (.int .u64 c)<|
   St (a.add 2) (.bool (decide (k = 1)))<|
   Dr <| qx fun S=>
   LdS S a Value.pointer fun d=>
   LdS S (a.add 1) (Value.int .u64) fun f=>
   LdS S (a.add 2) Value.bool fun g=>
   yw.call f g fun i=>
   Sv S<|
   yx.call d ⟨#[108,105,102,101]⟩ i fun j=>
   Q j))
def zT.s1 (Q:Int→K) (c:Addr) (g:Int) (l:Sl): K :=
 vK.call l fun d=>
 ze.call d fun f i=>
 xS.call d fun a j=>
 Ar (if (g:Int) > f then g else f) fun b=>
 Ite (decide (i ≠ 0))
  (zT.s2 Q c b a true)
  (Ite (decide (j ≠ 0))
   (zT.s2 Q c b a true)
   (Ite (decide ((1:Int) < a))
    (zT.s2 Q c b a true)
    (xM.call d fun k=>
    zT.s2 Q c b a (decide (k ≠ 0)))))
def zT (i:Pt) (c:Int) (Q:Int→K): K :=
 Nn i fun a=>
 Ld a Value.pointer fun d=>
 uG.call d ⟨#[108,105,102,101]⟩ fun f b=>
 Ite (decide (b = 60))
  (yw.call 0 false fun g=>
  zT.s1 Q a c g)
  (Ite (decide (b ≠ 0))
   (Q b)
   (zT.s1 Q a c f))
theorem zAR (i j Q w) (h:zT i j Q w):zT.call i j Q w:=by
 have:DH 15 2 [13] (.s [0,1,2,4,5,6,8,9,10,3,7,11] (.a [(12,1,.a [(13,0,.s [14] .e)])])):=⟨⟩
 have:JH 11 fun D=>∃ b c d,D [(0,(.pointer (some b))),(8,.int .u64 c),(9,.int .u8 d)] (fun C=>∀ k,C [(0,(.pointer (some b))),(8,.int .u64 c),(9,.int .u8 d),(42,.bool k)] (zT.s2 Q b c d k)):=⟨fun _ ⟨_,_,_,h⟩=>⟨_,_,h⟩⟩
 have:JH 6 fun D=>∃ f g,D [(0,(.pointer (some f))),(1,.int .u64 g)] (fun C=>∀ l,C [(0,(.pointer (some f))),(1,.int .u64 g),(5,Sl.val l)] (zT.s1 Q f g l)):=⟨fun _ ⟨_,_,h⟩=>⟨_,_,h⟩⟩
 exact zn 85 h Tryz.func27
def yP.b1 (Q k:Int→K) (l:Addr) (m:Int) (b:Addr) (n:Sl) (o a:Int): K :=
 Ite (decide (a < o))
  (Idx n a 1 fun c=>
  Ld c Sl.val fun d=>
  Ld (b.add 1) Value.pointer fun f=>
  zX.call f d fun g=>
  Ite (!g)
   (Q 31)
   (Ar (IntKind.wrap .i64 (a + 1)) fun i=>
   k i))
  (Ld (l.add 3) Value.map fun j=>
  DoU Tryz.prog (Instr.mapUpdate 66 (.map j) (.int .i64 m) (.pointer (some b)))<|
  Q 0)
def yP (p:Pt) (f:Int) (Q:Int→K): K :=
 Nn p fun a=>
 Ld a Value.pointer fun g=>
 Ar (IntKind.wrap .i64 (48 + f)) fun i=>
 Ar (IntKind.wrap .i32 i) fun j=>
 Rd Tryz.prog (convert 21 9 (.int .i32 j)) Value.string fun k=>
 Cat (⟨#[103]⟩:ByteArray) k fun l=>
 xO.call g l 40960 fun b c=>
 Ite (decide (c ≠ 0))
  (Q c)
  (qo.call  fun m=>
  New 82 #[.pointer b,.pointer m] fun o=>
  y9.call b fun d=>
  yY (α:=Int) (fun X x=>yP.b1 Q X a f o d (d.n:Int) x) 0)
theorem zAa (a b Q w) (h:yP a b Q w):yP.call a b Q w:=by
 have:∀ c d f g i,LH 6 (fun x:Int=>[(0,(.pointer (some c))),(1,.int .i64 d),(7,(.pointer (some f))),(31,Sl.val g),(32,.int .i64 i),(33,.int .i64 x)]) (fun X x=>yP.b1 Q X c d f g i x):=fun _ _ _ _ _=>⟨⟩
 exact zn 51 h Tryz.func28
def qZ (i j:Pt) (Q:Int→K): K :=
 Dr <| qx fun S=>
 Nn i fun a=>
 LdS S a Value.pointer fun c=>
 qQ.call j fun d=>
 Sv S<|
 zx.call c d fun b=>
 Ite (decide (b ≠ 0))
  (Q b)
  (Ld a Value.pointer fun f=>
  xq.call f fun g=>
  Q g)
theorem zAh (b c Q w) (h:qZ b c Q w):qZ.call b c Q w:=by
 have:DH 1 2 [6] (.s [0,1,2,4,3] (.a [(5,1,.a [(6,0,.s [7] .e)])])):=⟨⟩
 exact zn 21 h Tryz.func35
def zX.s1 (Q:Bool→K) (a:Bool): K :=
 Q a
def zX.s2 (Q:Bool→K) (b:Pt) (c:Int) (d:Bool): K :=
 Ite d
  (yK.call b c 0 fun f a=>
  zX.s1 Q a)
  (zX.s1 Q false)
def zX.s3 (Q:Bool→K) (d:Pt) (f g:Int) (i:Sl) (j:Bool): K :=
 Ite j
  (Ar (IntKind.wrap .i64 f) fun a=>
  Rd Tryz.prog (convert 22 9 (Sl.val i)) Value.string fun b=>
  yZ.call d #[.int .i64 a,.int .u64 g,.string b] fun c=>
  zX.s1 Q c)
  (zX.s1 Q false)
def zX (b:Pt) (p:Sl) (Q:Bool→K): K :=
 vK.call p fun a=>
 xS.call a fun g q=>
 Ite (decide (g = 1))
  (ze.call a fun i j=>
  Ite (decide (j = 0))
   (xM.call a fun k=>
   zX.s2 Q b i (decide (k = 0)))
   (zX.s2 Q b i false))
  (Ite (decide (g = 2))
   (ze.call a fun c l=>
   ze.call a fun d m=>
   q8.call a fun f n=>
   Ite (decide (l = 0))
    (Ite (decide (m = 0))
     (Ite (decide (n = 0))
      (xM.call a fun o=>
      Ite (decide (o = 0))
       (zX.s3 Q b c d f (decide (c < 64)))
       (zX.s3 Q b c d f false))
      (zX.s3 Q b c d f false))
     (zX.s3 Q b c d f false))
    (zX.s3 Q b c d f false))
   (zX.s1 Q false))
theorem zCR (i j Q w) (h:zX i j Q w):zX.call i j Q w:=by
 have:JH 15 fun D=>D [] (fun C=>∀ k,C [(8,.bool k)] (zX.s1 Q k)):=⟨fun _ h=>⟨_,_,h⟩⟩
 have:JH 8 fun D=>∃ a b,D [(0,.pointer a),(9,.int .u64 b)] (fun C=>∀ l,C [(0,.pointer a),(8,.bool false),(9,.int .u64 b),(38,.bool l)] (zX.s2 Q a b l)):=⟨fun _ ⟨_,_,h⟩=>⟨_,_,h⟩⟩
 have:JH 14 fun D=>∃ c d f g,D [(0,.pointer c),(11,.int .u64 d),(13,.int .u64 f),(15,Sl.val g)] (fun C=>∀ m,C [(0,.pointer c),(8,.bool false),(11,.int .u64 d),(13,.int .u64 f),(15,Sl.val g),(80,.bool m)] (zX.s3 Q c d f g m)):=⟨fun _ ⟨_,_,_,_,h⟩=>⟨_,_,h⟩⟩
 exact zn 90 h Tryz.func64
instance:AT Tryz.prog 116 3:=⟨by kernel_rfl⟩
instance:AT Tryz.prog 56 7:=⟨by kernel_rfl⟩
instance:CB Tryz.prog 10:=⟨by kernel_rfl⟩
instance:CB Tryz.prog 13:=⟨by kernel_rfl⟩
instance:CB Tryz.prog 14:=⟨by kernel_rfl⟩
instance:CB Tryz.prog 15:=⟨by kernel_rfl⟩
instance:CB Tryz.prog 16:=⟨by kernel_rfl⟩
instance:CB Tryz.prog 37:=⟨by kernel_rfl⟩
instance:CB Tryz.prog 44:=⟨by kernel_rfl⟩
instance:CB Tryz.prog 45:=⟨by kernel_rfl⟩
instance:CB Tryz.prog 46:=⟨by kernel_rfl⟩
instance:CB Tryz.prog 47:=⟨by kernel_rfl⟩
instance:CB Tryz.prog 48:=⟨by kernel_rfl⟩
instance:CB Tryz.prog 49:=⟨by kernel_rfl⟩
instance:CB Tryz.prog 50:=⟨by kernel_rfl⟩
instance:CB Tryz.prog 7:=⟨by kernel_rfl⟩
instance:CB Tryz.prog 8:=⟨by kernel_rfl⟩
instance:CB Tryz.prog 9:=⟨by kernel_rfl⟩
instance:CT Tryz.prog 32:=⟨by kernel_rfl⟩
instance:FT Tryz.prog 107 0 0 1:=⟨by kernel_rfl⟩
instance:FT Tryz.prog 107 1 1 1:=⟨by kernel_rfl⟩
instance:FT Tryz.prog 107 2 2 1:=⟨by kernel_rfl⟩
instance:FT Tryz.prog 116 0 0 1:=⟨by kernel_rfl⟩
instance:FT Tryz.prog 56 0 0 1:=⟨by kernel_rfl⟩
instance:FT Tryz.prog 56 1 1 1:=⟨by kernel_rfl⟩
instance:FT Tryz.prog 56 2 2 1:=⟨by kernel_rfl⟩
instance:FT Tryz.prog 56 4 4 1:=⟨by kernel_rfl⟩
instance:FT Tryz.prog 56 5 5 1:=⟨by kernel_rfl⟩
instance:FT Tryz.prog 56 6 6 1:=⟨by kernel_rfl⟩
instance:FT Tryz.prog 99 0 0 1:=⟨by kernel_rfl⟩
instance:FT Tryz.prog 99 1 1 1:=⟨by kernel_rfl⟩
instance:FT Tryz.prog 99 2 2 1:=⟨by kernel_rfl⟩
instance:PLT Tryz.prog 107 [(0,1),(1,1),(2,1)]:=⟨_,Tryz.underlying107,by kernel_rfl⟩
instance:SLT Tryz.prog 120 107 3:=⟨by kernel_rfl⟩
instance:SLT Tryz.prog 46 56 7:=⟨by kernel_rfl⟩
instance:SZ Tryz.prog 116 3:=⟨by kernel_rfl⟩
instance:SZ Tryz.prog 56 7:=⟨by kernel_rfl⟩
instance:UN Tryz.prog 24 (.pointer 62):=⟨Tryz.underlying24⟩
instance:UN Tryz.prog 29 (.pointer 68):=⟨Tryz.underlying29⟩
instance:UN Tryz.prog 4 .bool:=⟨Tryz.underlying4⟩
instance:ZT Tryz.prog 107 (.agg #[(.int .i64 0),(.int .u64 0),(.string ⟨#[]⟩)]):=⟨Tryz.t107,by kernel_rfl,by kernel_rfl⟩
instance:ZT Tryz.prog 116 (.agg #[(.string ⟨#[]⟩),(Sl.val ⟨none,0,0⟩),(.int .i64 0)]):=⟨Tryz.t116,by kernel_rfl,by kernel_rfl⟩
instance:ZT Tryz.prog 3 (.int .i64 0):=⟨Tryz.t3,by kernel_rfl,by kernel_rfl⟩
instance:ZT Tryz.prog 56 (.agg #[(.int .i64 0),(.int .i64 0),(.int .i64 0),(.int .i64 0),(.int .u64 0),(.string ⟨#[]⟩),(Sl.val ⟨none,0,0⟩)]):=⟨Tryz.t56,by kernel_rfl,by kernel_rfl⟩
def yE.s2 (Q:Bool→K) (a:Bool): K :=
 Q a
def yE.s1 (Q:Bool→K) (k l:Pt) (m:Bool): K :=
 Ite m
  (Q false)
  (New 3 #[.int .i64 0] fun c=>
  zu.call k (Sl.mk (some c) 1 1) 0 fun a n=>
  New 3 #[.int .i64 0] fun d=>
  zu.call l (Sl.mk (some d) 1 1) 7 fun b o=>
  Ite (!(a).isNone)
   (Ite (!(b).isNone)
    (yS.call a fun f=>
    Ite (decide (f = 1))
     (yg.call a fun g=>
     Ite g
      (yS.call b fun i=>
      Ite (decide (i = 8))
       (yg.call b fun j=>
       yE.s2 Q (!j))
       (yE.s2 Q false))
      (yE.s2 Q false))
     (yE.s2 Q false))
    (yE.s2 Q false))
   (yE.s2 Q false))
def yE  (Q:Bool→K): K :=
 xB.call 1000 fun a d=>
 xB.call 1000 fun b f=>
 Ite ((a).isNone)
  (yE.s1 Q a b true)
  (Ite ((b).isNone)
   (yE.s1 Q a b true)
   (ql.call a fun c=>
   yE.s1 Q a b (decide (c ≠ 0))))
theorem zDd (Q w) (h:yE  Q w):yE.call  Q w:=by
 have:JH 1000007 fun D=>D [] (fun C=>∀ c,C [(0,.bool c)] (yE.s2 Q c)):=⟨fun _ h=>⟨_,_,h⟩⟩
 have:JH 4 fun D=>∃ a b,D [(1,.pointer a),(3,.pointer b)] (fun C=>∀ d,C [(1,.pointer a),(3,.pointer b),(27,.bool d)] (yE.s1 Q a b d)):=⟨fun _ ⟨_,_,h⟩=>⟨_,_,h⟩⟩
 exact zn 65 h Tryz.func6
instance:CB Tryz.prog 11:=⟨by kernel_rfl⟩
instance:CB Tryz.prog 12:=⟨by kernel_rfl⟩
instance:CB Tryz.prog 6:=⟨by kernel_rfl⟩
def zI.s3 (Q:Bool→K) (c:Bool→Pt→Int→Int→K) (d:Bool) (j:Int) (f:Pt) (g:Int) (k:Sl) (l i:Int): K :=
 z8.call f (Sl.mk none 0 0) fun a=>
 Ite ((a).isNone)
  (Q false)
  (Ar (IntKind.wrap .i64 (i + 1)) fun b=>
  c d a g b)
def zI.s4 (Q:Bool→K) (b:Bool→Pt→Int→Int→K) (c:Bool) (d:Int) (f g:Pt) (i:Sl) (j k:Int) (l:Bool): K :=
 Ite l
  (Q false)
  (yS.call g fun a=>
  zI.s3 Q b c d f a i j k)
def zI.b2 (Q:Bool→K) (j:Bool→Pt→Int→Int→K) (f:Int) (g:Sl) (i:Int) (b:Bool) (c:Pt) (l d:Int): K :=
 Ite (decide (d < i))
  (Idx g d 1 fun m=>
  Ld m (Value.int .i64) fun k=>
  Ar (bitsOf .and .i64 k 7) fun n=>
  xJ.call c n<|
  New 3 #[.int .i64 0,.int .i64 2] fun o=>
  Ar (IntKind.wrap .u64 k) fun p=>
  Cd (0 ≤ (3:Int))<|
  Ar (uY .u64 p 3) fun q=>
  Ar (bitsOf .and .u64 q 3) fun r=>
  zu.call c (Sl.mk (some o) 2 2) r fun a s=>
  Ite (!(a).isNone)
   (zN.call a 2 f 0 fun x t y=>
   yS.call a fun u=>
   Ite (decide (u ≤ l))
    (zI.s4 Q j b f c a g i d true)
    (yg.call a fun v=>
    Ite (v == b)
     (zI.s4 Q j b f c a g i d true)
     (Ite t
      (zI.s4 Q j b f c a g i d b)
      (zI.s4 Q j b f c a g i d false))))
   (Ite (decide (s ≠ 3))
    (Q false)
    (zI.s3 Q j b f c l g i d)))
  (Q true)
def zI.s1 (Q:Bool→K) (a:Sl) (g:Bool) (i:Int) (j:Pt) (k:Bool): K :=
 Ite k
  (Q false)
  (yY (α:=Bool×Pt×Int×Int) (fun X x=>zI.b2 Q (fun b c d f=>X (b,c,d,f)) i a (a.n:Int) x.1 x.2.1 x.2.2.1 x.2.2.2) (g,j,0,0))
def zI (b:Sl) (c:Bool) (d:Int) (Q:Bool→K): K :=
 yE.call  fun f=>
 Ite (!f)
  (Q false)
  (Ite (decide ((20:Int) < (b.n:Int)))
   (Q true)
   (xB.call 10000 fun a i=>
   Ite ((a).isNone)
    (zI.s1 Q b c d a true)
    (Ite (!c)
     (ql.call a fun g=>
     zI.s1 Q b c d a (decide (g ≠ 0)))
     (zI.s1 Q b c d a false))))
theorem zAi (v y z Q w) (h:zI v y z Q w):zI.call v y z Q w:=by
 have:∀ (f:(Bool×Pt×Int×Int)→K),XH 10 f→JH 21 fun D=>∃ g i j k l,D [(2,.int .u64 g),(7,.pointer i),(37,Sl.val j),(38,.int .i64 k),(39,.int .i64 l)] (fun C=>∀ aa ab,C [(1,.bool aa),(2,.int .u64 g),(7,.pointer i),(9,.int .u64 ab),(37,Sl.val j),(38,.int .i64 k),(39,.int .i64 l)] (zI.s3 Q (fun a b c d=>f (a,b,c,d)) aa g i ab j k l)):=by intros; exact ⟨fun _ ⟨_,_,_,_,_,h⟩=>⟨_,_,h⟩⟩
 have:∀ (f:(Bool×Pt×Int×Int)→K),XH 10 f→JH 17 fun D=>∃ m n o p q r,D [(2,.int .u64 m),(7,.pointer n),(12,.pointer o),(37,Sl.val p),(38,.int .i64 q),(39,.int .i64 r)] (fun C=>∀ ac ad,C [(1,.bool ac),(2,.int .u64 m),(7,.pointer n),(12,.pointer o),(37,Sl.val p),(38,.int .i64 q),(39,.int .i64 r),(81,.bool ad)] (zI.s4 Q (fun a b c d=>f (a,b,c,d)) ac m n o p q r ad)):=by intros; exact ⟨fun _ ⟨_,_,_,_,_,_,h⟩=>⟨_,_,h⟩⟩
 have:∀ ae af ag,LH 10 (fun x:Bool×Pt×Int×Int=>[(1,.bool x.1),(2,.int .u64 ae),(7,.pointer x.2.1),(9,.int .u64 x.2.2.1),(37,Sl.val af),(38,.int .i64 ag),(39,.int .i64 x.2.2.2)]) (fun X x=>zI.b2 Q (fun a b c d=>X (a,b,c,d)) ae af ag x.1 x.2.1 x.2.2.1 x.2.2.2):=fun _ _ _=>⟨⟩
 have:JH 7 fun D=>∃ s t u,D [(0,Sl.val s),(2,.int .u64 t),(7,.pointer u)] (fun C=>∀ ah aj,C [(0,Sl.val s),(1,.bool ah),(2,.int .u64 t),(7,.pointer u),(36,.bool aj)] (zI.s1 Q s ah t u aj)):=⟨fun _ ⟨_,_,_,h⟩=>⟨_,_,h⟩⟩
 exact zn 91 h Tryz.func4
end
section
open Go Go.Sep
abbrev vH:Sl:=⟨none,0,0⟩
abbrev zI7 (p:Int) (tb:Nat):List Value:=[.int .u64 p,.pointer (some ⟨tb,0,none⟩)]
abbrev zHt (vb tb rb:Nat) (p:Int) (Γ:List zC):List zC:=blk vb (.cells (zI7 p tb).toArray zAX (0,0))::blk tb (.cells [.pointer (some ⟨rb,0,none⟩),.int .i64 0].toArray uM (0,0))::blk rb (.cells [vH.val,vH.val].toArray yQ (0,0))::Γ
def zBR (vb:Nat) (p:Int):zC:=ex fun tb:Nat=>ex fun rb:Nat=>Sep.stars (zHt vb tb rb p [])
section
variable {B:World} {Γ Δ:List zC} {k Q:K} {vb:Nat} {p b:Int}
theorem zMY (h:∀ tb rb,HG B (zHt vb tb rb p Γ) k):HG B (zBR vb p::Γ) k:=zF9 fun tb=>zF9 fun rb=>zCl (h tb rb)
theorem zDs {tb rb:Nat} (h:HG B (zBR vb p::Γ) k):HG B (zHt vb tb rb p Γ) k:=fun w hw=>by
 refine h w ?_
 have h3:Holds B (Sep.stars (zHt vb tb rb p [])::Γ) w:=Holds.flat.2 hw
 exact h3.imp fun g hg=>⟨tb,rb,hg⟩
instance (priority:=high) zO3:Sep.Own vb (zBR vb p::Γ) (zBR vb p) Γ:=⟨.refl _⟩
theorem zI8 {q:Option Addr→K} (h:∀ vb,HG B (zBR vb 0::Γ) (q (some ⟨vb,0,none⟩))):HG B Γ (qo.call q):=by
 refine fun w hw=>zAw _ _ ?_
 refine hg hw ?_
 clear hw w
 unfold qo
 refine fun w hw=>uS _ _ ?_
 refine hg hw ?_
 clear hw w
 unfold yh
 refine jI fun rb=>?_
 refine jI fun tb=>?_
 refine jI fun vb=>?_
 refine qm (Δ:=zHt vb tb rb 0 Γ) ?_
 exact zDs (h vb)
theorem zDN {q:Int→K} (h:HG B (zBR vb p::Γ) (q p)):HG B (zBR vb p::Γ) (yG.call (some ⟨vb,0,none⟩) q):=by
 refine fun w hw=>uX _ _ _ ?_
 refine hg hw ?_
 clear hw w
 unfold yG
 refine zMY fun tb rb=>?_
 refine jS ?_
 refine vV (b:=vb) (l:=zI7 p tb) (x:=p) ?_
 exact zDs h
theorem zHu {rb:Nat} {key:Int} {q:Int→Bool→K} (h:HG B (blk rb (.cells [vH.val,vH.val].toArray yQ (0,0))::Γ) (q 0 false)) :
  HG B (blk rb (.cells [vH.val,vH.val].toArray yQ (0,0))::Γ) (zi.call (some ⟨rb,0,none⟩) key q):=by
 refine fun w hw=>vG _ _ _ _ ?_
 refine hg hw ?_
 clear hw w
 unfold zi
 refine jS ?_
 refine vV (b:=rb) (l:=[vH.val,vH.val]) (x:=vH) ?_
 refine fun w hw=>yR _ _ _ _ _ ?_
 refine hg hw ?_
 clear hw w
 unfold zA
 refine zIJ (α:=Int×Int) (fun y=>y = (0,0)) (fun _=>0) rfl fun k' y hy hk'=>?_
 subst hy
 unfold zA.b1
 refine s_f ?_ (by rfl)
 refine s_f ?_ (by rfl)
 exact h
theorem zKY {rb kb:Nat} {key:Int} {y:Value} {q:Bool→K} (h:HG B (blk rb (.cells [vH.val,vH.val].toArray yQ (0,0))::blk kb (.cells [.int .i64 key].toArray j6 (0,0))::Γ) (q true)) :
  HG B (blk rb (.cells [vH.val,vH.val].toArray yQ (0,0))::blk kb (.cells [.int .i64 key].toArray j6 (0,0))::Γ) (zB.call (some ⟨rb,0,none⟩) (some ⟨kb,0,none⟩) y q):=by
 refine fun w hw=>vM _ _ _ _ _ ?_
 refine hg hw ?_
 clear hw w
 unfold zB
 refine s_t ?_ (by rfl)
 refine jS ?_
 refine vV (b:=kb) (l:=[.int .i64 key]) (x:=key) ?_
 refine zHu ?_
 unfold zB.s1
 refine zIJ (α:=Option Addr×Int) (fun y=>y = (some ⟨kb,0,none⟩,0)∨y = (none,1)) (fun y=>1 - y.2.toNat) (.inl rfl) fun k' y hy hk'=>?_
 unfold zB.b2
 refine jS ?_
 refine vV (b:=rb) (l:=[vH.val,vH.val]) (x:=vH) ?_
 rcases hy with rfl | rfl
 ·refine s_t ?_ (by rfl)
  refine vV (b:=rb) (off:=1) (l:=[vH.val,vH.val]) (x:=vH) ?_
  refine s_f ?_ (by rfl)
  unfold zB.s3
  refine s_f ?_ (by rfl)
  refine zLc ?_
  refine vV (b:=rb) (l:=[vH.val,vH.val]) (x:=vH) ?_
  refine s_f ?_ (by rfl)
  unfold zB.s4
  refine s_f ?_ (by rfl)
  refine jG (show IntKind.wrap .i64 (0 + 1) = 1 by rfl) ?_
  exact hk' (none,1) (.inr rfl) (by simp)
 ·refine s_f ?_ (by rfl)
  exact h
theorem zA7 {from':Int} {q:Sl→Bool→K} (hno:b < p→HG B (zBR vb p::Γ) (q vH false)) (hyes:p ≤ b→HG B (zBR vb b::Γ) (q vH true)):HG B (zBR vb p::Γ) (yK.call (some ⟨vb,0,none⟩) b from' q):=by
 refine fun w hw=>uw _ _ _ _ _ ?_
 refine hg hw ?_
 clear hw w
 unfold yK
 refine jI fun out=>?_
 refine zAM vb ?_
 refine zMY fun tb rb=>?_
 refine jS ?_
 refine vV (b:=vb) (l:=zI7 p tb) (x:=p) ?_
 refine zAy (fun hb=>?_) fun hb=>?_
 ·refine zGy (b:=out) (l:=[vH.val]) (l':=[vH.val]) ?_ rfl rfl
  refine vV (b:=out) (l:=[vH.val]) (x:=vH) ?_
  refine qm (Δ:=zHt vb tb rb p Γ) ?_
  exact zDs (hno (by simpa using hb))
 refine zGy (b:=vb) (l:=zI7 p tb) (l':=zI7 b tb) ?_ rfl rfl
 refine vV (b:=vb) (off:=1) (l:=zI7 b tb) (x:=some ⟨tb,0,none⟩) ?_
 refine fun w hw=>vL _ _ _ _ ?_
 refine hg hw ?_
 clear hw w
 unfold yL
 refine jI fun c2=>?_
 refine jI fun kb=>?_
 refine zKX (cs:=[.pointer (some ⟨c2,0,none⟩),.pointer (some ⟨kb,0,none⟩)]) (by kernel_rfl) fun D l r hr hy=>?_
 refine fun w hw=>zD0 (vF _ _ _ _ w ?_) fun v w h=>h.2
 refine hg hw ?_
 clear hw w
 unfold yX
 refine vV (b:=c2) (l:=[.pointer (some ⟨tb,0,none⟩)]) (x:=some ⟨tb,0,none⟩) ?_
 refine jS ?_
 refine vV (b:=tb) (l:=[.pointer (some ⟨rb,0,none⟩),.int .i64 0]) (x:=some ⟨rb,0,none⟩) ?_
 refine zAM kb ?_
 refine zAM rb ?_
 refine zKY ?_
 refine zAM l ?_
 refine zNX ?_
 refine vV (b:=out) (l:=[vH.val]) (x:=vH) ?_
 refine zGy (b:=out) (l:=[vH.val]) (l':=[vH.val]) ?_ rfl rfl
 refine zLl ?_
 refine vV (b:=out) (l:=[vH.val]) (x:=vH) ?_
 refine qm (Δ:=zHt vb tb rb b Γ) ?_
 exact zDs (hyes (by simpa using hb))
def qW (n:Nat):List UInt8:=1::uU n
theorem zHv {n:Nat} {s:Sl} {q:Bool→K} (hn:n < 18446744073709551616) (hp:p ≤ n) (hr:∀ w,Holds B Γ w→RdB w s (qW n)) (h:HG B (zBR vb (n:Int)::Γ) (q true)):HG B (zBR vb p::Γ) (zX.call (some ⟨vb,0,none⟩) s q):=by
 refine fun w hw=>zCR _ _ _ _ ?_
 refine hg hw ?_
 clear hw w
 have hnl:=xQ 9 n (by omega)
 unfold zX
 refine zFF (xs:=qW n) (by unfold qW; simp; omega) (fun w hw=>hr w hw.tail) fun e=>?_
 refine zEL (b:=1) (rest:=uU n) rfl ?_
 refine s_t ?_ (by rfl)
 refine zFH (n:=n) (rest:=[]) hn (by simp) (by omega) ?_
 refine s_t ?_ (by rfl)
 refine zFG ?_
 rw [if_pos rfl]
 unfold zX.s2
 refine s_t ?_ (by rfl)
 refine zAM vb ?_
 refine zA7 (fun h1=>by omega) fun _=>?_
 unfold zX.s1
 exact qm h
end
end
end Go.Proofs.YtgmbfnboiobeaaaGreat
namespace Go.Sep
section
open Go Go.RowKit
section
variable {P:Program} {B:World} {Γ Δ:List zC} {E esz:Nat} {s:Sl} {vs:List Value}
end
end
end Go.Sep
namespace Go.Proofs.YtgmbfnboiobeaaaGreat
section
open Go Go.Sep
abbrev xA:List UInt8:=[108,105,102,101]
abbrev STATE:List UInt8:=[115,116,97,116,101]
def vB (v:Bool):UInt8:=if v then 1 else 0
def qE (ep:Nat) (v:Bool):List UInt8:=uU ep++[vB v]
abbrev kpL (d ep:Nat) (v:Bool) (mb:Nat):List Value:=[.pointer (some ⟨d,0,none⟩),.int .u64 (ep:Int),.bool v,.map (some mb)]
abbrev KpR (kp d ep:Nat) (v:Bool) (mb:Nat):zC:=blk kp (.cells (kpL d ep v mb).toArray zB8 (0,0))
def zC2 (D:zD) (ep:Nat) (v:Bool):Prop:=D.read xA = (yU (qE ep v),0)∨(ep = 0∧v = false∧D.read xA = ([],60))
theorem zBI {ep:Nat} {v:Bool} (h:ep < 18446744073709551616):(qE ep v).length ≤ 11:=by
 have:=xQ 9 ep (by omega)
 unfold qE
 simp; omega
section
variable {B:World} {Γ Δ:List zC} {k:K} {d kp mb:Nat} {D:zD} {n x:List UInt8}
theorem zIY {body:Sl} {q:Int→K} (hD:OkD D) (hx:x.length ≤ 10000) (hcap:body.n ≤ body.c) (hr:∀ w,Holds B Γ w→RdB w body x) (h:OkD (D.save n x).1→HG B (zJ d (D.save n x).1::Γ) (q (D.save n x).2)) :
  HG B (zJ d D::Γ) (yx.call (some ⟨d,0,none⟩) (bs n) body q):=fun w hw=>zEQ hD hx hcap hw hr fun w ho hw=>h ho w hw
theorem zKZ {q:Sl→Int→K} {b:List UInt8} (hD:OkD D) (hr:D.read n = (yU b,0)) (hl:(yU b).length ≤ 100000) (hb:b.length ≤ 100000) (h:∀ f,HG B (Bytes zV f b::zJ d D::Γ) (q f 0)) :
  HG B (zJ d D::Γ) (uG.call (some ⟨d,0,none⟩) (bs n) q):=fun w hw=>by
 refine zA6 hD (by rw [hr]; exact hl) hw (fun he=>by rw [hr] at he; exact absurd rfl he) (fun b' f w _ he hw=>?_) fun _ hno=>absurd (by rw [hr]) (hno b)
 rw [hr] at he
 rw [← pack_inj hb he.symm] at hw
 exact h f w hw
theorem zKa {q:Sl→Int→K} {e:Int} (hD:OkD D) (hr:D.read n = ([],e)) (he:e ≠ 0) (h:HG B (zJ d D::Γ) (q vH e)) :
  HG B (zJ d D::Γ) (uG.call (some ⟨d,0,none⟩) (bs n) q):=fun w hw=>by
 refine zA6 hD (by rw [hr]; simp) hw (fun _ w hw=>?_) (fun b' f w h0=>?_) fun h0=>?_
 ·rw [hr]; exact h w hw
 ·rw [hr] at h0; exact absurd h0 he
 ·rw [hr] at h0; exact absurd h0 he
theorem zGJ {ep:Nat} {v:Bool} {q:Sl→K} (he:ep < 18446744073709551616) (h:∀ s,HG B (Bytes zV s (qE ep v)::Γ) (q s)):HG B Γ (yw.call (ep:Int) v q):=by
 refine fun w hw=>zDc _ _ _ _ ?_
 refine hg hw ?_
 clear hw w
 have hl:=xQ 9 ep (by omega)
 unfold yw
 refine zFI fun p=>?_
 refine zKK (n:=ep) (by omega) (by simp) ?_
 have s1:HG B (zBm p (qE ep v)::Γ) (yw.s1 q ⟨p,0,none⟩):=by
  unfold yw.s1
  refine zIR (by unfold qE; simp; omega) fun s=>?_
  exact qm (h s)
 cases v
 ·refine s_f ?_ (by rfl)
  exact zGG (b:=0) (by simp; omega) s1
 ·refine s_t ?_ (by rfl)
  exact zGG (b:=1) (by simp; omega) s1
theorem zI9 {q:Int→K} (hD:OkD D) (h:OkD (D.save xA (qE 0 true)).1→HG B (zJ d (D.save xA (qE 0 true)).1::Γ) (q (D.save xA (qE 0 true)).2)):HG B (zJ d D::Γ) (ql.call (some ⟨d,0,none⟩) q):=by
 refine fun w hw=>zCQ _ _ _ ?_
 refine hg hw ?_
 clear hw w
 unfold ql
 refine zGJ (ep:=0) (by omega) fun s=>?_
 refine vw (zJ d D) ?_
 refine zFC s fun a1 a2 a3 a4=>?_
 refine zIY (n:=xA) hD (by have:=zBI (ep:=0) (v:=true) (by omega); omega) a2 (fun w hw=>(zCm (s:=s) hw).1) fun ho=>?_
 exact qm (h ho)
theorem zKb {clock ep:Nat} {v:Bool} {q:Int→K} (hD:OkD D) (hlife:zC2 D ep v) (hm:max ep clock < 18446744073709551615)
  (h:OkD (D.save xA (qE (max ep clock + 1) v)).1→HG B (KpR kp d (max ep clock + 1) v mb::zJ d (D.save xA (qE (max ep clock + 1) v)).1::Γ) (q (D.save xA (qE (max ep clock + 1) v)).2)) :
  HG B (KpR kp d 0 false mb::zJ d D::Γ) (zT.call (some ⟨kp,0,none⟩) (clock:Int) q):=by
 refine fun w hw=>zAR _ _ _ _ ?_
 refine hg hw ?_
 clear hw w
 have hep:ep < 18446744073709551616:=by omega
 have hl11:=zBI (v:=v) hep
 unfold zT
 refine jS ?_
 refine vV (b:=kp) (l:=kpL d 0 false mb) (x:=some ⟨d,0,none⟩) ?_
 have S1:∀ {s:Sl},HG B (Bytes zV s (qE ep v)::KpR kp d 0 false mb::zJ d D::Γ) (zT.s1 q ⟨kp,0,none⟩ (clock:Int) s):=fun {s}=>by
  unfold zT.s1
  refine zFF (xs:=qE ep v) (by omega) (fun w hw=>(zCm (s:=s) hw).1) fun e=>?_
  refine zFH (n:=ep) (rest:=[vB v]) hep rfl (by omega) ?_
  refine zEL (b:=vB v) (rest:=[]) rfl ?_
  refine jG (show (if (clock:Int) > (ep:Int) then (clock:Int) else (ep:Int)) = ((max ep clock:Nat):Int) by split <;> omega) ?_
  have hv:(vB v).toNat ≤ 1:=by cases v <;> decide
  refine s_f ?_ (by rfl)
  refine s_f ?_ (by rfl)
  refine s_f ?_ (by simp; omega)
  refine zFG ?_
  rw [if_pos rfl]
  unfold zT.s2
  refine s_f ?_ (by rfl)
  refine s_f ?_ (by simp; omega)
  refine jG (show IntKind.wrap .u64 (((max ep clock:Nat):Int) + 1) = ((max ep clock + 1:Nat):Int) by rw [zAU (by omega) (by omega)]; push_cast; rfl) ?_
  refine zGy (b:=kp) (off:=1) (l:=kpL d 0 false mb) (l':=kpL d (max ep clock + 1) false mb) ?_ rfl rfl
  refine zGy (b:=kp) (off:=2) (l:=kpL d (max ep clock + 1) false mb) (l':=kpL d (max ep clock + 1) v mb) ?_ rfl (by cases v <;> rfl)
  refine zLc ?_
  refine zMU [KpR kp d (max ep clock + 1) v mb] ?_
  refine zGx (b:=kp) (l:=kpL d (max ep clock + 1) v mb) (x:=some ⟨d,0,none⟩) ?_
  refine zGx (b:=kp) (off:=1) (l:=kpL d (max ep clock + 1) v mb) (x:=((max ep clock + 1:Nat):Int)) ?_
  refine zGx (b:=kp) (off:=2) (l:=kpL d (max ep clock + 1) v mb) (x:=v) ?_
  refine zGJ (ep:=max ep clock + 1) (by omega) fun s2=>?_
  refine zNO ?_
  refine vw (zJ d D) ?_
  refine zFC s2 fun a1 a2 a3 a4=>?_
  refine zIY (n:=xA) hD (by have:=zBI (ep:=max ep clock + 1) (v:=v) (by omega); omega) a2 (fun w hw=>(zCm (s:=s2) hw).1) fun ho=>?_
  refine vw (KpR kp d (max ep clock + 1) v mb) ?_
  exact qm (h ho)
 refine vw (zJ d D) ?_
 rcases hlife with hr | ⟨rfl,rfl,hr⟩
 ·have hpl:=pk (x:=qE ep v) (by omega)
  refine zKZ (n:=xA) hD hr (by omega) (by omega) fun f=>?_
  refine s_f ?_ (by rfl)
  refine s_f ?_ (by rfl)
  refine qm (Δ:=Bytes zV f (qE ep v)::KpR kp d 0 false mb::zJ d D::Γ) ?_
  exact S1
 ·refine zKa (n:=xA) (e:=60) hD hr (by decide) ?_
  refine s_t ?_ (by rfl)
  refine zGJ (ep:=0) (by omega) fun s=>?_
  refine qm (Δ:=Bytes zV s (qE 0 false)::KpR kp d 0 false mb::zJ d D::Γ) ?_
  exact S1
end
end
end Go.Proofs.YtgmbfnboiobeaaaGreat
namespace Go.Sep
section
open Go Go.RowKit
section
variable {P:Program}
section
variable {α β:Type} [DecidableEq α] {B w:World} {Γ Δ:List zC} {kt:TypeId} {cel:α→List Value} {cV:β→Value} {k:K}
class zNY (r:Nat) (Γ:List zC) (A:outParam zC) (Δ:outParam (List zC)):Prop where perm:Γ.Perm (A::Δ)
instance (priority:=low) zNf {r:Nat} {X A:zC} {Γ Δ:List zC} [h:zNY r Γ A Δ]:zNY r (X::Γ) A (X::Δ):=⟨zBD h.perm⟩
instance (priority:=high) zO4 {α β:Type} [DecidableEq α] {enc:α→Value} {cV:β→Value} {b r:Nat} {m left:List (α×β)} {cur:Option (α×β)} {Γ:List zC}:zNY r (vN enc cV b r m left cur::Γ) (vN enc cV b r m left cur) Γ:=⟨.refl _⟩
theorem zNZ {α:Type} {vs:List Value} {i:Nat} {c:α→Value} {v:Value} {x:α} {k:α→K} (h:HG B Γ (k x)) [n:zG5 vs i v] [e:Cv c v x]:HG B Γ (Ext (.tuple vs.toArray) i c k):=fun w hw=>⟨_,x,rfl,by have:=n.h; rw [zCc] at this; rw [e.h] at this; simpa using this,h w hw⟩
instance zPq {α:Type} {vs:List Value} {i:Nat} {c:α→Value} {v:Value} {x:α} {k:α→K} [n:zG5 vs i v] [e:Cv c v x]:Nx B Γ (Ext (.tuple vs.toArray) i c k) Γ (k x):=⟨fun h=>zNZ h⟩
end
end
end
section
open Go Go.RowKit
section
variable {P:Program} {B:World} {Γ Δ:List zC} {α γ:Type}
end
end
end Go.Sep
namespace Go.Proofs.YtgmbfnboiobeaaaGreat
section
open Go Go.Sep
theorem zMZ:zAf Tryz.prog jY (.int .i64) jZ:=⟨3,by kernel_rfl,by kernel_rfl⟩
theorem zKc:zAf Tryz.prog zD8 (.int .i64) j6:=⟨3,by kernel_rfl,by kernel_rfl⟩
def xH (g:Int):List UInt8:=[103,u8 (48 + g.toNat)]
def vO (L:List Nat):Nat:=L.foldl (fun _ x=>x) 0
theorem zEX (L:List Nat) (x:Nat):vO (L++[x]) = x:=by simp [vO]
theorem zKd {L:List Nat} {x:Nat} (h:∀ y ∈ L,y ≤ x):vO L ≤ x:=by
 rcases List.eq_nil_or_concat L with rfl | ⟨L',y,rfl⟩
 ·simp [vO]
 ·rw [List.concat_eq_append,zEX]; exact h y (by simp)
abbrev zDe (l vb:Nat):List Value:=[.pointer (some ⟨l,0,none⟩),.pointer (some ⟨vb,0,none⟩)]
abbrev zEt (g d l vb:Nat) (W:qc) (p:Int) (Γ:List zC):List zC:=blk g (.cells (zDe l vb).toArray xW (0,0))::xG l d W::zBR vb p::Γ
def zC3 (g d:Nat) (W:qc) (p:Int):zC:=ex fun l:Nat=>ex fun vb:Nat=>Sep.stars (zEt g d l vb W p [])
structure zKe (W:qc) (L:List Nat):Prop where
 ok:OkW W
 recs:W.recs = L.map qW
 srt:L.Pairwise (· ≤ ·)
 lt:∀ x ∈ L,x < 18446744073709551616
section
variable {B:World} {Γ Δ:List zC} {k:K} {d kp mb:Nat} {D D1:zD} {W:qc} {L:List Nat}
theorem zOe {g:Nat} {p:Int} (h:∀ l vb,HG B (zEt g d l vb W p Γ) k):HG B (zC3 g d W p::Γ) k:=zF9 fun l=>zF9 fun vb=>zCl (h l vb)
theorem zLm {g l vb:Nat} {p:Int} (h:HG B (zC3 g d W p::Γ) k):HG B (zEt g d l vb W p Γ) k:=fun w hw=>by
 refine h w ?_
 have h3:Holds B (Sep.stars (zEt g d l vb W p [])::Γ) w:=Holds.flat.2 hw
 exact h3.imp fun x hx=>⟨l,vb,hx⟩
instance (priority:=high) zO5 {g:Nat} {p:Int}:Sep.Own g (zC3 g d W p::Γ) (zC3 g d W p) Γ:=⟨.refl _⟩
theorem zNa {s:Sl} {recs:List (List UInt8)} (h:∀ rs:zER,rs.map Prod.snd = recs→HG B (SlC zR 1 s (rs.map vW)::Sep.stars (rs.map vk)::Γ) k):HG B (zKR s recs::Γ) k:=zF9 fun rs=>zCl <| zMP fun h1=>h rs h1
theorem zHw {α:Type} {F:α→zC} {l:List α} {x:α} {w:World} (hx:x ∈ l) (h:Holds B (Sep.stars (l.map F)::Γ) w):∃ Δ,Holds B (F x::Δ) w:=by
 obtain ⟨i,hi⟩:=List.getElem?_of_mem hx
 exact ⟨_,zHe i hi h⟩
theorem zLn {α:Type} {F:α→zC} {A:List α} {x:α} (h:HG B (Sep.stars ((A++[x]).map F)::Γ) k):HG B (F x::Sep.stars (A.map F)::Γ) k:=by
 refine zLe (A:=A) (C:=[]) ?_ |> fun h=>by rw [List.append_nil] at h; exact h
 exact h
theorem zMQ {a b:List UInt8} {q:ByteArray→K} (hl:a.length + b.length ≤ 1000000) (h:HG B Γ (q (bs (a++b)))):HG B Γ (Cat (bs a) (bs b) q):=fun w hw=>⟨bs (a++b),by
 have h1:(bs a).size = a.length:=rfl
 have h2:(bs b).size = b.length:=rfl
 omega,(zIX a b).symm,h w hw⟩
theorem zKf {g:Int} {M:List (Int×Option Addr)} {ep:Nat} {v:Bool} {q:Int→K} (hg0:0 ≤ g) (hg3:g ≤ 3) (hD:OkD D) (hload:(vR (xH g) 40960).load D = (D1,W,0)) (hL:zKe W L)
  (h:∀ gb,OkD D1→HG B (KpR kp d ep v mb::qK (Value.int .i64) Value.pointer mb (yN g (some ⟨gb,0,none⟩) M)::zC3 gb d W (vO L:Nat)::zJ d D1::Γ) (q 0)) :
  HG B (KpR kp d ep v mb::qK (Value.int .i64) Value.pointer mb M::zJ d D::Γ) (yP.call (some ⟨kp,0,none⟩) g q):=by
 refine fun w hw=>zAa _ _ _ _ ?_
 refine hg hw ?_
 clear hw w
 unfold yP
 refine jS ?_
 refine vV (b:=kp) (l:=kpL d ep v mb) (x:=some ⟨d,0,none⟩) ?_
 refine jG (show IntKind.wrap .i64 (48 + g) = ((48 + g.toNat:Nat):Int) by rw [wrap64 (by omega) (by omega)]; omega) ?_
 have h32:IntKind.wrap .i32 ((48 + g.toNat:Nat):Int) = ((48 + g.toNat:Nat):Int):=by
  have:g.toNat = 0∨g.toNat = 1∨g.toNat = 2∨g.toNat = 3:=by omega
  rcases this with e | e | e | e <;> rw [e] <;> rfl
 refine jG h32 ?_
 refine fun w hw=>zKQ (c:=48 + g.toNat) (by omega) ?_
 refine hg hw ?_
 clear hw w
 refine zMQ (a:=[103]) (b:=[u8 (48 + g.toNat)]) (by simp) ?_
 show HG B _ (xO.call (some ⟨d,0,none⟩) (bs (xH g)) 40960 _)
 refine vw (zJ d D) ?_
 refine fun w hw=>zEs (name:=xH g) (size:=40960) (by unfold xH; simp) (by omega) hD hw (fun _ l w hD1 hw=>?_) fun hne=>?_
 rotate_left
 ·rw [hload] at hne; exact absurd rfl hne
 rw [hload] at hw hD1
 simp only at hw hD1
 refine hg hw ?_
 clear hw w
 refine s_f ?_ (by rfl)
 refine zI8 fun vb=>?_
 refine jI fun gb=>?_
 refine vw (xG l d W) ?_
 have hsm:∀ r ∈ W.recs,r.length ≤ 1000000:=fun r hr=>by
  rw [hL.recs] at hr
  obtain ⟨x,hx,rfl⟩:=List.mem_map.1 hr
  have:=xQ 9 x (by have:=hL.lt x hx; omega)
  unfold qW; simp; omega
 refine fun w hw=>zC1 hL.ok hsm hw fun s w hw=>?_
 refine hg hw ?_
 clear hw w
 refine zNa fun rs hrs=>?_
 rw [hL.recs] at hrs
 have hlen:rs.length = L.length:=by have:=congrArg List.length hrs; simpa using this
 have hrl:=hL.ok.few
 rw [hL.recs,List.length_map] at hrl
 refine zFC s fun c1 c2 c3 c4=>?_
 rw [List.length_map,Nat.mul_one] at c1
 refine qm (Δ:=zBR vb 0::SlC zR 1 s (rs.map vW)::Sep.stars (rs.map vk)::blk gb (.cells (zDe l vb).toArray xW (0,0))::xG l d W::KpR kp d ep v mb::qK (Value.int .i64) Value.pointer mb M::zJ d D1::Γ) ?_
 refine zBk (α:=Int) (ι:=Nat) (fun y i=>y = (i:Int)∧i ≤ L.length) (fun y i=>zBR vb ((vO (L.take i):Nat):Int)::SlC zR 1 s (rs.map vW)::Sep.stars (rs.map vk)::blk gb (.cells (zDe l vb).toArray xW (0,0))::xG l d W::KpR kp d ep v mb::qK (Value.int .i64) Value.pointer mb M::zJ d D1::Γ) (fun y i=>L.length - i) 0 ⟨rfl,Nat.zero_le _⟩ ?_ (by simp [vO])
 rintro k' _ i ⟨rfl,hi⟩ hk'
 unfold yP.b1
 refine zAy (fun hb=>?_) fun hb=>?_
 ·have hil:i < L.length:=by simp only [decide_eq_true_eq] at hb; omega
  have hgr:rs[i]? = some rs[i]:=List.getElem?_eq_getElem (by omega)
  have hmr:rs[i] ∈ rs:=List.getElem_mem (by omega)
  have hrec:(rs[i]).2 = qW L[i]:=by
   have:=congrArg (·[i]?) hrs
   simp only [List.getElem?_map,hgr,List.getElem?_eq_getElem hil,Option.map_some,Option.some.injEq] at this
   exact this
  have htk:L.take (i + 1) = L.take i++[L[i]]:=List.take_succ_eq_append_getElem hil
  have hlt:=hL.lt L[i] (List.getElem_mem hil)
  have hle:vO (L.take i) ≤ L[i]:=zKd fun y hy=>by
   have h1:=hL.srt
   rw [← List.take_append_drop i L,List.pairwise_append] at h1
   exact h1.2.2 y hy L[i] (by rw [List.drop_eq_getElem_cons hil]; exact List.mem_cons_self)
  generalize rs[i] = r at hgr hmr hrec
  refine zCo (c:=Sl.val) (L:=rs.map Prod.fst) (j:=i) (x:=r.1) (fun w hw=>by rw [List.map_map]; exact (zCm (s:=s) hw).1) (by rw [List.getElem?_map,hgr]; rfl) ?_
  refine vV (b:=gb) (off:=1) (l:=zDe l vb) (x:=some ⟨vb,0,none⟩) ?_
  refine zHv (n:=L[i]) hlt (by omega) (fun w hw=>?_) ?_
  ·obtain ⟨Δ,hd⟩:=zHw (Γ:=[]) (F:=vk) hmr (hw.drops (Δ:=[Sep.stars (rs.map vk)]))
   rw [← hrec]
   exact Bytes.rd hd List.mem_cons_self
  refine s_f ?_ (by rfl)
  refine zIs ?_
  have:=hk' ((i:Int) + 1) (i + 1) ⟨by simp,hil⟩ (by omega)
  rw [htk,zEX] at this
  exact this
 ·have hil:i = L.length:=by simp only [decide_eq_false_iff_not] at hb; omega
  rw [hil,List.take_length]
  refine vV (b:=kp) (off:=3) (l:=kpL d ep v mb) (x:=some mb) ?_
  refine zMT (b:=mb) (m:=M) (a:=g) (cV:=Value.pointer) (enc:=Value.int .i64) (v:=some ⟨gb,0,none⟩) (cG:=Value.pointer) rfl zMZ (zA0 .i64) ?_
  refine qm (Δ:=zEt gb d l vb W ((vO L:Nat):Int) (KpR kp d ep v mb::qK (Value.int .i64) Value.pointer mb (yN g (some ⟨gb,0,none⟩) M)::zJ d D1::Γ)) ?_
  refine zLm ?_
  exact qm (h gb hD1)
abbrev zFU (d:Nat) (Wf:Int→qc) (Lf:Int→List Nat) (G:List (Int×Nat)):zC:=Sep.stars (G.map fun p=>zC3 p.2 d (Wf p.1) ((vO (Lf p.1):Nat):Int))
abbrev zC4 (G:List (Int×Nat)):List (Int×Option Addr):=G.map fun p=>(p.1,some ⟨p.2,0,none⟩)
theorem zKg {G:List (Int×Nat)} {g:Int} (h:g ∉ G.map Prod.fst):zW g (zC4 G) = none:=by
 induction G with
 | nil=>rfl
 | cons p G ih=>
  simp only [List.map_cons,List.mem_cons,not_or] at h
  simp only [zC4,List.map_cons,zW]
  rw [if_neg h.1]
  exact ih h.2
theorem zIZ {gs:List Int} {s:Sl} {clock ep:Nat} {v:Bool} {Wf:Int→qc} {Lf:Int→List Nat} {q:Option Addr→Int→K}
  (hgs:∀ g ∈ gs,0 ≤ g∧g ≤ 3) (hnd:gs.Nodup) (hl:gs.length ≤ 2) (hr:∀ w,Holds B Γ w→RdC w s 1 (gs.map (Value.int .i64))) (hD:OkD D) (hlife:zC2 D ep v) (hm:max ep clock < 18446744073709551615)
  (hload:(D.save xA (qE (max ep clock + 1) v)).2 = 0→∀ g ∈ gs,(vR (xH g) 40960).load (D.save xA (qE (max ep clock + 1) v)).1 = ((D.save xA (qE (max ep clock + 1) v)).1,Wf g,0)∧zKe (Wf g) (Lf g))
  (hbad:(D.save xA (qE (max ep clock + 1) v)).2 ≠ 0→OkD (D.save xA (qE (max ep clock + 1) v)).1→HG B (zJ d (D.save xA (qE (max ep clock + 1) v)).1::Γ) (q none (D.save xA (qE (max ep clock + 1) v)).2))
  (hok:∀ kp mb G,(D.save xA (qE (max ep clock + 1) v)).2 = 0→OkD (D.save xA (qE (max ep clock + 1) v)).1→G.map Prod.fst = gs →
   HG B (KpR kp d (max ep clock + 1) v mb::qK (Value.int .i64) Value.pointer mb (zC4 G)::zFU d Wf Lf G::zJ d (D.save xA (qE (max ep clock + 1) v)).1::Γ) (q (some ⟨kp,0,none⟩) 0)) :
  HG B (zJ d D::Γ) (zu.call (some ⟨d,0,none⟩) s (clock:Int) q):=fun w hw=>by
 refine zDb _ _ _ _ _ ?_
 have hsn:s.n = gs.length:=by have:=(hr w hw.tail).len; rw [List.length_map] at this; omega
 refine hg hw ?_
 clear hw w
 unfold zu
 refine zIN (enc:=Value.int .i64) (cV:=Value.int .i64) fun sb=>?_
 refine zBk (α:=Int) (ι:=Nat×List (Int×Int)) (fun y i=>y = (i.1:Int)∧i.1 ≤ gs.length∧∀ g,zW g i.2 = if g ∈ gs.take i.1 then some 1 else none) (fun y i=>qK (Value.int .i64) (Value.int .i64) sb i.2::zJ d D::Γ) (fun y i=>gs.length - i.1) (0,[]) ⟨rfl,Nat.zero_le _,fun g=>by simp [zW]⟩ ?_
 rintro k' _ ⟨i,M⟩ ⟨rfl,hi,hM⟩ hk'
 simp only at hi hM hk' ⊢
 unfold zu.b1
 refine zAy (fun hb=>?_) fun hb=>?_
 ·have hil:i < gs.length:=by simp only [decide_eq_true_eq] at hb; omega
  have hge:gs[i]? = some gs[i]:=List.getElem?_eq_getElem hil
  have htk:gs.take (i + 1) = gs.take i++[gs[i]]:=List.take_succ_eq_append_getElem hil
  have hno:gs[i] ∉ gs.take i:=fun hm=>by
   have h1:=hnd
   rw [← List.take_append_drop i gs] at h1
   exact (List.nodup_append.1 h1).2.2 _ hm _ (by rw [List.drop_eq_getElem_cons hil]; exact List.mem_cons_self) rfl
  obtain ⟨g0,g3⟩:=hgs _ (List.getElem_mem hil)
  generalize gs[i] = g at hge htk hno g0 g3
  refine zCo (L:=gs) (c:=Value.int .i64) (j:=i) (x:=g) (fun w hw=>hr w (hw.drops (Δ:=Γ))) hge ?_
  refine zGE (b:=sb) (m:=M) (a:=g) (cV:=Value.int .i64) (cG:=Value.int .i64) (g:=id) (z:=(0:Int)) (enc:=Value.int .i64) (fun _=>rfl) zKc (zA0 .i64) zDD ?_
  rw [hM g,if_neg hno,Option.getD_none]
  refine jG (show IntKind.wrap .i64 (id (0:Int) + 1) = 1 by rfl) ?_
  refine zMT (b:=sb) (m:=M) (a:=g) (cV:=Value.int .i64) (enc:=Value.int .i64) (v:=(1:Int)) (cG:=Value.int .i64) rfl zKc (zA0 .i64) ?_
  refine s_f ?_ (by simp; omega)
  refine s_f ?_ (by simp; omega)
  refine zGE (b:=sb) (m:=yN g 1 M) (a:=g) (cV:=Value.int .i64) (cG:=Value.int .i64) (g:=id) (z:=(0:Int)) (enc:=Value.int .i64) (fun _=>rfl) zKc (zA0 .i64) zDD ?_
  rw [y5,if_pos rfl,Option.getD_some]
  refine s_f ?_ (by rfl)
  rw [show decide ((2:Int) < (s.n:Int)) = false by simp; omega]
  unfold zu.s2
  refine s_f ?_ (by rfl)
  refine zIs ?_
  refine hk' ((i:Int) + 1) (i + 1,yN g 1 M) ⟨by simp,hil,fun x=>?_⟩ (by simp only; omega)
  simp only
  rw [y5,htk]
  by_cases e:x = g
  ·rw [if_pos e,if_pos (by simp [e])]
  ·rw [if_neg e,hM x]
   simp [e]
 refine qm (Δ:=zJ d D::Γ) ?_
 refine zIN (enc:=Value.int .i64) (cV:=Value.pointer) fun mb=>?_
 refine jI fun kp=>?_
 refine qm (Δ:=KpR kp d 0 false mb::zJ d D::qK (Value.int .i64) Value.pointer mb ([]:List (Int×Option Addr))::Γ) ?_
 refine zKb hD hlife hm fun ho=>?_
 generalize hS:D.save xA (qE (max ep clock + 1) v) = S at hload hbad hok ho ⊢
 obtain ⟨D1,e⟩:=S
 simp only at hload hbad hok ho ⊢
 by_cases he:e = 0
 rotate_left
 ·refine s_t ?_ (by simpa using he)
  exact qm (hbad he ho)
 subst he
 refine s_f ?_ (by rfl)
 have hload:=hload rfl
 refine fun w hw=>hg (show Holds B (zFU d Wf Lf []::_) w from hw.zAD) ?_
 clear hw w
 refine qm (Δ:=KpR kp d (max ep clock + 1) v mb::qK (Value.int .i64) Value.pointer mb ([]:List (Int×Option Addr))::zJ d D1::zFU d Wf Lf []::Γ) ?_
 refine zBk (α:=Int) (ι:=Nat×List (Int×Nat)) (fun y i=>y = (i.1:Int)∧i.1 ≤ gs.length∧i.2.map Prod.fst = gs.take i.1) (fun y i=>KpR kp d (max ep clock + 1) v mb::qK (Value.int .i64) Value.pointer mb (zC4 i.2)::zJ d D1::zFU d Wf Lf i.2::Γ) (fun y i=>gs.length - i.1) (0,[]) ⟨rfl,Nat.zero_le _,rfl⟩ ?_
 rintro k2 _ ⟨i2,G⟩ ⟨rfl,hi2,hG⟩ hk2
 simp only at hi2 hG hk2 ⊢
 unfold zu.b3
 refine zAy (fun hb2=>?_) fun hb2=>?_
 ·have hil:i2 < gs.length:=by simp only [decide_eq_true_eq] at hb2; omega
  have hge:gs[i2]? = some gs[i2]:=List.getElem?_eq_getElem hil
  have hmem:gs[i2] ∈ gs:=List.getElem_mem hil
  have htk:gs.take (i2 + 1) = gs.take i2++[gs[i2]]:=List.take_succ_eq_append_getElem hil
  have hno:gs[i2] ∉ gs.take i2:=fun hm=>by
   have h1:=hnd
   rw [← List.take_append_drop i2 gs] at h1
   exact (List.nodup_append.1 h1).2.2 _ hm _ (by rw [List.drop_eq_getElem_cons hil]; exact List.mem_cons_self) rfl
  obtain ⟨g0,g3⟩:=hgs _ hmem
  obtain ⟨ld1,ld2⟩:=hload _ hmem
  generalize gs[i2] = g at hge htk hno g0 g3 ld1 ld2
  refine zCo (L:=gs) (c:=Value.int .i64) (j:=i2) (x:=g) (fun w hw=>hr w (hw.drops (Δ:=Γ))) hge ?_
  refine zKf (D1:=D1) (W:=Wf g) (L:=Lf g) g0 g3 ho ld1 ld2 fun gb _=>?_
  refine s_f ?_ (by rfl)
  refine zIs ?_
  rw [uI (zKg (by rw [hG]; exact hno))]
  refine qm (Δ:=zC3 gb d (Wf g) ((vO (Lf g):Nat):Int)::zFU d Wf Lf G::KpR kp d (max ep clock + 1) v mb::qK (Value.int .i64) Value.pointer mb (zC4 G++[(g,some ⟨gb,0,none⟩)])::zJ d D1::Γ) ?_
  have:=hk2 ((i2:Int) + 1) (i2 + 1,G++[(g,gb)]) ⟨by simp,hil,by rw [List.map_append,hG,htk]; rfl⟩ (by simp only; omega)
  refine zLn (F:=fun p:Int×Nat=>zC3 p.2 d (Wf p.1) ((vO (Lf p.1):Nat):Int)) (A:=G) (x:=(g,gb)) ?_
  rw [show zC4 G++[(g,some ⟨gb,0,none⟩)] = zC4 (G++[(g,gb)]) by simp [zC4]]
  exact qm this
 ·have hil:i2 = gs.length:=by simp only [decide_eq_false_iff_not] at hb2; omega
  rw [hil,List.take_length] at hG
  exact qm (hok kp mb G rfl ho hG)
end
end
section
open Go Go.Sep
theorem zEY {n n':List UInt8} (hn:n' ≠ n):∀ fs:Files,zW n' (xU n fs) = zW n' fs
 | []=>rfl
 | p::fs=>by
  unfold xU
  split
  ·rename_i h
   rw [zW,if_neg (by rw [← h]; exact hn)]
  ·simp only [zW]
   split
   ·rfl
   ·exact zEY hn fs
theorem zEZ {n:List UInt8} {p:List UInt8×qP}:∀ {fs:Files},p ∈ xU n fs→p ∈ fs
 | [],h=>h
 | x::fs,h=>by
  unfold xU at h
  split at h
  ·exact List.mem_cons_of_mem _ h
  ·rcases List.mem_cons.1 h with rfl | h
   ·exact List.mem_cons_self
   ·exact List.mem_cons_of_mem _ (zEZ h)
theorem zAS {n:List UInt8} {v:qP} {p:List UInt8×qP}:∀ {fs:Files},p ∈ yN n v fs→p = (n,v)∨p ∈ fs
 | [],h=>.inl (by simpa [yN] using h)
 | x::fs,h=>by
  unfold yN at h
  split at h
  ·rcases List.mem_cons.1 h with rfl | h
   ·exact .inl rfl
   ·exact .inr (List.mem_cons_of_mem _ h)
  ·rcases List.mem_cons.1 h with rfl | h
   ·exact .inr List.mem_cons_self
   ·exact (zAS h).imp id (List.mem_cons_of_mem _)
theorem zBJ (a:DkA) (hd:a.down = false):(chg a).1.room = a.room∧((chg a).2 = 0∧(chg a).1.down = false∨(chg a).2 = 3∧(chg a).1.down = true):=by
 unfold chg
 split
 ·exact ⟨rfl,.inr ⟨rfl,rfl⟩⟩
 split
 ·exact ⟨rfl,.inl ⟨rfl,hd⟩⟩
 ·exact ⟨rfl,.inl ⟨rfl,hd⟩⟩
def sfF (x:List UInt8):qP:=⟨yU x,(yU x).length⟩
structure Saved (D:zD) (n x:List UInt8) (R:zD×Int):Prop where
 room:R.1.a.room = D.a.room
 two:(R.2 = 0∧zW n R.1.files = some (sfF x)∧R.1.a.down = false)∨(R.2 = 3∧zW n R.1.files = zW n D.files∧R.1.a.down = true)
 oth:∀ m,m ≠ n→m ≠ zm n→zW m R.1.files = zW m D.files
 mem:∀ p ∈ R.1.files,p ∈ D.files∨((p.1 = n∨p.1 = zm n)∧p.2.data = yU x)
theorem zKh (n:List UInt8):n ≠ zm n:=fun h=>by have:=congrArg List.length h; simp [zm] at this
theorem zHG {D:zD} {n x:List UInt8} (hD:OkD D) (hd:D.a.down = false) (hn:1 ≤ n.length∧n.length ≤ 15) (hf:D.files.length < 32) (hr:(y7 D.files:Int) + (yU x).length ≤ D.a.room):Saved D n x (D.save n x):=by
 have hne:=zKh n
 have hn0:n ≠ []:=fun h=>by rw [h] at hn; simp at hn
 have hnn:named n = true:=by unfold named; simp [hn0]; omega
 have hnx:named (zm n) = true:=by unfold named zm; simp; omega
 unfold zD.save
 rw [if_neg (by
         rintro (h | h); · exact hn0 h
         ·omega)]
 have h0:∀ E:zD,OkD E→E.a.down = false→E.a.room = D.a.room→E.files.length < 32→(y7 E.files:Int) ≤ y7 D.files→zW (zm n) E.files = none→(∀ m,m ≠ zm n→zW m E.files = zW m D.files)→(∀ p ∈ E.files,p ∈ D.files)→Saved D n x (zHE E n x):=by
  intro E hE e1 e2 e3 e4 e5 e6 e7
  obtain ⟨c1,c2⟩:=zBJ E.a e1
  unfold zHE
  have hap:E.append (zm n) (yU x) = (⟨(chg E.a).1,yN (zm n) ⟨yU x,0⟩ E.files⟩,(chg E.a).2):=by
   unfold zD.append
   rw [if_neg (by rw [e1]; decide),if_neg (by rw [hnx]; decide),if_neg (by rw [e2]; omega),e5]
   rfl
  rw [hap]
  have oth1:∀ (v:qP) m,m ≠ n→m ≠ zm n→zW m (yN (zm n) v E.files) = zW m D.files:=fun v m h1 h2=>by rw [y5,if_neg h2]; exact e6 m h2
  have mem1:∀ (v:qP),v.data = yU x→∀ p ∈ yN (zm n) v E.files,p ∈ D.files∨((p.1 = n∨p.1 = zm n)∧p.2.data = yU x):=fun v hv p hp=>by
   rcases zAS hp with rfl | hp
   ·exact .inr ⟨.inr rfl,hv⟩
   ·exact .inl (e7 p hp)
  rcases c2 with ⟨c2,c3⟩ | ⟨c2,c3⟩
  rotate_left
  ·rw [if_pos (by rw [c2]; decide)]
   exact ⟨by simp only; rw [c1,e2],.inr ⟨c2,by simp only; rw [y5,if_neg hne]; exact e6 n hne,c3⟩,oth1 _,mem1 _ rfl⟩
  rw [if_neg (by rw [c2]; decide)]
  simp only
  unfold zIW
  obtain ⟨d1,d2⟩:=zBJ (chg E.a).1 c3
  have hsy:(⟨(chg E.a).1,yN (zm n) ⟨yU x,0⟩ E.files⟩:zD).sync (zm n) = (⟨(chg (chg E.a).1).1,if (chg (chg E.a).1).2 = 0 then yN (zm n) (sfF x) (yN (zm n) ⟨yU x,0⟩ E.files) else yN (zm n) ⟨yU x,0⟩ E.files⟩,(chg (chg E.a).1).2):=by
   unfold zD.sync
   rw [if_neg (by simp only; rw [c3]; decide)]
   simp only
   rw [y5,if_pos rfl]
   rfl
  rw [hsy]
  rcases d2 with ⟨d2,d3⟩ | ⟨d2,d3⟩
  rotate_left
  ·rw [if_pos (by simp only; rw [d2]; decide)]
   rw [if_neg (by rw [d2]; decide)]
   exact ⟨by simp only; rw [d1,c1,e2],.inr ⟨d2,by simp only; rw [y5,if_neg hne]; exact e6 n hne,d3⟩,oth1 _,mem1 _ rfl⟩
  rw [if_neg (by simp only; rw [d2]; decide)]
  simp only
  rw [if_pos d2]
  unfold zKP
  obtain ⟨f1,f2⟩:=zBJ (chg (chg E.a).1).1 d3
  have hrn:(⟨(chg (chg E.a).1).1,yN (zm n) (sfF x) (yN (zm n) ⟨yU x,0⟩ E.files)⟩:zD).rename (zm n) n = (⟨(chg (chg (chg E.a).1).1).1,if (chg (chg (chg E.a).1).1).2 = 0 then yN n (sfF x) (xU (zm n) (yN (zm n) (sfF x) (yN (zm n) ⟨yU x,0⟩ E.files))) else yN (zm n) (sfF x) (yN (zm n) ⟨yU x,0⟩ E.files)⟩,(chg (chg (chg E.a).1).1).2):=by
   unfold zD.rename
   rw [if_neg (by simp only; rw [d3]; decide)]
   simp only
   rw [y5,if_pos rfl]
   simp only
   rw [if_neg (by rw [hnn]; decide)]
  rw [hrn]
  have oth2:∀ m,m ≠ n→m ≠ zm n→zW m (yN (zm n) (sfF x) (yN (zm n) ⟨yU x,0⟩ E.files)) = zW m D.files:=fun m h1 h2=>by rw [y5,if_neg h2]; exact oth1 _ m h1 h2
  have mem2:∀ p ∈ yN (zm n) (sfF x) (yN (zm n) ⟨yU x,0⟩ E.files),p ∈ D.files∨((p.1 = n∨p.1 = zm n)∧p.2.data = yU x):=fun p hp=>by
   rcases zAS hp with rfl | hp
   ·exact .inr ⟨.inr rfl,rfl⟩
   ·exact mem1 _ rfl p hp
  rcases f2 with ⟨f2,f3⟩ | ⟨f2,f3⟩
  rotate_left
  ·rw [if_neg (by rw [f2]; decide)]
   exact ⟨by simp only; rw [f1,d1,c1,e2],.inr ⟨f2,by simp only; rw [y5,if_neg hne,y5,if_neg hne]; exact e6 n hne,f3⟩,oth2,mem2⟩
  rw [if_pos f2]
  refine ⟨by simp only; rw [f1,d1,c1,e2],.inl ⟨f2,by simp only; rw [y5,if_pos rfl],f3⟩,fun m h1 h2=>?_,fun p hp=>?_⟩
  ·simp only
   rw [y5,if_neg h1,zEY h2]
   exact oth2 m h1 h2
  ·simp only at hp
   rcases zAS hp with rfl | hp
   ·exact .inr ⟨.inl rfl,rfl⟩
   ·exact mem2 p (zEZ hp)
 cases hm:zW (zm n) D.files with
 | none=>
  have hrm:D.remove (zm n) = (D,60):=by unfold zD.remove; rw [if_neg (by rw [hd]; decide),hm]
  rw [hrm,if_neg (by simp)]
  exact h0 D hD hd rfl hf (Int.le_refl _) hm (fun _ _=>rfl) fun p hp=>hp
 | some f=>
  obtain ⟨c1,c2⟩:=zBJ D.a hd
  have hrm:D.remove (zm n) = (⟨(chg D.a).1,if (chg D.a).2 = 0 then xU (zm n) D.files else D.files⟩,(chg D.a).2):=by unfold zD.remove; rw [if_neg (by rw [hd]; decide),hm]
  rw [hrm]
  rcases c2 with ⟨c2,c3⟩ | ⟨c2,c3⟩
  ·rw [if_neg (by rw [c2]; simp),if_pos c2]
   obtain ⟨g1,g2,g3,g4⟩:=hD.del hm
   refine h0 _ (OkD.chg g1) c3 c1 ?_ ?_ g2 (fun m hmn=>zEY hmn _) fun p hp=>zEZ hp
   ·simp only; omega
   ·simp only; omega
  ·rw [if_pos (by rw [c2]; decide)]
   rw [if_neg (by rw [c2]; decide)]
   exact ⟨c1,.inr ⟨c2,rfl,c3⟩,fun _ _ _=>rfl,fun p hp=>.inl hp⟩
end
section
open Go Go.Sep
theorem zEa {α:Type} [DecidableEq α]:∀ {l S:List α},l.Nodup→(∀ x ∈ l,x ∈ S)→l.length ≤ S.length
 | [],_,_,_=>Nat.zero_le _
 | x::l,S,hn,h=>by
  obtain ⟨h1,h2⟩:=List.nodup_cons.1 hn
  have hx:=h x List.mem_cons_self
  have h3:=zEa (l:=l) (S:=S.erase x) h2 fun y hy=>(List.mem_erase_of_ne (fun e=>h1 (by rw [← e]; exact hy))).2 (h y (List.mem_cons_of_mem _ hy))
  rw [List.length_erase_of_mem hx] at h3
  have:=List.length_pos_of_mem hx
  simp only [List.length_cons]; omega
def zAb (D:zD) (S:List (List UInt8)) (b:Nat):Prop:=∀ p ∈ D.files,p.1 ∈ S∧p.2.data.length ≤ b
theorem zCS {D:zD} {S:List (List UInt8)} {b:Nat} (hD:OkD D) (h:zAb D S b):D.files.length ≤ S.length∧y7 D.files ≤ b * S.length:=by
 have h1:D.files.length ≤ S.length:=by
  have:=zEa hD.nodup fun x hx=>by obtain ⟨p,hp,rfl⟩:=List.mem_map.1 hx; exact (h p hp).1
  simpa using this
 have h2:∀ fs:Files,(∀ p ∈ fs,p.2.data.length ≤ b)→y7 fs ≤ b * fs.length:=by
  intro fs
  induction fs with
  | nil=>intro _; simp [y7]
  | cons p fs ih=>
   intro hp
   have a1:=hp p List.mem_cons_self
   have a2:=ih fun y hy=>hp y (List.mem_cons_of_mem _ hy)
   simp only [y7,List.length_cons]
   rw [Nat.mul_succ]; omega
 have h3:=h2 D.files fun p hp=>(h p hp).2
 have h4:b * D.files.length ≤ b * S.length:=Nat.mul_le_mul_left _ h1
 exact ⟨h1,by omega⟩
theorem zEb {fs:Files} {n:List UInt8} (h:∀ p ∈ fs,p.1 ≠ n):zW n fs = none:=by
 induction fs with
 | nil=>rfl
 | cons p fs ih=>
  simp only [zW]
  rw [if_neg (fun e=>h p List.mem_cons_self e.symm)]
  exact ih fun y hy=>h y (List.mem_cons_of_mem _ hy)
theorem Saved.bnd {D:zD} {n x:List UInt8} {R:zD×Int} {S:List (List UInt8)} {b:Nat} (h:Saved D n x R) (hb:zAb D S b) (h1:n ∈ S) (h2:zm n ∈ S) (h3:(yU x).length ≤ b):zAb R.1 S b:=fun p hp=>by
 rcases h.mem p hp with hp | ⟨hp,hd⟩
 ·exact hb p hp
 ·refine ⟨?_,by rw [hd]; exact h3⟩
  rcases hp with hp | hp <;> rw [hp] <;> assumption
theorem zJA {D:zD} {S:List (List UInt8)} {b:Nat} (ks:List Int) (hb:zAb D S b):zAb (D.crash ks) S b:=fun p hp=>by
 have hp:p ∈ xE ks D.file D.names:=hp
 unfold xE at hp
 obtain ⟨⟨n,i⟩,hi,rfl⟩:=List.mem_map.1 hp
 have hn:n ∈ D.names:=(List.mem_zipIdx hi).2.2 ▸ List.getElem_mem _
 obtain ⟨y,hy⟩:=zAO (zBF.1 hn)
 have hm:=hb _ (zCJ hy)
 refine ⟨hm.1,?_⟩
 have hf:D.file n = y:=by unfold zD.file; rw [hy]; rfl
 simp only [xX,hf,List.length_take]
 have:=hm.2
 simp only at this
 omega
theorem zKi {D:zD} (hD:OkD D) (ks:List Int) {n x:List UInt8} (h:zW n D.files = some (sfF x)):zW n (D.crash ks).files = some (sfF x):=by
 obtain ⟨i,hi⟩:=zEU hD ks h
 rw [hi,zHF ks i rfl]
theorem zC5 {D:zD} {name:List UInt8} (hd:D.a.down = false):∀ f part:Nat,part + f ≤ 10→(∀ i,part ≤ i→i ≤ 9→zW (yI name i) D.files = none)→zCN name f part D = (D,0)
 | 0,_,_,_=>rfl
 | f + 1,part,hp,hn=>by
  have h1:D.remove (yI name (part + f)) = (D,60):=by
   unfold zD.remove
   rw [if_neg (by rw [hd]; decide),hn _ (by omega) (by omega)]
  unfold zCN
  rw [h1,if_neg (by simp)]
  exact zC5 hd f part (by omega) hn
theorem zC6 {D:zD} {name:List UInt8} {size:Int} (hd:D.a.down = false) (hn:∀ i,i ≤ 9→zW (yI name i) D.files = none):(vR name size).load D = (D,vR name size,0):=by
 have h1:D.read (yI name 0) = ([],60):=by
  unfold zD.read
  rw [if_neg (by rw [hd]; decide),hn 0 (by omega)]
 have h2:vU name 10 0 D (vR name size) = (D,vR name size,0,0):=by
  unfold vU
  rw [h1,if_pos rfl]
 unfold qc.load
 rw [show (vR name size).name = name from rfl,h2]
 simp only
 rw [if_neg (by simp),zC5 hd 10 0 (by omega) fun i _ hi=>hn i hi]
theorem zHH {g:Int}:zKe (vR (xH g) 40960) []:=⟨⟨by simp [vR,xH],by simp [vR],by simp [vR],by simp [vR],by simp [vR]⟩,rfl,by simp,by simp⟩
theorem zIa {D:zD} {n x:List UInt8} (hD:OkD D) (hF:Free D) (hn:1 ≤ n.length∧n.length ≤ 15) (hf:D.files.length < 32) (hr:(y7 D.files:Int) + (yU x).length ≤ D.a.room):Saved D n x (D.save n x)∧(D.save n x).2 = 0∧Free (D.save n x).1:=by
 have hs:=zHG hD hF.down hn hf hr
 have hn0:n ≠ []:=fun h=>by rw [h] at hn; simp at hn
 have hml:(xU (zm n) D.files).length ≤ D.files.length∧y7 (xU (zm n) D.files) ≤ y7 D.files:=by
  cases hm:zW (zm n) D.files with
  | none=>rw [zCy hm]; exact ⟨Nat.le_refl _,Nat.le_refl _⟩
  | some f=>
   obtain ⟨_,_,g3,g4⟩:=hD.del hm
   omega
 have hq:=zI4 (x:=x) hD hF.left hF.down hn0 hn.2 (by omega) (by omega)
 rw [hq] at hs ⊢
 exact ⟨hs,rfl,⟨hF.left,hF.down⟩⟩
theorem zIb {D:zD} {ep:Nat} {v:Bool} (hd:D.a.down = false) (h:zW xA D.files = some (sfF (qE ep v))):zC2 D ep v:=by
 left
 unfold zD.read
 rw [if_neg (by rw [hd]; decide),h]
 rfl
theorem zFV {D:zD} (hd:D.a.down = false) (h:zW xA D.files = none):zC2 D 0 false:=by
 right
 refine ⟨rfl,rfl,?_⟩
 unfold zD.read
 rw [if_neg (by rw [hd]; decide),h]
theorem zKj (g:Int) (i:Nat):∀ n ∈ [xA,zm xA,STATE,zm STATE],n ≠ yI (xH g) i:=by
 intro n hn
 simp only [List.mem_cons,List.not_mem_nil,or_false] at hn
 rcases hn with rfl | rfl | rfl | rfl <;> simp [yI,xH,zm]
theorem zC7 {room:Int}:Free (zD.new room):=⟨rfl,rfl⟩
abbrev S4:List (List UInt8):=[xA,zm xA,STATE,zm STATE]
theorem lpk {ep:Nat} {v:Bool} (h:ep < 18446744073709551616):(yU (qE ep v)).length ≤ 40:=by
 have h1:=zBI (v:=v) h
 have h2:=zCK _ (qE ep v) rfl
 have h3:=xQ 0 (qE ep v).length (by omega)
 unfold yU
 rw [List.length_append,yM]
 have h4:((qE ep v).length + 1023) / 1024 ≤ 1:=by omega
 omega
section
variable {B:World} {Γ Δ:List zC} {k:K} {d:Nat} {D:zD}
theorem zHI {s:Sl} {clock ep:Nat} {v:Bool} {q:Option Addr→Int→K} (hD:OkD D) (hF:Free D) (hb:zAb D S4 5040) (hroom:21000 ≤ D.a.room∨zAb D S4 40∧1000 ≤ D.a.room) (hr:∀ w,Holds B Γ w→RdC w s 1 ([(0:Int)].map (Value.int .i64))) (hlife:zC2 D ep v) (hm:max ep clock < 1000000)
  (h:∀ kp mb D1,OkD D1→Free D1→zAb D1 S4 5040→D1.a.room = D.a.room→(∀ n,n ≠ xA→n ≠ zm xA→zW n D1.files = zW n D.files)→zW xA D1.files = some (sfF (qE (max ep clock + 1) v)) →
   HG B (KpR kp d (max ep clock + 1) v mb::zJ d D1::Γ) (q (some ⟨kp,0,none⟩) 0)) :
  HG B (zJ d D::Γ) (zu.call (some ⟨d,0,none⟩) s (clock:Int) q):=by
 obtain ⟨u1,u2⟩:=zCS hD hb
 simp only [List.length_cons,List.length_nil] at u1 u2
 have hlp:=lpk (ep:=max ep clock + 1) (v:=v) (by omega)
 obtain ⟨s1,s2,s3⟩:=zIa (n:=xA) (x:=qE (max ep clock + 1) v) hD hF (by decide) (by omega) (by
  rcases hroom with hroom | ⟨hb40,hroom⟩
  ·omega
  ·obtain ⟨v1,v2⟩:=zCS hD hb40
   simp only [List.length_cons,List.length_nil] at v1 v2
   omega)
 have hb1:=s1.bnd hb (by simp) (by simp) (by omega)
 refine zIZ (gs:=[0]) (Wf:=fun g=>vR (xH g) 40960) (Lf:=fun _=>[]) (by simp) (by simp) (by simp) hr hD hlife (by omega) (fun _ g hg=>⟨?_,zHH⟩) (fun hne _=>absurd s2 hne) fun kp mb G _ ho _=>?_
 ·exact zC6 s3.down fun i hi=>zEb fun p hp=>zKj g i _ (hb1 p hp).1
 ·rcases s1.two with ⟨_,t2,_⟩ | ⟨t1,_,_⟩
  ·exact qm (h kp mb _ ho s3 hb1 s1.room s1.oth t2)
  ·rw [s2] at t1; exact absurd t1 (by decide)
theorem zCT {kp mb ep:Nat} {v:Bool} {q:Int→K} (h:HG B (KpR kp d ep v mb::Γ) (q (ep:Int))):HG B (KpR kp d ep v mb::Γ) (yS.call (some ⟨kp,0,none⟩) q):=by
 refine fun w hw=>zAP _ _ _ ?_
 refine hg hw ?_
 clear hw w
 unfold yS
 refine jS ?_
 refine vV (b:=kp) (off:=1) (l:=kpL d ep v mb) (x:=(ep:Int)) ?_
 exact h
theorem zEc {kp mb ep:Nat} {v:Bool} {q:Bool→K} (h:HG B (KpR kp d ep v mb::Γ) (q v)):HG B (KpR kp d ep v mb::Γ) (yg.call (some ⟨kp,0,none⟩) q):=by
 refine fun w hw=>zAQ _ _ _ ?_
 refine hg hw ?_
 clear hw w
 unfold yg
 refine jS ?_
 refine vV (b:=kp) (off:=2) (l:=kpL d ep v mb) (x:=v) ?_
 exact h
theorem zBq {room:Int} {q:Option Addr→Int→K} (h1:1 ≤ room) (h2:room ≤ 1048576) (h:∀ d,HG B (zJ d (.new room)::Γ) (q (some ⟨d,0,none⟩) 0)):HG B Γ (xB.call room q):=fun w hw=>zKN hw (fun hb=>by omega) fun d w _ _ hw=>h d w hw
theorem zIc {room:Int} (h1:1 ≤ room) (h2:room ≤ 1048576):OkD (.new room):=okN h1 h2
theorem zEd {room:Int} {q:Int→K} (h1:1000 ≤ room) (h2:room ≤ 1048576) (h:∀ D1,OkD D1→Free D1→zAb D1 S4 40→D1.a.room = room→zW xA D1.files = some (sfF (qE 0 true))→(∀ n,n ≠ xA→n ≠ zm xA→zW n D1.files = none)→HG B (zJ d D1::Γ) (q 0)) :
  HG B (zJ d (.new room)::Γ) (ql.call (some ⟨d,0,none⟩) q):=by
 have hlp:=lpk (ep:=0) (v:=true) (by omega)
 obtain ⟨s1,s2,s3⟩:=zIa (D:=.new room) (n:=xA) (x:=qE 0 true) (zIc (by omega) h2) zC7 (by decide) (by simp [zD.new]) (by
  show ((0:Nat):Int) + _ ≤ room
  omega)
 refine zI9 (zIc (by omega) h2) fun ho=>?_
 rw [s2]
 refine h _ ho s3 (s1.bnd (fun p hp=>by cases hp) (by simp) (by simp) hlp) s1.room ?_ fun n a b=>by rw [s1.oth n a b]; rfl
 rcases s1.two with ⟨_,t2,_⟩ | ⟨t1,_,_⟩
 ·exact t2
 ·rw [s2] at t1; exact absurd t1 (by decide)
theorem zAb.up {D:zD} {S:List (List UInt8)} {a b:Nat} (h:zAb D S a) (hab:a ≤ b):zAb D S b:=fun p hp=>⟨(h p hp).1,Nat.le_trans (h p hp).2 hab⟩
theorem zKk {q:Bool→K} (h:HG B Γ (q true)):HG B Γ (yE.call q):=by
 refine fun w hw=>zDd _ _ ?_
 refine hg hw ?_
 clear hw w
 unfold yE
 refine zBq (by omega) (by omega) fun d1=>?_
 refine zBq (by omega) (by omega) fun d2=>?_
 refine s_f ?_ (by rfl)
 refine s_f ?_ (by rfl)
 refine vw (zJ d1 (.new 1000)) ?_
 refine zEd (by omega) (by omega) fun D1 o1 f1 b1 r1 l1 _=>?_
 unfold yE.s1
 refine s_f ?_ (by rfl)
 refine jI fun t30=>?_
 refine vw (zJ d1 D1) ?_
 refine zHI (clock:=0) (ep:=0) (v:=true) o1 f1 (b1.up (by omega)) (.inr ⟨b1,by omega⟩) (fun w hw=>?_) (zIb f1.down l1) (by omega) fun k1 m1 D1' _ _ _ _ _ _=>?_
 ·have:=zCn (B:=B) (esz:=1) (k:=1) (t:=t30) (cs:=[.int .i64 0]) rfl w hw
  exact this
 refine jI fun t36=>?_
 refine vw (zJ d2 (.new 1000)) ?_
 refine zHI (clock:=7) (ep:=0) (v:=false) (zIc (by omega) (by omega)) zC7 (fun p hp=>by cases hp) (.inr ⟨fun p hp=>(by cases hp),by simp [zD.new]⟩) (fun w hw=>?_) (zFV rfl rfl) (by omega) fun k2 m2 D2' _ _ _ _ _ _=>?_
 ·have:=zCn (B:=B) (esz:=1) (k:=1) (t:=t36) (cs:=[.int .i64 0]) rfl w hw
  exact this
 refine s_t ?_ (by rfl)
 refine s_t ?_ (by rfl)
 refine vw (KpR k1 d1 (max 0 0 + 1) true m1) ?_
 refine zCT ?_
 refine s_t ?_ (by rfl)
 refine zEc ?_
 refine s_t ?_ (by rfl)
 refine vw (KpR k2 d2 (max 0 7 + 1) false m2) ?_
 refine zCT ?_
 refine s_t ?_ (by rfl)
 refine zEc ?_
 unfold yE.s2
 exact qm h
end
end
section
open Go Go.Sep
def zDO:Sh:=(.sl (.int .i64) 1)
theorem zOf:zGr Tryz.prog 9 32 = zDO:=by kernel_rfl
end
section
open Go Go.Sep
theorem zOg (n:Int):0 ≤ bitsOf .and .i64 n 7∧bitsOf .and .i64 n 7 ≤ 7:=by
 unfold bitsOf
 simp only
 have h1:((BitVec.ofInt IntKind.i64.bits n &&& BitVec.ofInt IntKind.i64.bits 7).toNat) ≤ 7:=by
  rw [BitVec.toNat_and]
  exact Nat.le_trans Nat.and_le_right (by decide)
 rw [wrap64 (by omega) (by omega)]
 omega
theorem zOh {D:zD} {c:Int} (h:OkD D) (h0:0 ≤ c) (h7:c ≤ 7):OkD { D with a:={ D.a with left:=if -1 > c then -1 else c } }:=⟨h.room1,h.roomN,h.used,h.few,by rw [if_neg (by omega)]; exact ⟨by simp only; omega,by simp only; omega⟩,h.last,h.nodup⟩
section
variable {B:World} {Γ Δ:List zC} {q:Bool→K}
theorem zKl {d:Nat} {D:zD} {s:Sl} {ks:List Int} {q:Option Addr→K} (hD:OkD D) (hr:∀ w,Holds B Γ w→RdC w s 1 (ks.map (Value.int .i64))) (h:∀ o,HG B (zJ o (D.crash ks)::zJ d D::Γ) (q (some ⟨o,0,none⟩))):HG B (zJ d D::Γ) (z8.call (some ⟨d,0,none⟩) s q):=fun w hw=>zHq hD hw hr fun o w hw=>h o w hw
end
end
section
open Go Go.Sep
abbrev G20:List UInt8:=yI (xH 2) 0
abbrev S3:List (List UInt8):=[xA,zm xA,G20]
def xY (L:List Nat):qc:=⟨xH 2,40960,0,(uW (L.map qW)).length,false,L.map qW⟩
theorem zKm:xY [] = vR (xH 2) 40960:=rfl
theorem zKn {D:zD} {name:List UInt8} {size:Int} {f:qP} {recs:List (List UInt8)} (hd:D.a.down = false) (hm:zW (yI name 0) D.files = some f) (hp:qI f.data = (recs,f.data.length)) (hn:∀ i,1 ≤ i→i ≤ 9→zW (yI name i) D.files = none):(vR name size).load D = (D,⟨name,size,0,f.data.length,false,recs⟩,0):=by
 have h1:D.read (yI name 0) = (f.data,0):=by
  unfold zD.read
  rw [if_neg (by rw [hd]; decide),hm]
 have h2:D.read (yI name 1) = ([],60):=by
  unfold zD.read
  rw [if_neg (by rw [hd]; decide),hn 1 (by omega) (by omega)]
 have h3:vU name 10 0 D (vR name size) = (D,⟨name,size,0,f.data.length,false,recs⟩,1,0):=by
  unfold vU
  rw [h1]
  simp only
  rw [if_neg (by decide),if_neg (by decide),hp,if_pos rfl]
  unfold vU
  rw [h2,if_pos rfl]
  simp [vR]
 unfold qc.load
 rw [show (vR name size).name = name from rfl,h3]
 simp only
 rw [if_neg (by simp),zC5 hd 9 1 (by omega) fun i h1 hi=>hn i h1 hi]
theorem zCU {n:Nat} (h:n < 18446744073709551616):(qW n).length ≤ 11:=by
 have:=xQ 9 n (by omega)
 unfold qW; simp; omega
def zGK (D:zD) (L:List Nat):Prop:=(zW G20 D.files = none∧L = [])∨zW G20 D.files = some ⟨uW (L.map qW),(uW (L.map qW)).length⟩
def zHJ (D:zD) (ep:Nat) (v:Bool):Prop:=zW xA D.files = some (sfF (qE ep v))∨(ep = 0∧v = false∧zW xA D.files = none)
structure LvI (D:zD) (last:Nat) (v:Bool) (b:Nat):Prop where
 ok:OkD D
 fr:Free D
 room:D.a.room = 10000
 bd:zAb D S3 60
 life:zHJ D last v
 log:∃ L:List Nat,(L = []∨L = [b])∧zGK D L
structure LvM (D:zD) (last:Nat) (v:Bool) (b:Nat):Prop where
 room:D.a.room = 10000
 bd:zAb D S3 60
 life:zHJ D last v
 log:(∃ L:List Nat,(L = []∨L = [b])∧zGK D L)∨zW G20 D.files = some ⟨zU (qW b),0⟩
theorem zFW {D:zD} (hD:OkD D) {n:List UInt8} {f:qP} (h:zW n D.files = some f):zW n (D.crash []).files = some ⟨f.data.take f.last,f.last⟩:=by
 obtain ⟨i,hi⟩:=zEU hD [] h
 rw [hi]
 have h0:uV [] i f = 0:=rfl
 unfold xX
 rw [h0]; rfl
theorem LvM.crash {D:zD} {last b:Nat} {v:Bool} (hD:OkD D) (h:LvM D last v b):LvI (D.crash []) last v b:=by
 refine ⟨hD.crash [],zHs,h.room,zJA [] h.bd,?_,?_⟩
 ·rcases h.life with h1 | ⟨h1,h2,h3⟩
  ·exact .inl (zKi hD [] h1)
  ·exact .inr ⟨h1,h2,zDM [] h3⟩
 ·rcases h.log with ⟨L,h1,h2⟩ | h2
  ·refine ⟨L,h1,?_⟩
   rcases h2 with ⟨h2,h3⟩ | h2
   ·exact .inl ⟨zDM [] h2,h3⟩
   ·right
    rw [zFW hD h2]
    simp
  ·refine ⟨[],.inl rfl,.inr ?_⟩
   rw [zFW hD h2]
   rfl
theorem zJB {g:Int} (h0:0 ≤ g) (h3:g ≤ 3) {i:Nat} (hi:i ≤ 9) (hh:g ≠ 2∨i ≠ 0):∀ n ∈ S3,n ≠ yI (xH g) i:=by
 intro n hn
 simp only [List.mem_cons,List.not_mem_nil,or_false] at hn
 rcases hn with rfl | rfl | rfl
 ·simp [yI,xH]
 ·simp [yI,xH,zm]
 ·intro e
  simp only [yI,xH,List.cons_append,List.nil_append,List.cons.injEq,and_true,true_and] at e
  obtain ⟨e1,e2⟩:=e
  have e1:=congrArg UInt8.toNat e1
  have e2:=congrArg UInt8.toNat e2
  rw [u8N,u8N] at e1 e2
  have h2:(2:Int).toNat = 2:=rfl
  rw [h2] at e1
  omega
theorem zKo {D:zD} {b:Nat} {L:List Nat} (hb:b < 18446744073709551616) (hd:D.a.down = false) (hbd:zAb D S3 60) (hL:L = []∨L = [b]) (hlog:zGK D L) :
  ∀ g ∈ [(0:Int),2],(vR (xH g) 40960).load D = (D,if g = 2 then xY L else vR (xH g) 40960,0)∧zKe (if g = 2 then xY L else vR (xH g) 40960) (if g = 2 then L else []):=by
 have none:∀ (g:Int) (i:Nat),0 ≤ g→g ≤ 3→i ≤ 9→(g ≠ 2∨i ≠ 0)→zW (yI (xH g) i) D.files = Option.none:=fun g i h0 h3 hi hh=>zEb fun p hp=>zJB h0 h3 hi hh _ (hbd p hp).1
 intro g hg
 simp only [List.mem_cons,List.not_mem_nil,or_false] at hg
 rcases hg with rfl | rfl
 ·rw [if_neg (by decide),if_neg (by decide)]
  exact ⟨zC6 hd fun i hi=>none 0 i (by omega) (by omega) hi (.inl (by decide)),zHH⟩
 ·rw [if_pos rfl,if_pos rfl]
  have hsm:Small (L.map qW):=by
   intro r hr
   obtain ⟨x,hx,rfl⟩:=List.mem_map.1 hr
   have:x = b:=by
    rcases hL with rfl | rfl
    ·cases hx
    ·exact List.mem_singleton.1 hx
   subst this
   have:=zCU hb
   omega
  have hlen:(uW (L.map qW)).length ≤ 60:=by
   rcases hL with rfl | rfl
   ·simp [uW]
   ·have:=zCU hb
    simp only [List.map_cons,List.map_nil,zEV,yM]; omega
  have hP:zKe (xY L) L:=⟨⟨by simp [xY,xH],by simp [xY],by simp [xY],by simp only [xY]; omega,by rcases hL with rfl | rfl <;> simp [xY]⟩,rfl,by rcases hL with rfl | rfl <;> simp,by
   rcases hL with rfl | rfl
   ·simp
   ·intro x hx; rw [List.mem_singleton.1 hx]; exact hb⟩
  refine ⟨?_,hP⟩
  rcases hlog with ⟨h1,rfl⟩ | h1
  ·rw [zKm]
   refine zC6 hd fun i hi=>?_
   by_cases e:i = 0
   ·rw [e]; exact h1
   ·exact none 2 i (by omega) (by omega) hi (.inr e)
  ·exact zKn hd h1 (zI6 hsm) fun i h1 hi=>none 2 i (by omega) (by omega) hi (.inr (by omega))
def uZ (W:qc) (D:zD) (r:List UInt8):zD×qc×Int :=
 if (W.app D r).2.2 ≠ 0 then W.app D r else (W.app D r).2.1.uL (W.app D r).1
theorem zKp {D:zD} {b:Nat} (hb:b < 18446744073709551616) (hD:OkD D) (hd:D.a.down = false) (hf:D.files.length < 32) (hr:(y7 D.files:Int) + 60 ≤ D.a.room) (hlog:zGK D []) :
  OkW ((xY []).app D (qW b)).2.1∧(uZ (xY []) D (qW b)).1.a.room = D.a.room∧(∀ m,m ≠ G20→zW m (uZ (xY []) D (qW b)).1.files = zW m D.files)∧(∀ p ∈ (uZ (xY []) D (qW b)).1.files,p ∈ D.files∨p.1 = G20∧p.2.data = zU (qW b)) ∧
  ((uZ (xY []) D (qW b)).2.2 = 0∧zW G20 (uZ (xY []) D (qW b)).1.files = some ⟨zU (qW b),(zU (qW b)).length⟩∨(uZ (xY []) D (qW b)).2.2 ≠ 0∧zW G20 (uZ (xY []) D (qW b)).1.files = some ⟨zU (qW b),0⟩):=by
 have hlen:(zU (qW b)).length ≤ 17:=by rw [yM]; have:=zCU hb; omega
 have hnm:named G20 = true:=by decide
 obtain ⟨c1,c2⟩:=zBJ D.a hd
 have hold:(zW G20 D.files).getD ⟨[],0⟩ = ⟨[],0⟩:=by
  rcases hlog with ⟨h1,_⟩ | h1 <;> rw [h1] <;> rfl
 have hap:D.append G20 (zU (qW b)) = (⟨(chg D.a).1,yN G20 ⟨zU (qW b),0⟩ D.files⟩,(chg D.a).2):=by
  unfold zD.append
  rw [if_neg (by rw [hd]; decide),if_neg (by rw [hnm]; decide),if_neg (by omega),hold]
  rfl
 have happ:(xY []).app D (qW b) = if (chg D.a).2 ≠ 0 then (⟨(chg D.a).1,yN G20 ⟨zU (qW b),0⟩ D.files⟩,xY [],(chg D.a).2) else (⟨(chg D.a).1,yN G20 ⟨zU (qW b),0⟩ D.files⟩,⟨xH 2,40960,0,0 + (zU (qW b)).length,true,[qW b]⟩,0):=by
  unfold qc.app
  rw [if_neg (by simp [xY,uW])]
  unfold qc.put
  rw [show yI (xY []).name (xY []).part = G20 from rfl,hap]
  split <;> rfl
 have mem1:∀ (v:qP) (fs:Files),v.data = zU (qW b)→(∀ p ∈ fs,p ∈ D.files∨p.1 = G20∧p.2.data = zU (qW b))→∀ p ∈ yN G20 v fs,p ∈ D.files∨p.1 = G20∧p.2.data = zU (qW b):=fun v fs hv hfs p hp=>by
  rcases zAS hp with rfl | hp
  ·exact .inr ⟨rfl,hv⟩
  ·exact hfs p hp
 unfold uZ
 rw [happ]
 rcases c2 with ⟨c2,c3⟩ | ⟨c2,c3⟩
 rotate_left
 ·rw [if_pos (by rw [c2]; decide)]
  simp only
  rw [if_pos (by rw [c2]; decide)]
  refine ⟨⟨by simp [xY,xH],by simp [xY],by simp [xY],by simp [xY,uW],by simp [xY]⟩,c1,fun m hm=>by rw [y5,if_neg hm],mem1 _ _ rfl fun p hp=>.inl hp,.inr ⟨by rw [c2]; decide,by rw [y5,if_pos rfl]⟩⟩
 ·rw [if_neg (by rw [c2]; decide)]
  simp only
  rw [if_neg (by decide)]
  obtain ⟨d1,d2⟩:=zBJ (chg D.a).1 c3
  have hsy:(⟨(chg D.a).1,yN G20 ⟨zU (qW b),0⟩ D.files⟩:zD).sync G20 = (⟨(chg (chg D.a).1).1,if (chg (chg D.a).1).2 = 0 then yN G20 ⟨zU (qW b),(zU (qW b)).length⟩ (yN G20 ⟨zU (qW b),0⟩ D.files) else yN G20 ⟨zU (qW b),0⟩ D.files⟩,(chg (chg D.a).1).2):=by
   unfold zD.sync
   rw [if_neg (by simp only; rw [c3]; decide)]
   simp only
   rw [y5,if_pos rfl]
  have hsw:(⟨xH 2,40960,0,0 + (zU (qW b)).length,true,[qW b]⟩:qc).uL ⟨(chg D.a).1,yN G20 ⟨zU (qW b),0⟩ D.files⟩ = ((⟨(chg D.a).1,yN G20 ⟨zU (qW b),0⟩ D.files⟩:zD).sync G20 |>.1,⟨xH 2,40960,0,0 + (zU (qW b)).length,decide (((⟨(chg D.a).1,yN G20 ⟨zU (qW b),0⟩ D.files⟩:zD).sync G20).2 ≠ 0),[qW b]⟩,((⟨(chg D.a).1,yN G20 ⟨zU (qW b),0⟩ D.files⟩:zD).sync G20).2):=by
   unfold qc.uL
   rw [if_neg (by simp)]
  rw [hsw,hsy]
  refine ⟨⟨by simp [xH],by simp,by simp,by simp only; omega,by simp⟩,by simp only; rw [d1,c1],fun m hm=>?_,?_,?_⟩
  ·simp only
   split
   ·rw [y5,if_neg hm,y5,if_neg hm]
   ·rw [y5,if_neg hm]
  ·simp only
   split
   ·exact mem1 _ _ rfl (mem1 _ _ rfl fun p hp=>.inl hp)
   ·exact mem1 _ _ rfl fun p hp=>.inl hp
  ·simp only
   rcases d2 with ⟨d2,d3⟩ | ⟨d2,d3⟩
   ·exact .inl ⟨d2,by rw [if_pos d2,y5,if_pos rfl]⟩
   ·exact .inr ⟨by rw [d2]; decide,by rw [if_neg (by rw [d2]; decide),y5,if_pos rfl]⟩
end
section
open Go Go.Sep
theorem zOi (n:Int):∃ c:Nat,bitsOf .and .u64 n 3 = (c:Int)∧c ≤ 3:=by
 unfold bitsOf
 simp only
 have h1:((BitVec.ofInt IntKind.u64.bits n &&& BitVec.ofInt IntKind.u64.bits 3).toNat) ≤ 3:=by
  rw [BitVec.toNat_and]
  exact Nat.le_trans Nat.and_le_right (by decide)
 refine ⟨_,?_,h1⟩
 rw [zAU (by omega) (by omega)]
section
variable {B:World} {Γ Δ:List zC}
theorem zLo {g p d l vb:Nat} {D:zD} {W:qc} {r:List UInt8} {pr:Int} {q:Int→K} (hD:OkD D) (hW:OkW W) (hr:r.length ≤ 4000) (hW2:OkW (W.app D r).2.1)
  (h:OkD (uZ W D r).1→HG B (zEt g d l vb (uZ W D r).2.1 pr (zJ d (uZ W D r).1::Γ)) (q (uZ W D r).2.2)) :
  HG B (zBm p r::zEt g d l vb W pr (zJ d D::Γ)) (qZ.call (some ⟨g,0,none⟩) (some ⟨p,0,none⟩) q):=by
 refine fun w hw=>zAh _ _ _ _ ?_
 refine hg hw ?_
 clear hw w
 unfold qZ
 refine zLc ?_
 refine zMU [blk g (.cells (zDe l vb).toArray xW (0,0))] ?_
 refine jS ?_
 refine zGx (b:=g) (l:=zDe l vb) (x:=some ⟨l,0,none⟩) ?_
 refine zIR (by omega) fun s=>?_
 refine zNO ?_
 refine qm (Δ:=xG l d W::zJ d D::Bytes zV s r::blk g (.cells (zDe l vb).toArray xW (0,0))::zBR vb pr::Γ) ?_
 refine fun w hw=>zDa hD hW (by omega) (fun w hw=>Bytes.rd hw List.mem_cons_self) hw fun w o1 hw=>?_
 refine hg hw ?_
 clear hw w
 by_cases he:(W.app D r).2.2 ≠ 0
 ·have hn:uZ W D r = W.app D r:=by unfold uZ; rw [if_pos he]
  rw [hn] at h
  refine s_t ?_ (by simpa using he)
  refine qm (Δ:=zEt g d l vb (W.app D r).2.1 pr (zJ d (W.app D r).1::Γ)) ?_
  exact h o1
 ·have hn:uZ W D r = (W.app D r).2.1.uL (W.app D r).1:=by unfold uZ; rw [if_neg he]
  rw [hn] at h
  refine s_f ?_ (by simpa using he)
  refine vV (b:=g) (l:=zDe l vb) (x:=some ⟨l,0,none⟩) ?_
  refine fun w hw=>zBX o1 hW2 hw fun w o2 hw=>?_
  refine hg hw ?_
  clear hw w
  refine qm (Δ:=zEt g d l vb ((W.app D r).2.1.uL (W.app D r).1).2.1 pr (zJ d ((W.app D r).2.1.uL (W.app D r).1).1::Γ)) ?_
  exact h o2
theorem zHK {kp d ep mb a c b:Nat} {v:Bool} {D:zD} {L:List Nat} {q:Sl→Bool→Int→K} (hb:b < 18446744073709551616) (hL:L = []∨L = [b]) (hD:OkD D) (hd:D.a.down = false) (hbd:zAb D S3 60) (hrm:D.a.room = 10000) (hlog:zGK D L)
  (h:∀ D1 ok e,OkD D1→(v = false→ok = false)→D1.a.room = D.a.room→zAb D1 S3 60→(∀ m,m ≠ G20→zW m D1.files = zW m D.files)→((∃ L:List Nat,(L = []∨L = [b])∧zGK D1 L)∨zW G20 D1.files = some ⟨zU (qW b),0⟩)→HG B (KpR kp d ep v mb::zJ d D1::Γ) (q vH ok e)) :
  HG B (KpR kp d ep v mb::qK (Value.int .i64) Value.pointer mb (zC4 [(0,a),(2,c)])::zC3 c d (xY L) ((vO L:Nat):Int)::zJ d D::Γ) (zN.call (some ⟨kp,0,none⟩) 2 (b:Int) 0 q):=by
 refine fun w hw=>jk _ _ _ _ _ _ ?_
 refine hg hw ?_
 clear hw w
 unfold zN
 refine jS ?_
 refine vV (b:=kp) (off:=3) (l:=kpL d ep v mb) (x:=some mb) ?_
 refine zGE (b:=mb) (m:=zC4 [(0,a),(2,c)]) (a:=(2:Int)) (cV:=Value.pointer) (cG:=Value.pointer) (g:=id) (z:=(none:Option Addr)) (enc:=Value.int .i64) (fun _=>rfl) zMZ (zA0 .i64) zAI ?_
 rw [show id ((zW (2:Int) (zC4 [(0,a),(2,c)])).getD none) = some ⟨c,0,none⟩ by rfl]
 refine vV (b:=kp) (off:=2) (l:=kpL d ep v mb) (x:=v) ?_
 have same:∀ {ok:Bool} {e:Int} {Ψ:List zC},[dd:Drops Ψ (KpR kp d ep v mb::zJ d D::Γ)]→(v = false→ok = false)→HG B Ψ (q vH ok e):=fun {ok e Ψ dd} hv=>qm (d:=dd) (h D ok e hD hv rfl hbd (fun _ _=>rfl) (.inl ⟨L,hL,hlog⟩))
 cases v with
 | false=>
  refine s_t ?_ (by rfl)
  unfold zN.s1
  refine s_t ?_ (by rfl)
  exact same fun _=>rfl
 | true=>
  have hp:(vO L:Nat) ≤ b:=by rcases hL with rfl | rfl <;> simp [vO]
  refine s_f ?_ (by rfl)
  refine s_f ?_ (by rfl)
  refine jS ?_
  refine vw (zC3 c d (xY L) ((vO L:Nat):Int)) ?_
  refine zOe fun l vb=>?_
  refine vV (b:=c) (off:=1) (l:=zDe l vb) (x:=some ⟨vb,0,none⟩) ?_
  refine zAM vb ?_
  refine zDN ?_
  rw [show decide ((b:Int) < ((vO L:Nat):Int)) = false by simp; omega]
  unfold zN.s1
  refine s_f ?_ (by rfl)
  refine jS ?_
  refine vV (b:=c) (off:=1) (l:=zDe l vb) (x:=some ⟨vb,0,none⟩) ?_
  refine zAM vb ?_
  refine zDN ?_
  refine zAy (fun hlt=>?_) fun hlt=>?_
  ·obtain rfl:L = []:=by
    rcases hL with h1 | h1
    ·exact h1
    ·subst h1; simp [vO] at hlt
   obtain ⟨u1,u2⟩:=zCS hD hbd
   simp only [List.length_cons,List.length_nil] at u1 u2
   obtain ⟨m1,m2,m3,m4,m5⟩:=zKp hb hD hd (by omega) (by omega) hlog
   have hrl:=zCU hb
   refine zFI fun p=>?_
   refine zGG (b:=1) (by simp) ?_
   refine zKK (n:=b) (by omega) (by simp) ?_
   rw [show ([]:List UInt8)++[1]++uU b = qW b from rfl]
   refine qm (Δ:=zBm p (qW b)::zEt c d l vb (xY []) ((vO []:Nat):Int) (zJ d D::KpR kp d ep true mb::Γ)) ?_
   refine zLo hD ⟨by simp [xY,xH],by simp [xY],by simp [xY],by simp [xY,uW],by simp [xY]⟩ (by omega) m1 fun o1=>?_
   have hbd1:zAb (uZ (xY []) D (qW b)).1 S3 60:=fun p hp=>by
    rcases m4 p hp with hp | ⟨h1,h2⟩
    ·exact hbd p hp
    ·exact ⟨by rw [h1]; simp,by rw [h2,yM]; omega⟩
   generalize uZ (xY []) D (qW b) = R at m2 m3 m4 m5 o1 hbd1 ⊢
   obtain ⟨D1,W1,e⟩:=R
   simp only at m2 m3 m4 m5 o1 hbd1 ⊢
   rcases m5 with ⟨e0,m5⟩ | ⟨e0,m5⟩
   ·refine s_f ?_ (by rw [e0]; rfl)
    unfold zN.s2
    refine jS ?_
    refine vV (b:=c) (off:=1) (l:=zDe l vb) (x:=some ⟨vb,0,none⟩) ?_
    refine zAM vb ?_
    refine zA7 (fun h1=>by simp only [vO,List.foldl_nil] at h1; omega) fun _=>?_
    refine qm (Δ:=KpR kp d ep true mb::zJ d D1::Γ) ?_
    exact h D1 true 0 o1 (fun h=>by cases h) m2 hbd1 m3 (.inl ⟨[b],.inr rfl,.inr (by simp only [List.map_cons,List.map_nil,zEV]; exact m5)⟩)
   ·refine s_t ?_ (by simpa using e0)
    refine qm (Δ:=KpR kp d ep true mb::zJ d D1::Γ) ?_
    exact h D1 false e o1 (fun h=>by cases h) m2 hbd1 m3 (.inr m5)
  ·unfold zN.s2
   refine jS ?_
   refine vV (b:=c) (off:=1) (l:=zDe l vb) (x:=some ⟨vb,0,none⟩) ?_
   refine zAM vb ?_
   refine zA7 (fun h1=>by omega) fun _=>?_
   exact same fun h=>by cases h
theorem zHJ.is {D:zD} {ep:Nat} {v:Bool} (hd:D.a.down = false) (h:zHJ D ep v):zC2 D ep v:=by
 rcases h with h | ⟨rfl,rfl,h⟩
 ·exact zIb hd h
 ·exact zFV hd h
theorem zDf {s:Sl} {L:List Int} {wiped:Bool} {b:Nat} {q:Bool→K} (hb:b < 18446744073709551616) (hs:RdC B s 1 (L.map (Value.int .i64))) (h:HG B Γ (q true)):HG B Γ (zI.call s wiped (b:Int) q):=fun w hw=>by
 refine zAi _ _ _ _ _ ?_
 have hsn:s.n = L.length:=by have:=hs.len; rw [List.length_map] at this; omega
 refine hg hw ?_
 clear hw w
 unfold zI
 refine zKk ?_
 refine s_f ?_ (by rfl)
 refine zAy (fun _=>h) fun hl=>?_
 have hl20:L.length ≤ 20:=by simp only [decide_eq_false_iff_not] at hl; omega
 refine zBq (by omega) (by omega) fun d=>?_
 refine s_f ?_ (by rfl)
 have S1:∀ {D:zD},LvI D 0 (!wiped) b→HG B (zJ d D::Γ) (zI.s1 q s wiped (b:Int) (some ⟨d,0,none⟩) false):=fun {D} hI=>by
  unfold zI.s1
  refine s_f ?_ (by rfl)
  refine zBk (α:=Bool×Option Addr×Int×Int) (ι:=Nat×Nat×Nat×zD) (fun y i=>y = (wiped,some ⟨i.2.2.1,0,none⟩,(i.2.1:Int),(i.1:Int))∧i.1 ≤ L.length∧i.2.1 ≤ 4 * i.1∧LvI i.2.2.2 i.2.1 (!wiped) b) (fun y i=>zJ i.2.2.1 i.2.2.2::Γ) (fun y i=>L.length - i.1) (0,0,d,D) ⟨rfl,Nat.zero_le _,by simp,hI⟩ ?_
  rintro k' _ ⟨i,last,d,D⟩ ⟨rfl,hi,hla,hI⟩ hk'
  simp only at hi hla hI hk' ⊢
  unfold zI.b2
  refine zAy (fun hb1=>?_) fun hb1=>qm h
  have hil:i < L.length:=by simp only [decide_eq_true_eq] at hb1; omega
  refine zCo (L:=L) (c:=Value.int .i64) (j:=i) (x:=L[i]) (fun w hw=>hs.old hw) (List.getElem?_eq_getElem hil) ?_
  generalize L[i] = n
  obtain ⟨a0,a7⟩:=zOg n
  refine jG rfl ?_
  generalize bitsOf .and .i64 n 7 = n7 at a0 a7
  refine fun w hw=>zHr hw fun w hw=>?_
  refine hg hw ?_
  clear hw w
  have o1:=zOh hI.ok a0 a7
  generalize hD1:({ D with a:={ D.a with left:=if -1 > n7 then -1 else n7 } }:zD) = D1 at o1 ⊢
  have dn1:D1.a.down = false:=by rw [← hD1]; exact hI.fr.down
  have rm1:D1.a.room = 10000:=by rw [← hD1]; exact hI.room
  have bd1:zAb D1 S3 60:=by rw [← hD1]; exact hI.bd
  have lf1:zHJ D1 last (!wiped):=by rw [← hD1]; exact hI.life
  have lg1:∃ L:List Nat,(L = []∨L = [b])∧zGK D1 L:=by rw [← hD1]; exact hI.log
  obtain ⟨u1,u2⟩:=zCS o1 bd1
  simp only [List.length_cons,List.length_nil] at u1 u2
  refine jI fun t49=>?_
  refine jG rfl ?_
  refine zIt (by omega) ?_
  refine jG rfl ?_
  obtain ⟨cl,hcl,hcl3⟩:=zOi (uY .u64 (IntKind.wrap .u64 n) 3)
  refine jG hcl ?_
  have hlp:=lpk (ep:=max last cl + 1) (v:=!wiped) (by omega)
  have sv:=zHG (n:=xA) (x:=qE (max last cl + 1) (!wiped)) o1 dn1 (by decide) (by omega) (by omega)
  have bd2:=sv.bnd bd1 (by simp) (by simp) (by omega)
  have rm2:=sv.room
  have oth2:=sv.oth
  have two2:=sv.two
  obtain ⟨LL,hLL,hlog⟩:=lg1
  have hlog2:zGK (D1.save xA (qE (max last cl + 1) (!wiped))).1 LL:=by
   unfold zGK at hlog ⊢
   rw [oth2 G20 (by decide) (by decide)]
   exact hlog
  have again:∀ {Ψ:List zC} {o:Nat} {D':zD} {la:Nat},[dd:Drops Ψ (zJ o D'::Γ)]→LvI D' la (!wiped) b→la ≤ 4 * (i + 1)→HG B Ψ (k' (wiped,some ⟨o,0,none⟩,(la:Int),(i:Int) + 1)):=fun {Ψ o D' la dd} hI' hla'=>qm (d:=dd) (hk' (wiped,some ⟨o,0,none⟩,(la:Int),(i:Int) + 1) (i + 1,la,o,D') ⟨by simp,hil,hla',hI'⟩ (by simp only; omega))
  have S3':∀ {D':zD} {la:Nat} {Ψ:List zC},OkD D'→LvM D' la (!wiped) b→la ≤ 4 * (i + 1)→[dd:Drops Ψ Γ]→HG B (zJ d D'::Ψ) (zI.s3 q (fun y1 y2 y3 y4=>k' (y1,y2,y3,y4)) wiped (b:Int) (some ⟨d,0,none⟩) (la:Int) s (s.n:Int) (i:Int)):=fun {D' la Ψ} hD' hM hla' dd=>by
   unfold zI.s3
   refine zKl (ks:=[]) hD' (fun w hw=>RdC.none') fun o=>?_
   refine s_f ?_ (by rfl)
   refine zIs ?_
   exact again (hM.crash hD') hla'
  refine vw (zJ d D1) ?_
  refine zIZ (gs:=[0,2]) (Wf:=fun g=>if g = 2 then xY LL else vR (xH g) 40960) (Lf:=fun g=>if g = 2 then LL else []) (by simp) (by simp) (by simp) (fun w hw=>?_) o1 (lf1.is dn1) (by omega) (fun e0=>?_) (fun hne ho=>?_) fun kp mb G e0 ho hG=>?_
  ·have h9:RdC w ⟨some ⟨t49,0,none⟩,1,1⟩ 2 [.int .i64 0,.int .i64 2]:=zCn (B:=B) (esz:=2) (k:=1) (t:=t49) (cs:=[.int .i64 0,.int .i64 2]) rfl w hw
   exact ⟨by simp,fun h=>(by cases h),fun a ha i hi=>h9.at' a ha i hi⟩
  ·refine zKo hb ?_ bd2 hLL hlog2
   rcases two2 with ⟨_,_,h3⟩ | ⟨h3,_,_⟩
   ·exact h3
   ·rw [e0] at h3; exact absurd h3 (by decide)
  ·rcases two2 with ⟨h1,_,_⟩ | ⟨h1,h2,_⟩
   ·exact absurd h1 hne
   refine s_f ?_ (by rfl)
   refine s_f ?_ (by rw [h1]; rfl)
   refine S3' (la:=last) ho ⟨by rw [rm2,rm1],bd2,?_,.inl ⟨LL,hLL,hlog2⟩⟩ (by omega)
   rcases lf1 with l1 | ⟨l1,l2,l3⟩
   ·exact .inl (by rw [h2]; exact l1)
   ·exact .inr ⟨l1,l2,by rw [h2]; exact l3⟩
  ·have hlife2:zW xA (D1.save xA (qE (max last cl + 1) (!wiped))).1.files = some (sfF (qE (max last cl + 1) (!wiped)))∧(D1.save xA (qE (max last cl + 1) (!wiped))).1.a.down = false:=by
    rcases two2 with ⟨_,h2,h3⟩ | ⟨h1,_,_⟩
    ·exact ⟨h2,h3⟩
    ·rw [e0] at h1; exact absurd h1 (by decide)
   obtain ⟨hlife2,dn2⟩:=hlife2
   generalize (D1.save xA (qE (max last cl + 1) (!wiped))).1 = D2 at bd2 rm2 hlog2 ho hlife2 dn2 ⊢
   match G,hG with
   | [(g1,a),(g2,c)],hG=>
    simp only [List.map_cons,List.map_nil,List.cons.injEq,and_true] at hG
    obtain ⟨rfl,rfl⟩:=hG
    refine s_t ?_ (by rfl)
    refine vw (zFU d (fun g=>if g = 2 then xY LL else vR (xH g) 40960) (fun g=>if g = 2 then LL else []) [(0,a),(2,c)]) ?_
    refine zCl ?_
    show HG B (zC3 a d (vR (xH 0) 40960) ((vO []:Nat):Int)::zC3 c d (xY LL) ((vO LL:Nat):Int)::KpR kp d (max last cl + 1) (!wiped) mb::qK (Value.int .i64) Value.pointer mb (zC4 [(0,a),(2,c)])::zJ d D2::blk t49 (.cells [.int .i64 0,.int .i64 2].toArray j6 (0,0))::Γ) _
    refine qm (Δ:=KpR kp d (max last cl + 1) (!wiped) mb::qK (Value.int .i64) Value.pointer mb (zC4 [(0,a),(2,c)])::zC3 c d (xY LL) ((vO LL:Nat):Int)::zJ d D2::Γ) ?_
    refine zHK hb hLL ho dn2 bd2 (by rw [rm2,rm1]) hlog2 fun D3 ok e o3 hok r3 b3 oth3 lg3=>?_
    refine zCT ?_
    refine s_f ?_ (by simp; omega)
    refine zEc ?_
    refine s_f ?_ (by cases wiped <;> rfl)
    have hM:LvM D3 (max last cl + 1) (!wiped) b:=⟨by rw [r3,rm2,rm1],b3,.inl (by rw [oth3 xA (by decide)]; exact hlife2),lg3⟩
    have S4:HG B (KpR kp d (max last cl + 1) (!wiped) mb::zJ d D3::Γ) (zI.s4 q (fun y1 y2 y3 y4=>k' (y1,y2,y3,y4)) wiped (b:Int) (some ⟨d,0,none⟩) (some ⟨kp,0,none⟩) s (s.n:Int) (i:Int) false):=by
     unfold zI.s4
     refine s_f ?_ (by rfl)
     refine zCT ?_
     refine vw (zJ d D3) ?_
     exact S3' o3 hM (by omega)
    cases ok with
    | false=>
     refine s_f ?_ (by rfl)
     exact S4
    | true=>
     refine s_t ?_ (by rfl)
     cases wiped with
     | true=>have:=hok rfl; cases this
     | false=>exact S4
 cases wiped with
 | false=>
  refine s_t ?_ (by rfl)
  refine zEd (by omega) (by omega) fun D1 o1 f1 b1 r1 l1 n1=>?_
  refine S1 ⟨o1,f1,r1,fun p hp=>⟨?_,by have:=(b1 p hp).2; omega⟩,.inl l1,[],.inl rfl,.inl ⟨n1 G20 (by decide) (by decide),rfl⟩⟩
  have h1:=(b1 p hp).1
  simp only [List.mem_cons,List.not_mem_nil,or_false] at h1 ⊢
  rcases h1 with h1 | h1 | h1 | h1
  ·exact .inl h1
  ·exact .inr (.inl h1)
  ·exfalso
   have h2:=n1 STATE (by decide) (by decide)
   rw [← h1,jC o1.nodup hp] at h2; cases h2
  ·exfalso
   have h2:=n1 (zm STATE) (by decide) (by decide)
   rw [← h1,jC o1.nodup hp] at h2; cases h2
 | true=>
  refine s_f ?_ (by rfl)
  exact S1 ⟨zIc (by omega) (by omega),zC7,rfl,fun p hp=>(by cases hp),.inr ⟨rfl,rfl,rfl⟩,[],.inl rfl,.inl ⟨rfl,rfl⟩⟩
open Go.RowKit in
theorem zCV (W:World) (s:Sl) (y0:Rdy W zDO (Sl.val s).cells.toList) (v:Bool) (x:Int) (hx:(Lit.int .u64 x).wf = true) :
  Calls Tryz.prog 4 #[s.val,.bool v,.int .u64 x] W (Ret fun v w'=>v = .bool true∧Below W.heap.size W w'):=by
 obtain ⟨L,hL,_⟩:=zKB y0
 simp [Lit.wf,IntKind.min,IntKind.max,IntKind.signed,IntKind.bits] at hx
 obtain ⟨b,rfl⟩:=Int.eq_ofNat_of_zero_le hx.1
 exact zJ7 (zDf (Γ:=[]) (by omega) hL (fun w h=>⟨rfl,h⟩) W (Holds.start W))
end
end
end Go.Proofs.YtgmbfnboiobeaaaGreat
