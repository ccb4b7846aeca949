/- Texts of the claim FrontPlays, one behind the other. -/
import Derived.Test.YtlelhlcjaapkoaaGreatFrontPlaysM4
import Derived.Deep.OwnRows
set_option linter.all false
set_option maxRecDepth 100000
namespace Go.Proofs.YtlelhlcjaapkoaaGreat
section
open Go Go.Sep Go.Sep.Bt
abbrev itI(r:Int)(f:zIa)(y:ItG):zIa×Bool:=zCB r f y.kind y.ix y.o.tag (xA y.o.mks) (zFn y.o.t y.o.mks)
def zDw(r:Int)(L:List ItG):zIa:=L.foldl (fun f y=>(itI r f y).1) ⟨-1,[]⟩
theorem zIM(r:Int)(L:List ItG)(y:ItG):zDw r (L++[y])=(itI r (zDw r L) y).1:=by unfold zDw;rw[zhQ];rfl
def cntF(r:Int)(L:List ItG)(y:ItG):Bool:=(itI r (zDw r L) y).2
theorem zK2(r:Int)(f:zIa)(y:ItG):(itI r f y).1.last=if y.kind=2∧zFn y.o.t y.o.mks=false∧r∈xA y.o.mks∧f.last<y.ix then y.ix else f.last:=by
 unfold itI zCB;by_cases h1:r∈xA y.o.mks
 ·rw[if_neg (by simpa using h1)];by_cases h2:y.kind=1∧zFn y.o.t y.o.mks=true
  ·rw[if_pos h2,if_neg (by omega)]
  ·rw[if_neg h2];by_cases h3:y.kind=2∧zFn y.o.t y.o.mks=false∧f.last<y.ix
   ·rw[if_pos h3,if_pos ⟨h3.1,h3.2.1,h1,h3.2.2⟩]
   ·rw[if_neg h3,if_neg fun h=>h3 ⟨h.1,h.2.1,h.2.2.2⟩]
 ·rw[if_pos h1,if_neg fun h=>h1 h.2.2.1]
theorem zK3(r:Int)(f:zIa)(y:ItG)(g:zx):g∈(itI r f y).1.seen↔g∈f.seen∨(r∈xA y.o.mks∧y.kind=1∧zFn y.o.t y.o.mks=true∧y.o.tag=g):=by
 unfold itI zCB;by_cases h1:r∈xA y.o.mks
 ·rw[if_neg (by simpa using h1)];by_cases h2:y.kind=1∧zFn y.o.t y.o.mks=true
  ·rw[if_pos h2];simp only[firstM];split
   ·rename_i hm;constructor
    ·exact .inl
    ·rintro(h|⟨_,_,_,h⟩)
     ·exact h
     ·rw[←h];exact hm
   ·simp[h1,h2,eq_comm]
  ·rw[if_neg h2];have:(if y.kind=2∧zFn y.o.t y.o.mks=false∧f.last<y.ix then(({ f with last:=y.ix }:zIa),true) else(f,false)).1.seen=f.seen:=by split <;> rfl
   rw[this];constructor
   ·exact .inl
   ·rintro(h|⟨_,h3,h4,_⟩)
    ·exact h
    ·exact absurd ⟨h3,h4⟩ h2
 ·rw[if_pos h1];constructor
  ·exact .inl
  ·rintro(h|⟨h,_⟩)
   ·exact h
   ·exact absurd h h1
theorem zRv{r:Int}{g:zx}{L:List ItG}:g∈(zDw r L).seen↔∃i y,L[i]?=some y∧y.kind=1∧y.o.tag=g∧cntF r (L.take i) y=true:=by
 refine zUs (p:=fun L=>g∈(zDw r L).seen↔∃i y,L[i]?=some y∧y.kind=1∧y.o.tag=g∧cntF r (L.take i) y=true) ?_ (fun L y ih=>?_) L
 ·simp[zDw]
 ·rw[zIM,zK3,ih];have htk:∀i,i≤L.length→(L++[y]).take i=L.take i:=fun i hi=>List.take_append_of_le_length hi;constructor
  ·rintro(⟨i,z,h1,h2,h3,h4⟩|⟨h1,h2,h3,h4⟩)
   ·have hil:i<L.length:=(zgZ.1 h1).1;exact⟨i,z,by rw[zhL hil];exact h1,h2,h3,by rw[htk i (by omega)];exact h4⟩
   ·by_cases hm:g∈(zDw r L).seen
    ·obtain⟨i,z,a1,a2,a3,a4⟩:=ih.1 hm;have hil:i<L.length:=(zgZ.1 a1).1;exact⟨i,z,by rw[zhL hil];exact a1,a2,a3,by rw[htk i (by omega)];exact a4⟩
    ·refine⟨L.length,y,by simp,h2,h4,?_⟩;rw[zhU];unfold cntF itI zCB;rw[if_neg (by simpa using h1),if_pos ⟨h2,h3⟩];simp only;rw[h4];simpa using hm
  ·rintro⟨i,z,h1,h2,h3,h4⟩;by_cases hil:i<L.length
   ·rw[zhL hil] at h1;rw[htk i (by omega)] at h4;exact .inl ⟨i,z,h1,h2,h3,h4⟩
   ·have:i=L.length:=by
     have:=(zgZ.1 h1).1;simp at this;omega
    subst this;rw[zhE (by omega)] at h1;simp only[Nat.sub_self,List.getElem?_cons_zero,zg4] at h1;subst h1;right;unfold cntF itI zCB at h4;by_cases h5:r∈xA y.o.mks
    ·rw[if_neg (by simpa using h5)] at h4;by_cases h6:y.kind=1∧zFn y.o.t y.o.mks=true
     ·exact⟨h5,h6.1,h6.2,h3⟩
     ·rw[if_neg h6,if_neg (by omega)] at h4;cases h4
    ·rw[if_pos h5] at h4;cases h4
def zF7(w:World)(o:OrG):Prop:=zAn w o.t∧RdC w o.ms 3 (o.mks.flatMap mkL)
section
variable{B:World}{Γ Δ:List zB}{k:K}
abbrev zV5(b:Nat)(y:ItG):zB:=blk b (.cells (zB4 y).toArray uq (0,0))
theorem zV6{r:Int}{s:Sl}{L:List ItG}{Q:Int→K}(hs:∀w,Holds B Γ w→RdC w s 12 (L.flatMap zB4))(hsn:s.n=L.length)(hP:∀w,Holds B Γ w→∀y∈L,zF7 w y.o)(hm:∀y∈L,y.o.mks.length≤1000)(hl:L.length≤1000000)(h:HG B Γ (Q (zDw r L).last)):HG B Γ (xR.call r s Q):=fun w hw=>by
 refine zN1 _ _ _ _ ?_;refine Sep.hg hw ?_;clear hw w;unfold xR;refine qH (α:=Int×Int) (ι:=Nat) (fun x i=>x=((zDw r (L.take i)).last,(i:Int))∧i≤L.length) (fun x i=>Γ) (fun x i=>L.length-i) 0 ⟨rfl,zgW _⟩ ?_;rintro k' _ i ⟨rfl,hi⟩ hk';unfold xR.b1;refine zF (fun hb=>?_) fun hb=>?_;rotate_left
 ·have hil:i=L.length:=by simp only[zgF] at hb;omega
  rw[hil,zgQ];exact h
 have hil:i<L.length:=by simp only[zgH] at hb;omega
 have hge:L[i]?=some L[i]:=zgG hil;have htk:L.take (i+1)=L.take i++[L[i]]:=zgJ hil;have hmem:L[i]∈L:=zgX hil;generalize L[i]=y at hge htk hmem;have hrd:∀{Ψ:List zB},[Drops Ψ Γ]→∀w,Holds B Ψ w→RdC w y.o.ms 3 (y.o.mks.flatMap mkL):=fun {Ψ} _ w hw=>(hP w (hw.drops (Δ:=Γ)) y hmem).2;have hst:=zK2 r (zDw r (L.take i)) y;have nx:∀(v:Int) {Ψ:List zB},[Drops Ψ Γ]→v=(zDw r (L.take (i+1))).last→HG B Ψ (xR.s2 Q (fun y1 y2=>k' (y1,y2)) r s v (i:Int)):=fun v {Ψ} _ hv=>by
  subst hv;unfold xR.s2;refine qJ ?_;exact zA (hk' ((zDw r (L.take (i+1))).last,(i:Int)+1) (i+1) ⟨by simp,hil⟩ (by omega))
 rw[htk,zIM] at nx;refine uT zB4 zEe hs hge ?_;refine zD fun x7=>?_;refine yX (b:=x7) (l':=zB4 y) ?_;refine zh (b:=x7) (l:=zB4 y) (x:=y.kind) ?_;have no:¬(y.kind=2∧zFn y.o.t y.o.mks=false∧r∈xA y.o.mks∧(zDw r (L.take i)).last<y.ix)→HG B (zV5 x7 y::Γ) (xR.s3 Q (fun y1 y2=>k' (y1,y2)) r s (zDw r (L.take i)).last (i:Int) ⟨x7,0,none⟩ false):=fun hn=>by
  unfold xR.s3;refine s_f ?_ (by rfl);rw[if_neg hn] at hst;exact nx _ hst.symm
 refine zF (fun h1=>?_) fun h1=>no fun hh=>by simp[hh.1] at h1
 refine yC (b:=x7) (off:=2) (l:=zB4 y) (l':=orV y.o.tag y.o.t y.o.ms) ?_;refine zJV (fun w hw=>hrd w hw) (hm y hmem) ?_;by_cases h2:zFn y.o.t y.o.mks=false;rotate_left
 ·refine s_f ?_ (by simpa using h2);exact no fun hh=>h2 hh.2.1
 refine s_t ?_ (by rw[h2];rfl);refine yC (b:=x7) (off:=2) (l:=zB4 y) (l':=orV y.o.tag y.o.t y.o.ms) ?_;refine zNL (fun w hw=>hrd w hw) (hm y hmem) ?_;refine zF (fun h3=>?_) fun h3=>no fun hh=>by simp[hh.2.2.1] at h3
 refine zh (b:=x7) (off:=1) (l:=zB4 y) (x:=y.ix) ?_;by_cases h4:(zDw r (L.take i)).last<y.ix
 ·rw[zga h4];unfold xR.s3;refine s_t ?_ (by rfl);refine zh (b:=x7) (off:=1) (l:=zB4 y) (x:=y.ix) ?_;rw[if_pos ⟨by simpa using h1,h2,by simpa using h3,h4⟩] at hst;exact nx _ hst.symm
 ·rw[zgU h4];exact no fun hh=>h4 hh.2.2.2
theorem zRw{r:Int}{s:Sl}{L:List ItG}(hs:∀w,Holds B Γ w→RdC w s 12 (L.flatMap zB4))(hsn:s.n=L.length)(hcap:s.n≤s.c)(hsp:∀a,s.a=some a→a.spot=none)(hP:∀w,Holds B Γ w→∀y∈L,zF7 w y.o)(hm:∀y∈L,y.o.mks.length≤1000)(hl:L.length≤1000000):
  ∀(at':Nat) {y:ItG} {Ψ:List zB} {Q:Bool→K},[Drops Ψ Γ]→L[at']?=some y→HG B Ψ (Q (cntF r (L.take at') y))→HG B Ψ (qm.call r s (at':Int) Q):=by
 intro at'
 induction at' using Nat.strongRecOn with
 | _ at' ih=>
 intro y Ψ Q hd hy hq w hw;refine zLj _ _ _ _ _ ?_;have hal:at'<L.length:=(zgZ.1 hy).1;have hmem:y∈L:=zgx hy;refine Sep.hg hw ?_;clear hw w;have hrd:∀{Ψ':List zB},[Drops Ψ' Γ]→∀w,Holds B Ψ' w→RdC w y.o.ms 3 (y.o.mks.flatMap mkL):=fun {Ψ'} _ w hw=>(hP w (hw.drops (Δ:=Γ)) y hmem).2;have hs':∀{Ψ':List zB},[Drops Ψ' Γ]→∀w,Holds B Ψ' w→RdC w s 12 (L.flatMap zB4):=fun {Ψ'} _ w hw=>hs w (hw.drops (Δ:=Γ))
 haveI hdh:∀{A:zB},Drops (A::Ψ) Γ:=fun {A}=>⟨fun h=>hd.imp (zGB h)⟩
 unfold qm;refine uT zB4 zEe (fun w hw=>hs' w hw) hy ?_;refine zD fun x7=>?_;refine yX (b:=x7) (l':=zB4 y) ?_;refine yC (b:=x7) (off:=2) (l:=zB4 y) (l':=orV y.o.tag y.o.t y.o.ms) ?_;refine zNL (fun w hw=>hrd w hw) (hm y hmem) ?_;have hcv:cntF r (L.take at') y=if r∉xA y.o.mks then false else if y.kind=1∧zFn y.o.t y.o.mks=true then !decide (y.o.tag∈(zDw r (L.take at')).seen) else decide (y.kind=2∧zFn y.o.t y.o.mks=false∧(zDw r (L.take at')).last<y.ix):=by
  unfold cntF itI zCB;split
  ·rfl
  split
  ·rfl
  split
  ·rename_i h;rw[zga h]
  ·rename_i h;rw[zgU h]
 have fin:∀b:Bool,cntF r (L.take at') y=b→HG B (zV5 x7 y::Ψ) (Q b):=fun b hb=>by
  rw[hb] at hq;exact zA hq
 by_cases h1:r∈xA y.o.mks;rotate_left
 ·refine s_t ?_ (by simpa using h1);exact fin false (by rw[hcv,if_pos h1])
 rw[if_neg (by simpa using h1)] at hcv;refine s_f ?_ (by simpa using h1);refine zh (b:=x7) (l:=zB4 y) (x:=y.kind) ?_;refine zF (fun h2=>?_) fun h2=>?_
 ·have h2:y.kind=1:=by simpa using h2
  refine yC (b:=x7) (off:=2) (l:=zB4 y) (l':=orV y.o.tag y.o.t y.o.ms) ?_;refine zJV (fun w hw=>hrd w hw) (hm y hmem) ?_;by_cases h3:zFn y.o.t y.o.mks=true;rotate_left
  ·refine s_t ?_ (by rw[Bool.eq_false_iff.2 h3];rfl);exact fin false (by rw[hcv,if_neg (fun h=>h3 h.2),zgU (by omega)])
  rw[if_pos ⟨h2,h3⟩] at hcv;refine s_f ?_ (by rw[h3];rfl);refine qH (α:=Int) (ι:=Nat) (fun x i=>x=(i:Int)∧i≤at'∧∀j z,j<i→L[j]?=some z→z.kind=1→z.o.tag=y.o.tag→cntF r (L.take j) z=false) (fun x i=>zV5 x7 y::Ψ) (fun x i=>at'-i) 0 ⟨rfl,zgW _,by omega⟩ ?_;rintro k' _ i ⟨rfl,hi,hno⟩ hk';unfold qm.b1;refine zF (fun hb=>?_) fun hb=>?_;rotate_left
  ·have hil:i=at':=by simp only[zgF] at hb;omega
   subst hil;refine fin true ?_;rw[hcv];have:y.o.tag∉(zDw r (L.take i)).seen:=fun hm=>by
    obtain⟨j,z,a1,a2,a3,a4⟩:=zRv.1 hm;have hjl:j<i:=by have:=(zgZ.1 a1).1;rw[zgR] at this;omega
    rw[List.getElem?_take_of_lt hjl] at a1;rw[List.take_take,zh6 (by omega)] at a4;rw[hno j z hjl a1 a2 a3] at a4;cases a4
   rw[zgU this];rfl
  have hil:i<at':=by simp only[zgH] at hb;omega
  have hge:L[i]?=some L[i]:=zgG (by omega);generalize L[i]=z at hge;have S2:∀b:Bool,(z.kind=1→z.o.tag=y.o.tag→cntF r (L.take i) z=b)→(b=true→z.kind=1∧z.o.tag=y.o.tag)→HG B (zV5 x7 y::Ψ) (qm.s2 Q k' r s (at':Int) ⟨x7,0,none⟩ (i:Int) b):=fun b hb1 hb2=>by
   unfold qm.s2;cases b
   ·refine s_f ?_ (by rfl);refine qJ ?_;refine hk' _ (i+1) ⟨by simp,hil,fun j z' hj hz' hk1 ht=>?_⟩ (by omega);by_cases hji:j=i
    ·subst hji;rw[hge] at hz';cases hz'
     exact hb1 hk1 ht
    ·exact hno j z' (by omega) hz' hk1 ht
   ·refine s_t ?_ (by rfl);obtain⟨e1,e2⟩:=hb2 rfl;refine fin false ?_;rw[hcv];have:y.o.tag∈(zDw r (L.take at')).seen:=zRv.2 ⟨i,z,by rw[List.getElem?_take_of_lt hil];exact hge,e1,e2,by rw[List.take_take,zh6 (by omega)];exact hb1 e1 e2⟩;rw[zga this];rfl
  refine xg ?_;refine zGO zB4 (c:=Value.int .i64) (v:=z.kind) zEe (fun w hw=>hs' w hw) hge rfl ?_;refine zF (fun h4=>?_) fun h4=>S2 false (fun e=>by simp[e] at h4) (fun e=>by cases e);have h4:z.kind=1:=by simpa using h4
  refine uY zB4 zEe (by omega) (fun w hw=>hs' w hw) hge fun t ht=>?_;refine zQC (cs:=zB4 z) (us:=zQ z.o.tag) (fun w hw=>ht w (hs' w hw)) (by rw[zEe];omega) ?_;refine yC (b:=x7) (off:=2) (l:=zB4 y) (l':=zQ y.o.tag) ?_;refine zHQ (xs:=zQ z.o.tag) (ys:=zQ y.o.tag) (ks:=zJ2) zBw ?_;refine zF (fun h5=>?_) fun h5=>S2 false (fun _ e=>by simp[e] at h5) (fun e=>by cases e);have h5:z.o.tag=y.o.tag:=by simpa using h5
  refine ih i hil (Ψ:=zV5 x7 y::Ψ) hge ?_;exact S2 _ (fun _ _=>rfl) (fun _=>⟨h4,h5⟩)
 ·have h2:y.kind≠1:=by simpa using h2
  rw[if_neg (fun h=>h2 h.1)] at hcv;refine xg ?_;refine zBl [zV5 x7 y] ?_;refine jK (b:=x7) (l:=zB4 y) (x:=y.kind) ?_;unfold qm.s3;refine zF (fun h3=>?_) fun h3=>?_;rotate_left
  ·have h3:y.kind≠2:=by simpa using h3
   exact fin false (by rw[hcv,zgU (by omega)])
  have h3:y.kind=2:=by simpa using h3
  refine jq (b:=x7) (off:=2) (l:=zB4 y) (l':=orV y.o.tag y.o.t y.o.ms) ?_;refine zJV (fun w hw=>hrd w hw) (hm y hmem) ?_;refine vS ?_;by_cases h4:zFn y.o.t y.o.mks=false;rotate_left
  ·refine s_f ?_ (by simpa using h4);exact fin false (by rw[hcv,zgU (fun h=>h4 h.2.1)])
  refine s_t ?_ (by rw[h4];rfl);refine zAl (s:=s) (lo:=0) (hi:=at') (mx:=s.c) ?_;rw[zKZ hsp];refine jK (b:=x7) (off:=1) (l:=zB4 y) (x:=y.ix) ?_;refine zV6 (L:=L.take at') (fun w hw=>?_) ?_ (fun w hw z hz=>hP w (hw.drops (Δ:=Γ)) z (List.mem_of_mem_take hz)) (fun z hz=>hm z (List.mem_of_mem_take hz)) (by rw[zgR];omega) ?_
  ·rw[←zFI zEe];exact(hs' w hw).take (by omega)
  ·rw[zgR];simp only;omega
  refine vS ?_;exact fin _ (by rw[hcv,ziD];simp[h3,h4])
end
end
section
open Go Go.Sep Go.Sep.Bt
abbrev tg(n:Int):zx:=⟨0,0,n,0⟩
section
variable{B:World}{Γ Δ:List zB}
end
end
section
open Go Go.Sep Go.Sep.Bt
structure OpY where
 kind:Int
 to:Int
 tag:zx
 key:List UInt8
 marks:List zCT
 ms:Sl
def zfp(o:OpY):Prop:=o.marks.length≤20∧o.key.length≤100∧∀m∈o.marks,m.key.length≤100
structure SX where
 m:GM
 dm:DM
 s:zo
 r:RX
abbrev opC(o:OpY):Int:=bitsOf .and .i64 o.kind 3
abbrev zNN(o:OpY)(y:SX):zo:=(jw 3 y.s (bs o.key) o.to).1
abbrev lvX(o:OpY)(y:SX):SX:=⟨(uE o.tag (y.m,y.dm)).1,(uE o.tag (y.m,y.dm)).2,y.s,zBU o.tag y.r⟩
abbrev mvX(o:OpY)(y:SX):SX:=⟨(zBx 3 (zNN o y) o.key (y.m,y.dm)).1,(zBx 3 (zNN o y) o.key (y.m,y.dm)).2,zNN o y,zEj 3 (zNN o y) o.key y.r⟩
abbrev enX(o:OpY)(y:SX):SX:=⟨(zBO 3 y.s o.tag o.marks (y.m,y.dm)).1,(zBO 3 y.s o.tag o.marks (y.m,y.dm)).2,y.s,zDv 3 y.s o.tag o.marks y.r⟩
def stp(o:OpY)(y:SX):SX:=if opC o=0 then lvX o y else if opC o=1 then mvX o y else enX o y
structure SzS(T W:Nat)(y:SX):Prop where
 gl:y.m.length≤T
 gs:∀p∈y.m,p.2.1.length+p.2.2.length≤T
 rs:y.r.line.length+y.r.park.length≤T
 rd:y.r.doom.length≤W
 sl:y.s.length≤T
theorem SzS.gsz{T W:Nat}{y:SX}(h:SzS T W y):gsz y.m T:=⟨h.gl,fun p hp=>by have:=h.gs p hp;omega⟩
theorem zJW{n:Nat}{S:zo}{tag:zx}:∀(L:List zCT) (x:RX),(zDv n S tag L x).line.length+(zDv n S tag L x).park.length≤x.line.length+x.park.length+L.length∧(zDv n S tag L x).doom.length≤x.doom.length+L.length
 | [],x=>by simp[zDv]
 | m::L,x=>by
  have h1:=zJW (n:=n) (S:=S) (tag:=tag) L (zAc n S tag x m);have h2:(zAc n S tag x m).line.length+(zAc n S tag x m).park.length≤x.line.length+x.park.length+1∧(zAc n S tag x m).doom.length≤x.doom.length+1:=by
   have:=zL9 x.doom tag;unfold zAc;split
   ·omega
   split
   ·simp only[zgK,zgO,zgl];omega
   split
   ·simp only[zgK,zgO,zgl];omega
   ·simp only;omega
  show(zDv n S tag L (zAc n S tag x m)).line.length+(zDv n S tag L (zAc n S tag x m)).park.length≤_∧(zDv n S tag L (zAc n S tag x m)).doom.length≤_;rw[zgO];omega
theorem zUu(r:Rec)(key:List UInt8):∀(L:List Claim) (x:List Claim×List zx×List Claim),(rMv r key L x).1.length+(rMv r key L x).2.2.length≤x.1.length+x.2.2.length+L.length
 | [],x=>by simp[rMv]
 | c::L,x=>by
  have h1:=zUu r key L (zCp r key x c);have h2:(zCp r key x c).1.length+(zCp r key x c).2.2.length≤x.1.length+x.2.2.length+1:=by
   unfold zCp;split
   ·simp;omega
   split <;> simp <;> omega
  show(rMv r key L (zCp r key x c)).1.length+(rMv r key L (zCp r key x c)).2.2.length≤_;rw[zgO];omega
theorem zOp{n:Nat}{S:zo}{key:List UInt8}{x:RX}:(zEj n S key x).line.length+(zEj n S key x).park.length≤x.line.length+x.park.length∧(zEj n S key x).doom.length≤x.doom.length+x.line.length+x.park.length:=by
 unfold zEj;have h1:=zUu (yt n S (bs key)) key x.park (x.line,zBP (yt n S (bs key)) key x.line x.doom,[]);have h2:=zTS (yt n S (bs key)) key x.park (x.line,zBP (yt n S (bs key)) key x.line x.doom,[]);have h3:=zK0 (yt n S (bs key)) key x.line x.doom;simp only[zgl] at h1 h2 ⊢;omega
theorem zRx(n:Nat)(M:zo)(k:ByteArray)(to:Int):(jw n M k to).1.length≤M.length+1:=by
 unfold jw;split
 ·simp
 split
 ·simp
 exact zMZ _ _ _
theorem SzS.step{T W:Nat}{y:SX}{o:OpY}(h:SzS T W y)(ho:zfp o):SzS (T+20) (W+T+20) (stp o y):=by
 obtain⟨o1,_,_⟩:=ho;unfold stp;split
 ·obtain⟨a1,a2⟩:=zRV (tag:=o.tag) (x:=(y.m,y.dm)) h.gl h.gs;have b1:(noT o.tag y.r.line).length≤y.r.line.length:=zgr _ _;have b2:(noT o.tag y.r.park).length≤y.r.park.length:=zgr _ _;have b3:(y.r.doom.filter fun t=>!decide (t=o.tag)).length≤y.r.doom.length:=zgr _ _;have c1:=h.rs;have c2:=h.rd;have c3:=h.sl;exact⟨zhW a1 (by omega),zLK a2 (by omega),by simp only;omega,by simp only;omega,by simp only;omega⟩
 split
 ·obtain⟨a1,a2⟩:=zRU (n:=3) (S:=zNN o y) (key:=o.key) (x:=(y.m,y.dm)) h.gl h.gs;obtain⟨b1,b2⟩:=zOp (n:=3) (S:=zNN o y) (key:=o.key) (x:=y.r);have b3:(zNN o y).length≤y.s.length+1:=zRx 3 y.s (bs o.key) o.to;have c1:=h.rs;have c2:=h.rd;have c3:=h.sl;exact⟨zhW a1 (by omega),zLK a2 (by omega),by simp only;omega,by simp only;omega,by simp only;omega⟩
 ·obtain⟨a1,a2⟩:=zKj (n:=3) (S:=y.s) (tag:=o.tag) o.marks (x:=(y.m,y.dm)) h.gl h.gs;obtain⟨b1,b2⟩:=zJW (n:=3) (S:=y.s) (tag:=o.tag) o.marks y.r;have c1:=h.rs;have c2:=h.rd;have c3:=h.sl;exact⟨zhW a1 (by omega),zLK a2 (by omega),by simp only;omega,by simp only;omega,by simp only;omega⟩
section
variable{B:World}{Γ Δ:List zB}{k:K}{l st t m:Nat}{P:Pool}{y:SX}
end
end
section
open Go Go.Sep Go.Sep.Bt
abbrev ofK(k:List UInt8)(L:List Claim):List Claim:=L.filter fun c=>decide (c.2.key=k)
structure zGW(M:GM)(dm:DM)(x:RX):Prop where
 line:∀k,(atM k M).1=ofK k x.line
 park:∀k,(atM k M).2=ofK k x.park
 doom:∀t,dm t=decide (t∈x.doom)
theorem zOq{tag:zx}{M:GM}{dm:DM}{key:List UInt8}:atM key (uE tag (M,dm)).1=(noT tag (atM key M).1,noT tag (atM key M).2):=by
 unfold uE atM;simp only;rw[show qj key (M.map fun p=>(p.1,(noT tag p.2.1,noT tag p.2.2)))=(qj key M).map fun v=>(noT tag v.1,noT tag v.2) from zJz (fun v:List Claim×List Claim=>(noT tag v.1,noT tag v.2)) key M];cases qj key M <;> rfl
theorem zUv(k:List UInt8)(tag:zx)(L:List Claim):noT tag (ofK k L)=ofK k (noT tag L):=by
 unfold ofK noT;rw[List.filter_filter,List.filter_filter];congr 1;funext c
 exact Bool.and_comm _ _
theorem zGW.leave{M:GM}{dm:DM}{x:RX}{tag:zx}(h:zGW M dm x):zGW (uE tag (M,dm)).1 (uE tag (M,dm)).2 (zBU tag x):=by
 refine⟨fun k=>?_,fun k=>?_,fun t=>?_⟩
 ·rw[zOq,h.line];exact zUv k tag x.line
 ·rw[zOq,h.park];exact zUv k tag x.park
 ·show zGj dm tag false t=decide (t∈x.doom.filter fun t=>!decide (t=tag));unfold zGj;by_cases ht:t=tag
  ·rw[if_pos ht];simp[ht]
  ·rw[if_neg ht,h.doom];simp[ht]
theorem zHn{key k:List UInt8}{M:GM}:atM k (zBA key M)=atM k M:=by
 unfold zBA;split
 ·rename_i hn;unfold atM;rw[show qj k (M++[(key,([],[]))])=qj k (uH key ([],[]) M) by
   rcases zFE key M with⟨_,h2,_⟩|⟨j,v,_,_,_,h1,_⟩
   ·rw[h2]
   ·rw[h1] at hn;simp at hn]
  rw[zDS];split
  ·rename_i hk;rw[hk];rw[show qj key M=none by simpa using hn];rfl
  ·rfl
 ·rfl
theorem at_set{key k:List UInt8}{M:GM}{v:List Claim×List Claim}:atM k (uH key v (zBA key M))=if k=key then v else atM k M:=by
 have h:=zHn (key:=key) (k:=k) (M:=M);unfold atM at h ⊢;rw[zDS];split
 ·rfl
 ·exact h
theorem zUw(k:List UInt8)(tag:zx)(L:List Claim):zEi tag (ofK k L)=zF6 L k tag:=by
 unfold zEi zF6 ofK;rw[List.any_filter]
theorem zNO{dm:DM}{D:List zx}{tag:zx}(h:∀t,dm t=decide (t∈D)):∀t,zGj dm tag true t=decide (t∈zAm D tag):=fun t=>by
 unfold zGj zAm;by_cases ht:t=tag
 ·rw[if_pos ht];split
  ·rename_i hi;rw[ht];simpa using hi
  ·simp[ht]
 ·rw[if_neg ht,h];split
  ·rfl
  ·simp[ht]
theorem zET(k:List UInt8)(L:List Claim)(c:Claim):ofK k (L++[c])=if c.2.key=k then ofK k L++[c] else ofK k L:=by
 unfold ofK;rw[List.filter_append];by_cases h:c.2.key=k <;> simp[h]
theorem zGW.zA3{M:GM}{dm:DM}{x:RX}{tag:zx}{n:Nat}{S:zo}{m:zCT}(h:zGW M dm x):zGW (zA3 n S tag (M,dm) m).1 (zA3 n S tag (M,dm) m).2 (zAc n S tag x m):=by
 have e:(zEi tag (atM m.key M).1||zEi tag (atM m.key M).2)=(zF6 x.line m.key tag||zF6 x.park m.key tag):=by rw[h.line,h.park,zUw,zUw]
 unfold Go.Proofs.YtlelhlcjaapkoaaGreat.zA3 zAc;simp only;rw[e];split
 ·exact⟨fun k=>by rw[zHn];exact h.line k,fun k=>by rw[zHn];exact h.park k,h.doom⟩
 split
 ·refine⟨fun k=>?_,fun k=>?_,h.doom⟩
  ·simp only;rw[at_set,zET];by_cases hk:k=m.key
   ·rw[if_pos hk,if_pos hk.symm,h.line,hk]
   ·rw[if_neg hk,if_neg fun h=>hk h.symm];exact h.line k
  ·simp only;rw[at_set];split
   ·rename_i hk;rw[hk];exact h.park m.key
   ·exact h.park k
 split
 ·refine⟨fun k=>?_,fun k=>?_,h.doom⟩
  ·simp only;rw[at_set];split
   ·rename_i hk;rw[hk];exact h.line m.key
   ·exact h.line k
  ·simp only;rw[at_set,zET];by_cases hk:k=m.key
   ·rw[if_pos hk,if_pos hk.symm,h.park,hk]
   ·rw[if_neg hk,if_neg fun h=>hk h.symm];exact h.park k
 ·exact⟨fun k=>by rw[zHn];exact h.line k,fun k=>by rw[zHn];exact h.park k,zNO h.doom⟩
theorem zGW.enter{tag:zx}{n:Nat}{S:zo}:∀(L:List zCT) {M:GM} {dm:DM} {x:RX},zGW M dm x→zGW (zBO n S tag L (M,dm)).1 (zBO n S tag L (M,dm)).2 (zDv n S tag L x)
 | [],M,dm,x,h=>h
 | m::L,M,dm,x,h=>by
  have h1:=h.zA3 (tag:=tag) (n:=n) (S:=S) (m:=m);exact zGW.enter L (M:=(Go.Proofs.YtlelhlcjaapkoaaGreat.zA3 n S tag (M,dm) m).1) (dm:=(Go.Proofs.YtlelhlcjaapkoaaGreat.zA3 n S tag (M,dm) m).2) h1
theorem zIN(r:Rec)(key:List UInt8):∀(L:List Claim) {dm:DM} {D:List zx},(∀t,dm t=decide (t∈D))→∀t,zDV r (ofK key L) dm t=decide (t∈zBP r key L D)
 | [],dm,D,h=>h
 | c::L,dm,D,h=>by
  show ∀t,zDV r (ofK key (c::L)) dm t=decide (t∈zBP r key L (if c.2.key=key∧uF r c≠0 then zAm D c.1 else D));unfold ofK;rw[zhD];by_cases hk:c.2.key=key
  ·simp only[hk,decide_true,zhX,true_and];show ∀t,zDV r (ofK key L) (if uF r c≠0 then zGj dm c.1 true else dm) t=_;by_cases h0:uF r c≠0
   ·rw[if_pos h0,if_pos h0];exact zIN r key L (zNO h)
   ·rw[if_neg h0,if_neg h0];exact zIN r key L h
  ·simp only[hk,decide_false,zgc,zhG,false_and];exact zIN r key L h
theorem zYg(r:Rec)(c:Claim):uF r c=0∨uF r c=1∨uF r c=2:=zaG _ _ _ _
theorem zKJ(r:Rec)(key:List UInt8):∀(P:List Claim) {ls left ln:List Claim} {D:List zx} {dm:DM},ofK key ls=ln→(∀t,dm t=decide (t∈D)) →
  ofK key (rMv r key P (ls,D,left)).1=(zB2 (mvP r) (mvS r) (ln,dm) (ofK key P)).1.1∧(∀t,(zB2 (mvP r) (mvS r) (ln,dm) (ofK key P)).1.2 t=decide (t∈(rMv r key P (ls,D,left)).2.1)) ∧
  ofK key (rMv r key P (ls,D,left)).2.2=ofK key left++(zB2 (mvP r) (mvS r) (ln,dm) (ofK key P)).2∧∀k,k≠key→ofK k (rMv r key P (ls,D,left)).1=ofK k ls∧ofK k (rMv r key P (ls,D,left)).2.2=ofK k left++ofK k P
 | [],ls,left,ln,D,dm,h1,h2=>by
  subst h1;exact⟨rfl,h2,by simp[rMv,zB2],fun k _=>⟨rfl,by simp[rMv]⟩⟩
 | c::P,ls,left,ln,D,dm,h1,h2=>by
  have e:rMv r key (c::P) (ls,D,left)=rMv r key P (zCp r key (ls,D,left) c):=rfl;rw[e];by_cases hk:c.2.key=key
  ·have ef:ofK key (c::P)=c::ofK key P:=by simp[ofK,zhD,hk]
   have eo:∀k,k≠key→ofK k (c::P)=ofK k P:=fun k hne=>by
    have:¬c.2.key=k:=fun h=>hne (h.symm.trans hk);simp[ofK,zhD,this]
   rw[ef,zEL];rcases zYg r c with h0|h0|h0
   ·rw[show zCp r key (ls,D,left) c=(ls++[c],D,left) by unfold zCp;simp[hk,h0],show mvS r (ln,dm) c=(ln++[c],dm) by simp[mvS,h0],show mvP r (ln,dm) c=true by simp[mvP,h0]];obtain⟨a1,a2,a3,a4⟩:=zKJ r key P (ls:=ls++[c]) (left:=left) (ln:=ln++[c]) (D:=D) (dm:=dm) (by rw[zET,if_pos hk,h1]) h2;refine⟨a1,a2,by simpa using a3,fun k hne=>?_⟩;have:=a4 k hne;rw[zET,if_neg fun h=>hne (h.symm.trans hk)] at this;rw[eo k hne];exact this
   ·rw[show zCp r key (ls,D,left) c=(ls,D,left++[c]) by unfold zCp;simp[h0],show mvS r (ln,dm) c=(ln,dm) by simp[mvS,h0],show mvP r (ln,dm) c=false by simp[mvP,h0]];obtain⟨a1,a2,a3,a4⟩:=zKJ r key P (ls:=ls) (left:=left++[c]) (ln:=ln) (D:=D) (dm:=dm) h1 h2;rw[zET,if_pos hk] at a3;refine⟨a1,a2,by simpa using a3,fun k hne=>?_⟩;have:=a4 k hne;rw[zET,if_neg fun h=>hne (h.symm.trans hk)] at this;rw[eo k hne];exact this
   ·rw[show zCp r key (ls,D,left) c=(ls,zAm D c.1,left) by unfold zCp;simp[hk,h0],show mvS r (ln,dm) c=(ln,zGj dm c.1 true) by simp[mvS,h0],show mvP r (ln,dm) c=true by simp[mvP,h0]];obtain⟨a1,a2,a3,a4⟩:=zKJ r key P (ls:=ls) (left:=left) (ln:=ln) (D:=zAm D c.1) (dm:=zGj dm c.1 true) h1 (zNO h2);refine⟨a1,a2,by simpa using a3,fun k hne=>?_⟩;rw[eo k hne];exact a4 k hne
  ·have ef:ofK key (c::P)=ofK key P:=by simp[ofK,zhD,hk]
   rw[ef,show zCp r key (ls,D,left) c=(ls,D,left++[c]) by unfold zCp;simp[hk]];obtain⟨a1,a2,a3,a4⟩:=zKJ r key P (ls:=ls) (left:=left++[c]) (ln:=ln) (D:=D) (dm:=dm) h1 h2;rw[zET,if_neg hk] at a3;refine⟨a1,a2,a3,fun k hne=>⟨(a4 k hne).1,?_⟩⟩;rw[(a4 k hne).2,zET];by_cases hck:c.2.key=k
   ·simp[ofK,zhD,hck]
   ·simp[ofK,zhD,hck]
theorem zGW.moved{M:GM}{dm:DM}{x:RX}{n:Nat}{S:zo}{key:List UInt8}(h:zGW M dm x):zGW (zBx n S key (M,dm)).1 (zBx n S key (M,dm)).2 (zEj n S key x):=by
 unfold zBx zEj;simp only;generalize yt n S (bs key)=r;obtain⟨a1,a2,a3,a4⟩:=zKJ r key x.park (ls:=x.line) (left:=[]) (ln:=ofK key x.line) (D:=zBP r key x.line x.doom) (dm:=zDV r (ofK key x.line) dm) rfl (zIN r key x.line h.doom);rw[h.line key,h.park key];refine⟨fun k=>?_,fun k=>?_,a2⟩
 ·simp only;rw[at_set];by_cases hk:k=key
  ·rw[if_pos hk,hk];exact a1.symm
  ·rw[if_neg hk,h.line k];exact(a4 k hk).1.symm
 ·simp only;rw[at_set];by_cases hk:k=key
  ·rw[if_pos hk,hk];simpa using a3.symm
  ·rw[if_neg hk,h.park k];simpa using(a4 k hk).2.symm
theorem zGW.stp{y:SX}{o:OpY}(h:zGW y.m y.dm y.r):zGW (stp o y).m (stp o y).dm (stp o y).r:=by
 unfold Go.Proofs.YtlelhlcjaapkoaaGreat.stp;split
 ·exact h.leave
 split
 ·exact h.moved
 ·exact h.enter o.marks
end
section
open Go Go.Sep Go.Sep.Bt
abbrev zD6(x:RX)(key:List UInt8):List zx:=(ofK key x.line).map Prod.fst
abbrev jr(L:List Claim):List (List UInt8):=L.map fun c=>c.2.key
theorem zNP(L:List Claim)(c:Claim):jr (L++[c])=jr L++[c.2.key]:=by simp[jr]
def zDx(x:RX):List (List UInt8):=vX (jr x.line++jr x.park)
def zJX(tag:zx)(x:RX):List zx:=(zDx x).foldl (fun out key=>(zF0 tag (zD6 x key)).foldl zAm out) []
section
variable{B:World}{Γ Δ:List zB}{k:K}{tag:zx}{m n st:Nat}{x:RX}{ls ps ds:Sl}
def zG0(m:Nat)(ls ps ds:Sl)(x:RX):zB:=Sep.stars (zCR m ls ps ds x [])
instance(priority:=high) zeX:Sep.Own m (zG0 m ls ps ds x::Γ) (zG0 m ls ps ds x) Γ:=⟨.refl _⟩
theorem zQF(h:HG B (zCR m ls ps ds x Γ) k):HG B (zG0 m ls ps ds x::Γ) k:=by
 unfold zG0;exact zBL h
theorem zHo(h:HG B (zG0 m ls ps ds x::Γ) k):HG B (zCR m ls ps ds x Γ) k:=fun w hw=>by
 refine h w ?_;have h3:Holds B (Sep.stars (zCR m ls ps ds x [])::Γ) w:=Holds.flat.2 hw;exact h3
theorem zaV(h:HG B (zAW m x::Γ) k):HG B (zG0 m ls ps ds x::Γ) k:=zQF (jO h)
theorem zV7{s:Sl}{L:List Claim}{key:List UInt8}{Q:Sl→K}(hl:L.length≤1000000)(hr:∀w,Holds B Γ w→RdC w s 7 (L.flatMap clF))(h:∀s',HG B (SlC zN 4 s' (((ofK key L).map Prod.fst).flatMap zQ)::Γ) (Q s')):HG B Γ (jG.call s (bs key) Q):=fun w hw=>by
 refine zN0 _ _ _ _ ?_;have ln:s.n=L.length:=zAM xW (by omega) (hr w hw);refine hg hw ?_;clear hw w;unfold jG;refine zD fun t7=>?_;refine zCi (esz:=4) ?_;refine qH (α:=Sl×Int) (ι:=Nat) (fun z i=>z.2=(i:Int)∧i≤L.length) (fun z i=>SlC zN 4 z.1 (((ofK key (L.take i)).map Prod.fst).flatMap zQ)::Γ) (fun z i=>L.length-i) 0 ⟨rfl,zgW _⟩ ?_;rintro k' ⟨o,_⟩ i ⟨rfl,hi⟩ hk';simp only at hi hk' ⊢;refine yw o fun a1 a2 a3 a4=>?_;rw[zH _ 4 zBv,zgL] at a1;have ho:(ofK key (L.take i)).length≤i:=by
  have h1:=zgr (fun c:Claim=>decide (c.2.key=key)) (L.take i);rw[zgR] at h1;show(List.filter _ _).length≤i;omega
 unfold jG.b1;refine zF (fun hb=>?_) fun hb=>?_
 ·have hil:i<L.length:=by simp only[zgH] at hb;omega
  have htk:=zgJ hil;have hge:L[i]?=some L[i]:=zgG hil;generalize L[i]=c at htk hge;refine uY clF xW (by omega) (fun w hw=>hr w hw.drops) hge fun t16 ht16=>?_;refine zNG (cs:=clF c) (i:=4) (x:=bs c.2.key) (fun w hw=>ht16 w (hr w hw.drops)) rfl ?_;refine zF (fun hp=>?_) fun hp=>?_
  ·have hkey:c.2.key=key:=by rw[qZ,qZ] at hp;simpa using hp
   refine uY clF xW (by omega) (fun w hw=>hr w hw.drops) hge fun t25 ht25=>?_;refine zBc (cs:=clF c) (us:=zQ c.1) (fun w hw=>ht25 w (hr w hw.drops)) (by rw[xW];omega) ?_;refine zBh ?_;refine zDI (s:=o) (m:=1) (us:=zQ c.1) (fun o2 ho2=>?_);unfold jG.s2;refine qJ ?_;have hfin:=hk' (o2,(i:Int)+1) (i+1) ⟨by simp,hil⟩ (by omega);rw[htk,zET,if_pos hkey,zgT,zge] at hfin;exact hfin
  ·have hkey:c.2.key≠key:=by rw[qZ,qZ] at hp;simpa using hp
   unfold jG.s2;refine qJ ?_;have hfin:=hk' (o,(i:Int)+1) (i+1) ⟨by simp,hil⟩ (by omega);rw[htk,zET,if_neg hkey] at hfin;exact hfin
 ·have hil:i=L.length:=by simp only[zgF] at hb;omega
  rw[hil,zgQ];exact zA (h o)
theorem zV8{Q:Sl→K}(hN:rsz x 1000000)(h:∀s,HG B (SlS s (zDx x)::zG0 m ls ps ds x::Γ) (Q s)):HG B (zG0 m ls ps ds x::Γ) (xM.call (some ⟨m,0,none⟩) Q):=by
 refine fun w hw=>zIY _ _ _ ?_;refine hg hw ?_;clear hw w;obtain⟨n1,n2,n3⟩:=hN;refine zQF ?_;refine yw ls fun a1 a2 a3 a4=>?_;rw[zH _ 7 xW] at a1;refine yw ps fun c1 c2 c3 c4=>?_;rw[zH _ 7 xW] at c1;unfold xM;refine zD fun t6=>?_;refine zCi (esz:=1) ?_;refine qH (α:=Sl×Int) (ι:=Nat) (fun z i=>z.2=(i:Int)∧i≤x.line.length) (fun z i=>SlS z.1 (jr (x.line.take i))::zCR m ls ps ds x Γ) (fun z i=>x.line.length-i) 0 ⟨rfl,zgW _⟩ ?_;rintro k' ⟨o,_⟩ i ⟨rfl,hi⟩ hk';simp only at hi hk' ⊢;refine yw o fun b1 b2 b3 b4=>?_;rw[zgL,zgL,zgR] at b1;unfold xM.b1;refine uf ?_;refine zh (b:=m) (x:=ls) ?_;refine zF (fun hb=>?_) fun hb=>?_
 ·have hil:i<x.line.length:=by simp only[zgH] at hb;omega
  have htk:=zgJ hil;have hge:x.line[i]?=some x.line[i]:=zgG hil;generalize x.line[i]=c at htk hge;refine zh (b:=m) (x:=ls) ?_;refine uY clF xW (by omega) (fun w hw=>(zO (s:=ls) hw).1) hge fun t16 ht16=>?_;refine zNG (cs:=clF c) (i:=4) (x:=bs c.2.key) (fun w hw=>ht16 w (zO (s:=ls) hw).1) rfl ?_;refine zDI (s:=o) (m:=1) (us:=[qE c.2.key]) (fun o2 ho2=>?_);refine qJ ?_;have hfin:HG B (SlS o2 (jr (x.line.take (i+1)))::zCR m ls ps ds x Γ) (k' (o2,(i:Int)+1)):=hk' (o2,(i:Int)+1) (i+1) ⟨by simp,hil⟩ (by omega);rw[show SlS o2 (jr (x.line.take (i+1)))=SlC yO 1 o2 ((jr (x.line.take i)).map qE++[qE c.2.key]) by rw[htk,zNP];show SlC yO 1 o2 ((jr (x.line.take i)++[c.2.key]).map qE)=_;rw[zgT];rfl] at hfin;exact hfin
 have hil:i=x.line.length:=by simp only[zgF] at hb;omega
 rw[hil,zgQ];refine zA (Δ:=SlS o (jr x.line++jr (x.park.take 0))::zCR m ls ps ds x Γ) ?_ (d:=by simpa using(inferInstance:Drops (SlS o (jr x.line)::zCR m ls ps ds x Γ) (SlS o (jr x.line)::zCR m ls ps ds x Γ)));refine qH (α:=Sl×Int) (ι:=Nat) (fun z i=>z.2=(i:Int)∧i≤x.park.length) (fun z i=>SlS z.1 (jr x.line++jr (x.park.take i))::zCR m ls ps ds x Γ) (fun z i=>x.park.length-i) 0 ⟨rfl,zgW _⟩ ?_;rintro k2 ⟨o,_⟩ i ⟨rfl,hi⟩ hk2;simp only at hi hk2 ⊢;refine yw o fun b1 b2 b3 b4=>?_;rw[zgL,zgK,zgL,zgL,zgR] at b1;unfold xM.b2;refine zh (b:=m) (x:=ps) ?_;refine zF (fun hb=>?_) fun hb=>?_
 ·have hil:i<x.park.length:=by simp only[zgH] at hb;omega
  have htk:=zgJ hil;have hge:x.park[i]?=some x.park[i]:=zgG hil;generalize x.park[i]=c at htk hge;refine zh (b:=m) (x:=ps) ?_;refine uY clF xW (by omega) (fun w hw=>(zO (s:=ps) hw).1) hge fun t16 ht16=>?_;refine zNG (cs:=clF c) (i:=4) (x:=bs c.2.key) (fun w hw=>ht16 w (zO (s:=ps) hw).1) rfl ?_;refine zDI (s:=o) (m:=1) (us:=[qE c.2.key]) (fun o2 ho2=>?_);refine qJ ?_;have hfin:HG B (SlS o2 (jr x.line++jr (x.park.take (i+1)))::zCR m ls ps ds x Γ) (k2 (o2,(i:Int)+1)):=hk2 (o2,(i:Int)+1) (i+1) ⟨by simp,hil⟩ (by omega);rw[show SlS o2 (jr x.line++jr (x.park.take (i+1)))=SlC yO 1 o2 ((jr x.line++jr (x.park.take i)).map qE++[qE c.2.key]) by rw[htk,zNP,←zg9];show SlC yO 1 o2 (((jr x.line++jr (x.park.take i))++[c.2.key]).map qE)=_;rw[zgT];rfl] at hfin;exact hfin
 have hil:i=x.park.length:=by simp only[zgF] at hb;omega
 rw[hil,zgQ];refine zKl (t:=⟨0,[],jr x.line++jr x.park,[],0,⟨none,0,0⟩,o,⟨none,0,0⟩⟩) (fun w hw=>RdC.none') (fun w hw=>(zO (s:=o) hw).1) (by simp) (by simp;omega) fun s=>?_;show HG B (SlS s (zDx x)::SlS o (jr x.line++jr x.park)::zCR m ls ps ds x Γ) _;refine zA (Δ:=zCR m ls ps ds x (SlS s (zDx x)::Γ)) ?_;refine zHo ?_;exact zA (h s)
theorem zUx{D:List zx}{t:zx}(h:t∈D):zAm D t=D:=by unfold zAm;rw[if_pos h]
theorem zRy{D:List zx}{t:zx}(h:t∉D):zAm D t=D++[t]:=by unfold zAm;rw[if_neg h]
theorem zTV{line out:Sl}{LN O:List zx}{g3:Nat}{keys:Sl}{j:Nat}{i7:Int}{Q:Sl→K}{X1:Sl→Int→K}(hj:(LN.findIdx? fun t=>decide (t=tag))=some j)(hL:LN.length≤1000000)(hO:O.length≤90000000)(hr:∀w,Holds B Γ w→RdC w line 4 (LN.flatMap zQ))
  (h:∀o2,HG B (SlC zN 4 o2 (((zF0 tag LN).foldl zAm O).flatMap zQ)::blk g3 (.cells (zQ tag).toArray zN (0,0))::Γ) (yB.s2 Q X1 (some ⟨m,0,none⟩) ⟨g3,0,none⟩ o2 keys i7)) :
  HG B (SlC zN 4 out (O.flatMap zQ)::blk g3 (.cells (zQ tag).toArray zN (0,0))::Γ) (zq (α:=Sl×Int) (fun X z=>yB.b3 Q X1 (fun out5_3 k9_3=>X (out5_3,k9_3)) ⟨m,0,none⟩ ⟨g3,0,none⟩ keys i7 line z.1 z.2) (out,0)):=by
 rw[zh0] at hj;obtain⟨hjl,hjt,hjb⟩:=hj;have hfore:zF0 tag LN=LN.take j:=by
  unfold zF0;rw[show(LN.findIdx? fun t=>decide (t=tag))=some j from zh0.2 ⟨hjl,hjt,hjb⟩];rfl
 rw[hfore] at h;refine qH (α:=Sl×Int) (ι:=Nat) (fun z i=>z.2=(i:Int)∧i≤j) (fun z i=>SlC zN 4 z.1 (((LN.take i).foldl zAm O).flatMap zQ)::blk g3 (.cells (zQ tag).toArray zN (0,0))::Γ) (fun z i=>j-i) 0 ⟨rfl,zgW _⟩ ?_;rintro k' ⟨o,_⟩ i ⟨rfl,hi⟩ hk';simp only at hi hk' ⊢;have hfl:=zRP (LN.take i) O;rw[zgR] at hfl;refine yw o fun b1 b2 b3 b4=>?_;rw[zH _ 4 zBv] at b1;have hil:i<LN.length:=by omega
 have htk:=zgJ hil;have hge:LN[i]?=some LN[i]:=zgG hil;have hcmp:i=j∨(i<j∧LN[i]≠tag):=by
  rcases Nat.lt_or_ge i j with h|h
  ·exact .inr ⟨h,by simpa using hjb i h⟩
  ·exact .inl (by omega)
 have heq:i=j→LN[i]=tag:=fun h=>by subst h;simpa using hjt
 generalize LN[i]=t at htk hge hcmp heq;unfold yB.b3;refine xg ?_;refine uT zQ zBv (fun w hw=>hr w hw.drops) hge ?_;refine yC (b:=g3) (l':=zQ tag) ?_;refine zMe (xs:=zQ t) (ys:=zQ tag) (ks:=zJ2) zBw ?_;rcases hcmp with hc|⟨hc,hne⟩
 ·refine s_f ?_ (by simp[heq hc]);subst hc;exact h o
 refine s_t ?_ (by simp[hne]);refine uT zQ zBv (fun w hw=>hr w hw.drops) hge ?_;refine zIK (L:=(LN.take i).foldl zAm O) (by omega) (fun w hw=>(zO (s:=o) hw).1) ?_;have hst:(LN.take (i+1)).foldl zAm O=zAm ((LN.take i).foldl zAm O) t:=by rw[htk,zhQ];rfl
 by_cases hin:t∈(LN.take i).foldl zAm O
 ·refine s_f ?_ (by simp[hin]);unfold yB.s4;refine qJ ?_;have hfin:=hk' (o,(i:Int)+1) (i+1) ⟨by simp,hc⟩ (by omega);rw[hst,show zAm ((LN.take i).foldl zAm O) t=(LN.take i).foldl zAm O from zUx hin] at hfin;exact hfin
 ·refine s_t ?_ (by simp[hin]);refine uT zQ zBv (fun w hw=>hr w hw.drops) hge ?_;refine zBh ?_;refine zDI (s:=o) (m:=1) (us:=zQ t) (fun o2 ho2=>?_);unfold yB.s4;refine qJ ?_;have hfin:=hk' (o2,(i:Int)+1) (i+1) ⟨by simp,hc⟩ (by omega);rw[hst,show zAm ((LN.take i).foldl zAm O) t=(LN.take i).foldl zAm O++[t] from zRy hin,zge] at hfin;exact hfin
theorem zV9{LN:List zx}(h:tag∉LN):zF0 tag LN=[]:=by
 unfold zF0;rw[show(LN.findIdx? fun t=>decide (t=tag))=none by
  rw[zhN];intro t ht;simp only[zgF];rintro rfl;exact h ht]
 rfl
theorem zRz:(zDx x).length≤x.line.length+x.park.length:=by
 unfold zDx;refine zhW (zDX _) ?_;simp[jr]
theorem zTW{Q:Sl→K}(hN:x.line.length≤3000∧x.park.length≤3000∧x.doom.length≤1000000)(h:∀s,HG B (SlC zN 4 s ((zJX tag x).flatMap zQ)::zG0 m ls ps ds x::Γ) (Q s)):HG B (zG0 m ls ps ds x::Γ) (yB.call (some ⟨m,0,none⟩) (zQ tag).toArray Q):=by
 refine fun w hw=>zHh _ _ _ _ ?_;refine hg hw ?_;clear hw w;obtain⟨n1,n2,n3⟩:=hN;have hkl:=zRz (x:=x);unfold yB;refine zD fun g3=>?_;refine zD fun t10=>?_;refine zCi (esz:=4) ?_;refine yN m ?_;refine zV8 ⟨by omega,by omega,by omega⟩ fun sk=>?_;unfold zJX at h;generalize zDx x=KS at hkl h ⊢;refine yw sk fun a1 a2 a3 a4=>?_;rw[zgL] at a1;refine zA (Δ:=SlC zN 4 ⟨some ⟨t10,0,none⟩,0,0⟩ []::blk g3 (.cells (zQ tag).toArray zN (0,0))::zG0 m ls ps ds x::SlS sk KS::Γ) ?_;refine qH (α:=Sl×Int) (ι:=Nat×List zx) (fun z i=>z.2=(i.1:Int)∧i.1≤KS.length∧i.2=(KS.take i.1).foldl (fun out key=>(zF0 tag (zD6 x key)).foldl zAm out) []∧i.2.length≤3000*i.1) (fun z i=>SlC zN 4 z.1 (i.2.flatMap zQ)::blk g3 (.cells (zQ tag).toArray zN (0,0))::zG0 m ls ps ds x::SlS sk KS::Γ) (fun z i=>KS.length-i.1) (0,[]) ⟨rfl,zgW _,rfl,by simp⟩ ?_;rintro k' ⟨o,_⟩ ⟨i,O⟩ ⟨rfl,hi,hO,hOl⟩ hk';simp only at hi hO hOl hk' ⊢;unfold yB.b1;refine zF (fun hb=>?_) fun hb=>?_;rotate_left
 ·have hil:i=KS.length:=by simp only[zgF] at hb;omega
  rw[hil,zgQ] at hO;rw[hO];exact zA (h o)
 have hil:i<KS.length:=by simp only[zgH] at hb;omega
 have htk:=zgJ hil;have hge:KS[i]?=some KS[i]:=zgG hil;generalize KS[i]=key at htk hge;have hstep:(KS.take (i+1)).foldl (fun out key=>(zF0 tag (zD6 x key)).foldl zAm out) []=(zF0 tag (zD6 x key)).foldl zAm O:=by rw[htk,zhQ,hO];rfl
 have hll:(zD6 x key).length≤3000:=by
  show((ofK key x.line).map Prod.fst).length≤3000;rw[zgL];exact zhW (zgr _ _) (by omega)
 have hfl:((zF0 tag (zD6 x key)).foldl zAm O).length≤3000*(i+1):=by
  have h1:=zRP (zF0 tag (zD6 x key)) O;have h2:(zF0 tag (zD6 x key)).length≤(zD6 x key).length:=by unfold zF0;rw[zgR];omega
  omega
 refine xg ?_;refine uf ?_;refine yN m ?_;refine zQF ?_;refine uY (fun z:List UInt8=>[qE z]) (fun _=>rfl) (by omega) (fun w hw=>by have:=(zO (s:=sk) hw).1;rw[zE7];exact this) hge fun t25 ht25=>?_;refine zh (b:=m) (x:=ls) ?_;refine zTC (cs:=[qE key]) (x:=bs key) (fun w hw=>ht25 w (by have:=(zO (s:=sk) hw).1;rw[zE7];exact this)) rfl ?_;refine zV7 (L:=x.line) (by omega) (fun w hw=>(zO (s:=ls) hw).1) fun st=>?_;refine yC (b:=g3) (l':=zQ tag) ?_;refine zIK (L:=zD6 x key) (by omega) (fun w hw=>(zO (s:=st) hw).1) ?_;have S2:∀o2,HG B (SlC zN 4 o2 (((zF0 tag (zD6 x key)).foldl zAm O).flatMap zQ)::blk g3 (.cells (zQ tag).toArray zN (0,0))::zG0 m ls ps ds x::SlS sk KS::Γ) (yB.s2 Q (fun out5_1 i7_1=>k' (out5_1,i7_1)) (some ⟨m,0,none⟩) ⟨g3,0,none⟩ o2 sk (i:Int)):=fun o2=>by
  unfold yB.s2;refine qJ ?_;exact hk' (o2,(i:Int)+1) (i+1,(zF0 tag (zD6 x key)).foldl zAm O) ⟨by simp,hil,hstep.symm,hfl⟩ (by simp only;omega)
 refine zA (Δ:=zCR m ls ps ds x (SlC zN 4 st ((zD6 x key).flatMap zQ)::SlC zN 4 o (O.flatMap zQ)::blk g3 (.cells (zQ tag).toArray zN (0,0))::SlS sk KS::Γ)) ?_;refine zHo ?_;by_cases hin:tag∈zD6 x key
 ·refine s_f ?_ (by simp[hin]);obtain⟨j,hj⟩:∃j,((zD6 x key).findIdx? fun t=>decide (t=tag))=some j:=by
   cases hf:(zD6 x key).findIdx? fun t=>decide (t=tag) with
   | some j=>exact⟨j,rfl⟩
   | none=>
    rw[zhN] at hf;have:=hf tag hin;simp at this
  have hfin:=zTV (B:=B) (Γ:=SlC zN 4 st ((zD6 x key).flatMap zQ)::zG0 m ls ps ds x::SlS sk KS::Γ) (m:=m) (tag:=tag) (line:=st) (out:=o) (LN:=zD6 x key) (O:=O) (g3:=g3) (keys:=sk) (j:=j) (i7:=(i:Int)) (Q:=Q) (X1:=fun out5_1 i7_1=>k' (out5_1,i7_1)) hj (by omega) (by omega) (fun w hw=>(zO (s:=st) hw).1) fun o2=>zA (S2 o2);exact zA hfin
 ·refine s_t ?_ (by simp[hin]);have:=S2 o;rw[zV9 hin,List.foldl_nil] at this;exact zA this
theorem zTX{Q:Bool→K}(hN:x.line.length≤3000∧x.park.length≤3000∧x.doom.length≤1000000)(h:HG B (zG0 m ls ps ds x::Γ) (Q (!zEi tag x.park&&decide (zJX tag x=[])))):HG B (zG0 m ls ps ds x::Γ) (uD.call (some ⟨m,0,none⟩) (zQ tag).toArray Q):=by
 refine fun w hw=>zHj _ _ _ _ ?_;refine hg hw ?_;clear hw w;have hN':=hN;obtain⟨n1,n2,n3⟩:=hN;unfold uD;refine zD fun g3=>?_;refine zA (Δ:=zG0 m ls ps ds x::blk g3 (.cells (zQ tag).toArray zN (0,0))::Γ) ?_;refine qH (α:=Int) (ι:=Nat) (fun z i=>z=(i:Int)∧i≤x.park.length∧zEi tag (x.park.take i)=false) (fun z i=>zG0 m ls ps ds x::blk g3 (.cells (zQ tag).toArray zN (0,0))::Γ) (fun z i=>x.park.length-i) 0 ⟨rfl,zgW _,by simp[zEi]⟩ ?_;rintro k' _ i ⟨rfl,hi,hn⟩ hk';refine zQF ?_;refine yw ps fun a1 a2 a3 a4=>?_;rw[zH _ 7 xW] at a1;unfold uD.b1;refine uf ?_;refine zh (b:=m) (x:=ps) ?_;refine zF (fun hb=>?_) fun hb=>?_
 ·have hil:i<x.park.length:=by simp only[zgH] at hb;omega
  have htk:=zgJ hil;have hge:x.park[i]?=some x.park[i]:=zgG hil;have hmem:x.park[i]∈x.park:=zgX hil;generalize x.park[i]=c at htk hge hmem;refine xg ?_;refine zh (b:=m) (x:=ps) ?_;refine uY clF xW (by omega) (fun w hw=>(zO (s:=ps) hw).1) hge fun t16 ht16=>?_;refine zBc (cs:=clF c) (us:=zQ c.1) (fun w hw=>ht16 w (zO (s:=ps) hw).1) (by rw[xW];omega) ?_;refine yC (b:=g3) (l':=zQ tag) ?_;refine zHQ (xs:=zQ c.1) (ys:=zQ tag) (ks:=zJ2) zBw ?_;refine zA (Δ:=zCR m ls ps ds x (blk g3 (.cells (zQ tag).toArray zN (0,0))::Γ)) ?_;refine zHo ?_;refine zF (fun hp=>?_) fun hp=>?_
  ·have hc:c.1=tag:=by simpa using hp
   rw[show zEi tag x.park=true by unfold zEi;rw[List.any_eq_true];exact⟨c,hmem,by simp[hc]⟩] at h;exact zA h
  ·have hc:c.1≠tag:=by simpa using hp
   refine qJ ?_;exact hk' ((i:Int)+1) (i+1) ⟨by simp,hil,by rw[htk];unfold zEi at hn ⊢;rw[List.any_append,hn];simp[hc]⟩ (by omega)
 ·have hil:i=x.park.length:=by simp only[zgF] at hb;omega
  rw[hil,zgQ] at hn;refine yC (b:=g3) (l':=zQ tag) ?_;refine zA (Δ:=zCR m ls ps ds x Γ) ?_;refine zHo ?_;refine zTW hN' fun s=>?_;refine yw s fun b1 b2 b3 b4=>?_;rw[zH _ 4 zBv] at b1;rw[hn] at h;rw[show decide ((s.n:Int)=0)=(!false&&decide (zJX tag x=[])) by
   rw[Bool.not_false,zhH];congr 1;rw[←zgg];apply propext;omega]
  exact zA h
end
end
end Go.Proofs.YtlelhlcjaapkoaaGreat
namespace Go.Proofs.YtlelhlcjaapkoaaGreat
open Go Go.Sep Go.Sep.Bt
theorem SzS.mono{T W T' W':Nat}{y:SX}(h:SzS T W y)(h1:T≤T')(h2:W≤W'):SzS T' W' y:=⟨zhW h.gl h1,zLK h.gs h1,zhW h.rs h1,zhW h.rd h2,zhW h.sl h1⟩
section
variable{B:World}{Γ Δ:List zB}{q:Bool→K}
end
section
variable{B:World}{Γ Δ:List zB}{k:K}{l gm db st n:Nat}{M:GM}{dm:DM}{X:GX}{D:List (zx×Int)}{S:zo}{tag:zx}
end
section
variable{B:World}{Γ Δ:List zB}{q:Bool→K}
end
end Go.Proofs.YtlelhlcjaapkoaaGreat
namespace Go.Proofs.YtlelhlcjaapkoaaGreat
open Go Go.Sep Go.RowKit
end Go.Proofs.YtlelhlcjaapkoaaGreat
namespace Go.Proofs.YtlelhlcjaapkoaaGreat
section
open Go Go.Sep Go.Sep.Bt
theorem zOr{K:List (List UInt8)}(h:K.Pairwise (·≤·)):zCe K=K:=List.mergeSort_of_pairwise (h.imp fun h=>by simpa using h)
theorem zaW{K1 K2:List (List UInt8)}(h1:K1.Pairwise (·<·))(h2:K2.Pairwise (·<·))(hm:∀k,k∈K1↔k∈K2):K1=K2:=by
 have n1:K1.Nodup:=h1.imp fun h e=>by subst e;exact zhM _ h
 have n2:K2.Nodup:=h2.imp fun h e=>by subst e;exact zhM _ h
 have hp:K1.Perm K2:=(List.perm_ext_iff_of_nodup n1 n2).2 hm;have:=zMh hp;rwa[zOr (h1.imp fun h=>List.le_of_lt h),zOr (h2.imp fun h=>List.le_of_lt h)] at this
theorem zR0{M:GM}(hu:zBm M):(zRO M).Pairwise (·<·):=by
 unfold zRO;refine List.Pairwise.filter _ ?_;have h1:=zRX (M.map Prod.fst);have h2:(zCe (M.map Prod.fst)).Nodup:=(zhb _ _).nodup_iff.2 hu;refine(h1.and h2).imp fun h=>?_;rcases zh4.1 h.1 with h3|h3
 ·exact h3
 ·exact absurd h3 h.2
theorem zOs{M:GM}{k:List UInt8}:k∈zRO M↔(atM k M).1.length+(atM k M).2.length≠0:=by
 unfold zRO;rw[zha,zOW];constructor
 ·intro h;have h2:=h.2;simp only[zhT,zgF] at h2;exact h2
 ·intro h;refine⟨?_,by simp only[zhT,zgF];exact h⟩;rcases zFE k M with⟨h1,_⟩|⟨j,v,_,h0,_⟩
  ·unfold atM at h;rw[h1] at h;simp at h
  ·exact zgV.2 ⟨_,zgx h0,rfl⟩
theorem zNQ{k:List UInt8}{L:List Claim}:(ofK k L).length≠0↔k∈jr L:=by
 rw[Ne,zgg];unfold ofK;rw[List.filter_eq_nil_iff];constructor
 ·intro h;refine Classical.byContradiction fun h2=>h fun c hc=>?_;simp only[zgH];rintro rfl;exact h2 (zgV.2 ⟨c,hc,rfl⟩)
 ·intro h h2;obtain⟨c,hc,rfl⟩:=zgV.1 h;exact h2 c hc (by simp)
theorem keys_eq{M:GM}{dm:DM}{x:RX}(h:zGW M dm x)(hu:zBm M):zRO M=zDx x:=by
 refine zaW (zR0 hu) (zHa _) fun k=>?_;unfold zDx;rw[zOs,zDW,zgP,←zNQ,←zNQ,h.line,h.park];omega
theorem zR1{tag:zx}{LN:List zx}:zF0 tag LN=[]↔¬0<zFH (LN.findIdx? fun t=>decide (t=tag)):=by
 unfold zF0;cases hf:LN.findIdx? fun t=>decide (t=tag) with
 | none=>simp[zFH]
 | some j=>
  obtain⟨hj,_⟩:=zh0.1 hf;simp only[zhP,zFH,List.take_eq_nil_iff];constructor
  ·rintro(h|h)
   ·omega
   ·rw[h] at hj;simp at hj
  ·intro h;left;omega
theorem zUy(L out:List zx)(h:out≠[]∨L≠[]):L.foldl zAm out≠[]:=by
 induction L generalizing out with
 | nil=>simpa using h
 | cons t L ih=>
  rw[zhK];refine ih _ (.inl ?_);unfold zAm;split
  ·rename_i hm;exact fun e=>by rw[e] at hm;simp at hm
  ·simp
theorem zR2{tag:zx}{g:List UInt8→List zx}:∀(K:List (List UInt8)) (out:List zx),K.foldl (fun out key=>(zF0 tag (g key)).foldl zAm out) out=[]↔out=[]∧∀key∈K,zF0 tag (g key)=[]
 | [],out=>by simp
 | key::K,out=>by
  rw[zhK,zR2 K];constructor
  ·rintro⟨h1,h2⟩;by_cases ho:out=[]
   ·by_cases hf:zF0 tag (g key)=[]
    ·exact⟨ho,fun k hk=>by
      rcases zgS.1 hk with rfl|hk
      ·exact hf
      ·exact h2 k hk⟩
    ·exact absurd h1 (zUy _ _ (.inr hf))
   ·exact absurd h1 (zUy _ _ (.inl ho))
  ·rintro⟨h1,h2⟩;refine⟨?_,fun k hk=>h2 k (zgI _ hk)⟩;rw[h2 key zgN,h1];rfl
theorem zeY{M:GM}{p:List UInt8×(List Claim×List Claim)}(hu:zBm M)(hp:p∈M):atM p.1 M=p.2:=by
 obtain⟨A,C,rfl⟩:=zhf hp;unfold atM;rw[zRM (zJ5 (k:=p.1) (v:=p.2) hu).1];rfl
theorem zbb{M:GM}{k:List UInt8}(h:(atM k M).1.length+(atM k M).2.length≠0):(k,atM k M)∈M:=by
 unfold atM at h ⊢;rcases zFE k M with⟨h1,_⟩|⟨j,v,_,h0,_,h1,_⟩
 ·rw[h1] at h;simp at h
 ·rw[h1];exact zgx h0
theorem ready_eq{M:GM}{dm:DM}{x:RX}{tag:zx}(h:zGW M dm x)(hu:zBm M):zFj tag M=(!zEi tag x.park&&decide (zJX tag x=[])):=by
 have hidx:∀L:List Claim,(L.findIdx? fun c=>decide (c.1=tag))=((L.map Prod.fst).findIdx? fun t=>decide (t=tag)):=fun L=>by rw[List.findIdx?_map];rfl
 rw[ziH];unfold zFj zJX;rw[zg2,zgp,zgH,zR2];constructor
 ·intro ha;refine⟨?_,rfl,fun key hk=>?_⟩
  ·rw[zhT,zEi,List.any_eq_false];intro c hc hct;have hin:c∈(atM c.2.key M).2:=by rw[h.park];exact zha.2 ⟨hc,by simp⟩
   have hl:(atM c.2.key M).2.length≠0:=by intro e;rw[zgg.1 e] at hin;cases hin
   have:=ha _ (zbb (M:=M) (k:=c.2.key) (by omega));unfold zFi at this;rw[zgp,zhT,zEi,List.any_eq_false] at this;exact this.1 c hin hct
  ·rw[←keys_eq h hu,zOs] at hk;have:=ha _ (zbb hk);unfold zFi at this;rw[zgp] at this;have h2:=this.2;simp only[zhT,zgF] at h2;rw[hidx,h.line] at h2;exact zR1.2 h2
 ·rintro⟨h1,_,h2⟩ p hp;have hpa:=zeY hu hp;unfold zFi;rw[zgp];refine⟨?_,?_⟩
  ·rw[←hpa,h.park];rw[zhT,zEi,List.any_eq_false] at h1 ⊢;exact fun c hc=>h1 c (zha.1 hc).1
  ·simp only[zhT,zgF];rw[hidx,←hpa,h.line];by_cases hk:p.1∈zDx x
   ·exact zR1.1 (h2 _ hk)
   ·have:ofK p.1 x.line=[]:=by
     refine Classical.byContradiction fun hne=>hk ?_;unfold zDx;rw[zDW,zgP];exact .inl (zNQ.1 fun e=>hne (zgg.1 e))
    rw[this];simp[zFH]
end
section
open Go Go.Sep Go.Sep.Bt
def zaX(v:List UInt8):Int:=if v.length=8 then numOf v else 0
def zcx(n:Nat)(C:zo)(o:OpM):zo×Int :=
 if(yt n C (bs o.key)).has=true∧(yt n C (bs o.key)).val.length≠8 then(C,110) else
 if zUc (zaX (yt n C (bs o.key)).val) o.n then(C,111) else(zPv n C (bs o.key) (valOf (zaX (yt n C (bs o.key)).val+o.n)),0)
def zKK(n:Nat)(C:zo)(o:OpM):zo×OM×Int :=
 if o.kind=1 then(C,[((yt n C (bs o.key)).has,(yt n C (bs o.key)).val)],0) else
 if o.kind=7 then(C,[(true,o.val)],0) else
 if o.kind=2 then(zPv n C (bs o.key) o.val,[],0) else
 if o.kind=3 then(zPw n C (bs o.key),[],0) else
 if o.kind=4 then(C,[],if(yt n C (bs o.key)).has=true∧(yt n C (bs o.key)).val=o.val then 0 else 110) else
 if o.kind=5 then(C,[],if(yt n C (bs o.key)).has then 110 else 0) else((zcx n C o).1,[],(zcx n C o).2)
abbrev isW(o:OpM):Bool:=decide (o.kind=2)||decide (o.kind=3)||decide (o.kind=6)
def zWA(n:Nat):List OpX→zo→OM→List TX→zo×OM×List TX×Int
 | [],C,O,T=>(C,O,T,0)
 | x::xs,C,O,T=>if(zKK n C x.1).2.2≠0 then(C,O,T,(zKK n C x.1).2.2) else zWA n xs (zKK n C x.1).1 (O++(zKK n C x.1).2.1) (if isW x.1 then T++[x.1.key] else T)
def zAz(n:Nat)(M:zo)(t:TxX):OM×Int×WM :=
 if t.kind=2 then(if(jw n M (bs (t.writes.headD [])) t.to).2≠0 then([],111,[]) else([],0,[(t.writes.headD [],yt n (jw n M (bs (t.writes.headD [])) t.to).1 (bs (t.writes.headD [])))]))
 else if(zWA n t.ops M [] []).2.2.2≠0 then([],(zWA n t.ops M [] []).2.2.2,[]) else((zWA n t.ops M [] []).2.1,0,(vX (zWA n t.ops M [] []).2.2.1).map fun k=>(k,yt n (zWA n t.ops M [] []).1 (bs k)))
section
variable{B:World}{Γ Δ:List zB}{st sd n:Nat}{M C:zo}{P:Pool}
theorem zYh{Q:Option Addr→K}(hL:M.length<1000000)(h:∀c,HG B (jC c n M P::jC sd n M P::Γ) (Q (some ⟨c,0,none⟩))):HG B (jC sd n M P::Γ) (zBF.call (some ⟨sd,0,none⟩) Q):=by
 refine fun w hw=>zIS _ _ _ ?_;refine hg hw ?_;clear hw w;refine zP2 fun rs X hf=>?_;have hXl:X.length=M.length:=by rw[hf.mod];simp
 refine yw rs fun a1 a2 a3 a4=>?_;rw[zH _ 5 zBy] at a1;unfold zBF;refine xg ?_;refine zBl [blk sd (.cells [.int .i64 n,rs.val].toArray zEU (0,0))] ?_;refine uf ?_
 repeat refine zT ?_
 refine zD fun t7=>?_
 repeat refine zT ?_
 refine zBg (A':=SlC qw 5 ⟨some ⟨t7,0,none⟩,0,0⟩ (([]:List zCF).flatMap zAL)) (zAq (vs:=[]) rfl (by simp)) ?_;refine qp (s:=⟨some ⟨t7,0,none⟩,0,0⟩) (esz:=5) (us:=X.flatMap zAL) (fun w hw=>(zO (s:=rs) hw).1) (zKA X) (by simp only;omega) fun s2 _=>?_;rw[zhn,zg6]
 repeat refine zT ?_
 refine zD fun c=>?_;refine zA (Δ:=zHd sd n rs X (zHd c n s2 X Γ)) ?_;refine zFJ hf ?_;refine uL s2 ?_;refine yN c ?_;refine zFJ hf ?_;exact zA (h c)
theorem fm1(L:List TX):L.flatMap (fun x=>[qE x])=L.map qE:=by induction L <;> simp_all
theorem zUz{s:Sl}{L:List TX}{j:Nat}{jj:Int}{x:TX}{k:Addr→K}(hr:∀w,Holds B Γ w→RdC w s 1 (L.map qE))(hx:L[j]?=some x)(h:∀t,(∀w,RdC w s 1 (L.map qE)→w.cell? t=some (qE x))→HG B Γ (k t))(hj:jj=(j:Int):=by first|rfl|omega):HG B Γ (Idx s jj 1 k):=by
 have e:=fm1 L;refine uY (fun x:TX=>[qE x]) (fun _=>rfl) (by omega) (fun w hw=>by rw[e];exact hr w hw) hx (fun t ht=>h t fun w hw=>?_) hj;have h1:=ht w (by rw[e];exact hw) 0 (by simp);rw[add0] at h1;simpa using h1
abbrev zK4(P:Pool)(t:TxX)(O:OX):Prop:=∀x∈O,inP P x.2 x.1.2∨∃op∈t.ops,x.2=op.2∧x.1.2=op.1.val
abbrev RowsIn(P:Pool)(R:WX):Prop:=∀x∈R,x.2.1.ok∧inP P x.2.2 x.2.1.val
theorem zK4.mono{P P':Pool}{t:TxX}{O:OX}(h:zK4 P t O)(hP:∀x∈P,x∈P'):zK4 P' t O:=fun x hx=>(h x hx).imp (fun h=>h.mono hP) id
theorem zeZ{t:Addr}{z:zCF}{s:Sl}{Z:List zCF}{k:Array Value→K}(ht:∀w,RdC w s 5 (Z.flatMap zAL)→RdN w t (zAL z).toArray)(hz:∀w,Holds B Γ w→RdC w s 5 (Z.flatMap zAL))(hk:HG B Γ (k (zDn z.2.1 z.2.2).toArray)):HG B Γ (LdN (t.add 1) 4 k):=fun w hw=>⟨_,rfl,fun i hi=>by
 have:=ht w (hz w hw) (1+i) (by simp at hi ⊢;omega);have e:(t.add 1).add i=t.add (1+i):=by simp[Addr.add,Nat.add_assoc]
 rw[e,this];simp[Nat.add_comm 1 i],hk w hw⟩
def zFZ(M:zo)(W:WM):zo:=W.foldl (fun M x=>zEO M (bs x.1) x.2) M
theorem zWB(M:zo)(W:WM):(zFZ M W).length≤M.length+W.length:=by
 unfold zFZ
 induction W generalizing M with
 | nil=>simp
 | cons x W ih=>
  have h1:=ih (zEO M (bs x.1) x.2);have h2:=zMp M (bs x.1) x.2;simp only[zhK,zgO];omega
theorem zWC{rs:Sl}{R:WX}{Q:K}(hr:∀w,Holds B Γ w→RdC w rs 5 (R.flatMap zDK))(hR:RowsIn P R)(hL:M.length+R.length<1000000)(h:HG B (jC sd n (zFZ M (zA4 R)) P::Γ) Q):HG B (jC sd n M P::Γ) (zAj.call (some ⟨sd,0,none⟩) rs Q):=fun w hw=>by
 refine zMi _ _ _ _ ?_;have hsn:rs.n=R.length:=zAM zJ8 (by omega) (hr w hw.tail);refine hg hw ?_;clear hw w;have hr6:∀{X:zB} w,Holds B (X::Γ) w→RdC w rs 5 ((R.map fun x=>((bs x.1,x.2):zCF)).flatMap zAL):=fun w hw=>by rw[←zYR];exact hr w hw.tail
 unfold zAj;refine qH (α:=Int) (ι:=Nat) (fun x i=>x=(i:Int)∧i≤R.length) (fun x i=>jC sd n (zFZ M (zA4 (R.take i))) P::Γ) (fun x i=>R.length-i) 0 ⟨rfl,zgW _⟩ ?_;rintro k' _ i ⟨rfl,hi⟩ hk';unfold zAj.b1;refine zF (fun hb=>?_) fun hb=>?_
 ·have hil:i<R.length:=by simp only[zgH] at hb;omega
  have hge:(R.map fun x=>((bs x.1,x.2):zCF))[i]?=some (bs R[i].1,R[i].2):=by rw[zgk,zgG hil];rfl
  have htk:R.take (i+1)=R.take i++[R[i]]:=zgJ hil;obtain⟨g1,g2⟩:=hR _ (zgX hil);generalize R[i]=x at hge htk g1 g2;refine xg ?_;refine uY zAL zBy (by omega) hr6 hge fun t1 ht1=>?_;refine uY zAL zBy (by omega) hr6 hge fun t2 ht2=>?_;refine zTC (cs:=zAL (bs x.1,x.2)) (x:=bs x.1) (fun w hw=>ht1 w (hr6 w hw)) rfl ?_;refine zeZ (z:=(bs x.1,x.2)) ht2 hr6 ?_;have hml:=zWB M (zA4 (R.take i));simp only[zgL,zgR] at hml;refine zUe (r:=x.2.1) g1 g2 (by omega) ?_;refine qJ ?_;have h2:=hk' ((i:Int)+1) (i+1) ⟨by simp,hil⟩ (by omega);rw[htk] at h2;simp only[zA4,zFZ,zgT,zgd,zhp,zhQ,zhK,List.foldl_nil] at h2 ⊢;exact h2
 ·have hil:i=R.length:=by simp only[zgF] at hb;omega
  rw[hil,zgQ];exact h
end
end
section
open Go Go.Sep Go.Sep.Bt
structure Wf(n:Nat)(M:zo):Prop where
 home:∀k,(yt n M k).cnt=0→(yt n M k).home=(zCP k.toList n:Nat)
 val:∀k,(yt n M k).has=false→(yt n M k).val=[]
 cnt:∀k,0≤(yt n M k).cnt
theorem Wf.nil{n:Nat}:Wf n []:=⟨fun _ _=>rfl,fun _ _=>rfl,fun _=>by simp[yt,getM]⟩
theorem Wf.set{n:Nat}{M:zo}(h:Wf n M){k:ByteArray}{r:Rec}(h1:r.cnt=0→r.home=(zCP k.toList n:Nat))(h2:r.has=false→r.val=[])(h3:0≤r.cnt):Wf n (zEO M k r):=by
 constructor
 ·intro k';rw[zHZ];split
  ·rename_i e;subst e;split
   ·intro _;rfl
   ·exact h1
  ·exact h.home k'
 ·intro k';rw[zHZ];split
  ·split
   ·intro _;rfl
   ·exact h2
  ·exact h.val k'
 ·intro k';rw[zHZ];split
  ·split
   ·simp
   ·exact h3
  ·exact h.cnt k'
theorem Wf.put{n:Nat}{M:zo}(h:Wf n M)(k:ByteArray)(v:List UInt8):Wf n (zPv n M k v):=h.set (h.home k) (fun h=>by cases h) (h.cnt k)
theorem Wf.del{n:Nat}{M:zo}(h:Wf n M)(k:ByteArray):Wf n (zPw n M k):=h.set (h.home k) (fun _=>rfl) (h.cnt k)
theorem zHp{n:Nat}{M:zo}{k:ByteArray}{r:Rec}(h:r.cnt≠0):zB1 M k r=zEO M k r:=by
 unfold zEO;rw[if_neg (fun hh=>h hh.2)]
theorem Wf.move{n:Nat}{M:zo}(h:Wf n M)(k:ByteArray)(t:Int):Wf n (jw n M k t).1:=by
 unfold jw;split
 ·exact h
 split
 ·exact h
 ·have h0:=h.cnt k;rw[zHp (n:=n) (by simp only;omega)];exact h.set (fun hh=>by simp only at hh;omega) (h.val k) (by simp only;omega)
structure zIy(n:Nat)(M:zo)(W:WM)(C:zo)(T:List TX):Prop where
 get:∀k:TX,yt n C (bs k)=jy n M W k
 keys:∀k:TX,k∈T↔k∈W.map Prod.fst
 wf:Wf n C
theorem zYi{a b:TX}(h:bs a=bs b):a=b:=by
 have:=congrArg ByteArray.toList h;rwa[qZ,qZ] at this
theorem zYj{W:WM}{k x:TX}{r:Rec}:x∈(uH k r W).map Prod.fst↔x=k∨x∈W.map Prod.fst:=by
 rw[zEK];split
 ·rename_i h;constructor
  ·exact .inr
  ·rintro(rfl|h2)
   ·exact h
   ·exact h2
 ·simp[or_comm]
theorem zIy.set{n:Nat}{M:zo}{W:WM}{C:zo}{T:List TX}(h:zIy n M W C T){k:TX}{r:Rec}(h1:r.cnt=0→r.home=(zCP k n:Nat))(h2:r.has=false→r.val=[])(h3:0≤r.cnt):zIy n M (uH k r W) (zEO C (bs k) r) (T++[k]):=by
 refine⟨fun k'=>?_,fun k'=>?_,h.wf.set (by rw[qZ];exact h1) h2 h3⟩
 ·rw[zHZ,zYI];by_cases hk:k'=k
  ·subst hk;rw[if_pos rfl,if_pos rfl];split
   ·rename_i hh;obtain⟨has,val,home,cnt⟩:=r;obtain⟨rfl,rfl⟩:has=false∧cnt=0:=hh;have e1:=h1 rfl;have e2:=h2 rfl;simp only at e1 e2;rw[qZ,e1,e2]
   ·rfl
  ·rw[if_neg (fun e=>hk (zYi e)),if_neg hk];exact h.get k'
 ·rw[zYj,zgP,zgM,h.keys k'];exact or_comm
theorem zIy.rcd{n:Nat}{M:zo}{W:WM}{C:zo}{T:List TX}(h:zIy n M W C T)(k:TX):((jy n M W k).cnt=0→(jy n M W k).home=(zCP k n:Nat))∧((jy n M W k).has=false→(jy n M W k).val=[])∧0≤(jy n M W k).cnt:=by
 rw[←h.get k];refine⟨fun hh=>?_,h.wf.val _,h.wf.cnt _⟩;have:=h.wf.home (bs k) hh;rwa[qZ] at this
theorem zYk{r:Rec}(h:r.has=false→r.val=[]):zaX r.val=(if r.has then numOf r.val else 0)∨(r.has=true∧r.val.length≠8):=by
 unfold zaX;by_cases h8:r.val.length=8
 ·left;rw[if_pos h8];have:r.has=true:=by
   cases hh:r.has
   ·rw[h hh] at h8;cases h8
   ·rfl
  rw[if_pos this]
 ·rw[if_neg h8];cases hh:r.has
  ·left;simp
  ·right;exact⟨rfl,h8⟩
theorem zIy.step{n:Nat}{M:zo}{W:WM}{C:zo}{T:List TX}(h:zIy n M W C T){O:OM}{o:OpM}(hk:1≤o.kind∧o.kind≤7):
  (stepW n M W O o).2.2=(zKK n C o).2.2∧((zKK n C o).2.2=0→(stepW n M W O o).2.1=O++(zKK n C o).2.1∧zIy n M (stepW n M W O o).1 (zKK n C o).1 (if isW o then T++[o.key] else T)):=by
 have hg:=h.get o.key;obtain⟨r1,r2,r3⟩:=h.rcd o.key;unfold stepW zKK;by_cases k1:o.kind=1
 ·rw[if_pos k1,if_pos k1];refine⟨rfl,fun _=>⟨by rw[hg],?_⟩⟩;rw[show isW o=false by simp[isW,k1]];exact h
 rw[if_neg k1,if_neg k1];by_cases k7:o.kind=7
 ·rw[if_pos k7,if_pos k7];refine⟨rfl,fun _=>⟨rfl,?_⟩⟩;rw[show isW o=false by simp[isW,k7]];exact h
 rw[if_neg k7,if_neg k7];by_cases k2:o.kind=2
 ·rw[if_pos k2,if_pos k2];refine⟨rfl,fun _=>⟨by simp,?_⟩⟩;rw[show isW o=true by simp[isW,k2],if_pos rfl];unfold setW zPv;rw[hg];exact h.set r1 (fun h=>by cases h) r3
 rw[if_neg k2,if_neg k2];by_cases k3:o.kind=3
 ·rw[if_pos k3,if_pos k3];refine⟨rfl,fun _=>⟨by simp,?_⟩⟩;rw[show isW o=true by simp[isW,k3],if_pos rfl];unfold setW zPw;rw[hg];exact h.set r1 (fun _=>rfl) r3
 rw[if_neg k3,if_neg k3];by_cases k4:o.kind=4
 ·rw[if_pos k4,if_pos k4,hg];refine⟨rfl,fun _=>⟨by simp,?_⟩⟩;rw[show isW o=false by simp[isW,k4]];exact h
 rw[if_neg k4,if_neg k4];by_cases k5:o.kind=5
 ·rw[if_pos k5,if_pos k5,hg];refine⟨rfl,fun _=>⟨by simp,?_⟩⟩;rw[show isW o=false by simp[isW,k5]];exact h
 rw[if_neg k5,if_neg k5];have k6:o.kind=6:=by omega
 rw[if_pos k6];rw[show isW o=true by simp[isW,k6],if_pos rfl];unfold zNt zcx;rw[hg];by_cases hb:(jy n M W o.key).has=true∧(jy n M W o.key).val.length≠8
 ·rw[if_pos hb,if_pos hb];exact⟨rfl,fun hh=>by simp at hh⟩
 rw[if_neg hb,if_neg hb];have hnum:=(zYk r2).resolve_right hb;rw[hnum];by_cases hov:zUc (if(jy n M W o.key).has then numOf (jy n M W o.key).val else 0) o.n=true
 ·rw[if_pos hov,if_pos hov];exact⟨rfl,fun hh=>by simp at hh⟩
 rw[if_neg hov,if_neg hov];refine⟨rfl,fun _=>⟨by simp,?_⟩⟩;simp only;unfold setW zPv;rw[hg];exact h.set r1 (fun h=>by cases h) r3
theorem zYl{M:zo}{k:ByteArray}{r' r:Rec}:zB1 (zB1 M k r') k r=zB1 M k r:=by
 have hkk:¬uX k k<0:=fun h=>zhM _ (zC8.1 h)
 induction M with
 | nil=>simp[zB1,hkk]
 | cons x M ih=>
  by_cases h1:uX x.1 k<0
  ·simp only[zB1,h1,zhX,ih]
  ·by_cases h2:x.1=k
   ·simp[zB1,h2,hkk]
   ·simp[zB1,h1,h2,hkk]
structure zea(n:Nat)(N:zo)(x:List UInt8×Rec):Prop where
 val:x.2.has=false→x.2.val=[]
 rcd:(x.2.home=(yt n N (bs x.1)).home∧x.2.cnt=(yt n N (bs x.1)).cnt)∨(0≤x.2.home∧x.2.home<n∧(yt n N (bs x.1)).cnt≠18446744073709551615∧x.2.cnt=(yt n N (bs x.1)).cnt+1∧0≤(yt n N (bs x.1)).cnt)
theorem zWD{n:Nat}{N:zo}{x:List UInt8×Rec}(h:zea n N x):zDL n N x=zEO N (bs x.1) x.2:=by
 obtain⟨k,has,val,home,cnt⟩:=x;obtain⟨hv,hc⟩:=h;simp only at hv hc;rcases hc with⟨h1,h2⟩|⟨h1,h2,h3,h4,h5⟩
 ·have e0:zCA n N (k,⟨has,val,home,cnt⟩)=N:=by unfold zCA;rw[if_neg (by simp[h2])]
  unfold zDL;rw[e0];cases has
  ·simp only[zgc,zhG,zPw];rw[hv rfl,h1,h2]
  ·simp only[zhX,zPv];rw[h1,h2]
 ·have e0:zCA n N (k,⟨has,val,home,cnt⟩)=zB1 N (bs k) { yt n N (bs k) with home:=home,cnt:=(yt n N (bs k)).cnt+1 }:=by
   unfold zCA;rw[if_pos (by simp only[ne_eq];omega)];unfold jw;rw[if_neg (by simp only;omega),if_neg h3]
  have hg:yt n (zCA n N (k,⟨has,val,home,cnt⟩)) (bs k)={ yt n N (bs k) with home:=home,cnt:=(yt n N (bs k)).cnt+1 }:=by rw[e0,zJy,if_pos rfl]
  unfold zDL;have key:∀r:Rec,r.cnt≠0→zEO (zCA n N (k,⟨has,val,home,cnt⟩)) (bs k) r=zEO N (bs k) r:=fun r hr=>by
   rw[←zHp (n:=n) hr,←zHp (n:=n) hr,e0,zYl]
  cases has
  ·simp only[zgc,zhG,zPw];rw[key _ (by rw[hg];simp only;omega),hg,hv rfl,h4]
  ·simp only[zhX,zPv];rw[key _ (by rw[hg];simp only;omega),hg,h4]
theorem zNR{n:Nat}:∀{W:WM} {N:zo},zCH W→(∀x∈W,zea n N x)→zAU n N W=zFZ N W
 | [],_,_,_=>rfl
 | x::W,N,ho,h=>by
  have h1:=zh7.1 (show(x.1::W.map Prod.fst).Nodup from ho);show zAU n (zDL n N x) W=zFZ (zEO N (bs x.1) x.2) W;rw[zWD (h x zgN)];refine zNR h1.2 fun y hy=>?_;obtain⟨g1,g2⟩:=h y (zgI _ hy);have hne:¬bs y.1=bs x.1:=fun e=>h1.1 (by rw[←zYi e];exact zgV.2 ⟨y,hy,rfl⟩);refine⟨g1,?_⟩;rw[zHZ,if_neg hne];exact g2
abbrev zfq(n:Nat)(k:TX)(r:Rec):Prop:=(r.cnt=0→r.home=(zCP k n:Nat))∧(r.has=false→r.val=[])∧0≤r.cnt
theorem zU0{n:Nat}:∀{W:WM} {N:zo},Wf n N→(∀x∈W,zfq n x.1 x.2)→Wf n (zFZ N W)
 | [],_,h,_=>h
 | x::W,N,h,hr=>by
  obtain⟨h1,h2,h3⟩:=hr x zgN;show Wf n (zFZ (zEO N (bs x.1) x.2) W);exact zU0 (h.set (by rw[qZ];exact h1) h2 h3) fun y hy=>hr y (zgI _ hy)
theorem zIy.start{n:Nat}{M:zo}(h:Wf n M):zIy n M [] M []:=⟨fun _=>rfl,fun k=>by simp,h⟩
structure zTY(n:Nat)(M:zo)(t:TxX):Prop where
 code:(jV n M t).2.2=(zAz n M t).2.1
 bad:(zAz n M t).2.1≠0→(zAz n M t).1=[]∧(zAz n M t).2.2=[]
 outs:(zAz n M t).2.1=0→(jV n M t).2.1=(zAz n M t).1
 rows:(zAz n M t).2.1=0→zHY (jV n M t).1=(zAz n M t).2.2
 app:(zAz n M t).2.1=0→zAU n M (zAz n M t).2.2=zFZ M (zAz n M t).2.2
 wf:Wf n (zFZ M (zAz n M t).2.2)
theorem zaY{n:Nat}{M:zo}{t:TxX}(h:qC (n:Int) t=true)(hw:Wf n M)(hk:t.kind=2):zTY n M t:=by
 obtain⟨ht1,k,ht2⟩:=zDM h hk;have hto:0≤t.to∧t.to<(n:Int):=by
  unfold qC at h;split at h
  ·cases h
  split at h
  ·cases h
  simp only[hk,zhX,zgp,zgH] at h;omega
 have hh:t.writes.headD []=k:=by rw[ht2];rfl
 have hn:jy n M [] k=yt n M (bs k):=rfl;have hW:jV n M t=if(yt n M (bs k)).cnt=18446744073709551615 then([],[],111) else([(k,{ yt n M (bs k) with home:=t.to,cnt:=(yt n M (bs k)).cnt+1 })],[],0):=by
  unfold jV;rw[if_pos hk,ht2,zEM,hn];split
  ·rfl
  ·rw[zID];rfl
 have hC:zAz n M t=if(yt n M (bs k)).cnt=18446744073709551615 then([],111,[]) else([],0,[(k,{ yt n M (bs k) with home:=t.to,cnt:=(yt n M (bs k)).cnt+1 })]):=by
  unfold zAz;rw[if_pos hk,hh];unfold jw;rw[if_neg (show ¬(t.to<0∨(n:Int)≤t.to) by omega)];by_cases hc:(yt n M (bs k)).cnt=18446744073709551615
  ·rw[if_pos hc,if_pos hc];rfl
  ·rw[if_neg hc,if_neg hc];simp only[ne_eq,not_true_eq_false,zhG];rw[zJy,if_pos rfl]
 by_cases hc:(yt n M (bs k)).cnt=18446744073709551615
 ·rw[if_pos hc] at hW hC;constructor
  ·rw[hW,hC]
  ·intro _;rw[hC];exact⟨rfl,rfl⟩
  ·intro h0;rw[hC] at h0;cases h0
  ·intro h0;rw[hC] at h0;cases h0
  ·intro h0;rw[hC] at h0;cases h0
  ·rw[hC];exact hw
 ·rw[if_neg hc] at hW hC;have h0:=hw.cnt (bs k);constructor
  ·rw[hW,hC]
  ·intro h9;rw[hC] at h9;exact absurd rfl h9
  ·intro _;rw[hW,hC]
  ·intro _;rw[hW,hC];exact List.mergeSort_singleton _
  ·intro _;rw[hC];refine zNR (by simp[zCH]) fun x hx=>?_;rw[zgM.1 hx];exact⟨hw.val (bs k),.inr ⟨hto.1,hto.2,hc,rfl,h0⟩⟩
  ·rw[hC];refine zU0 hw fun x hx=>?_;rw[zgM.1 hx];exact⟨fun h=>by simp only at h;omega,hw.val (bs k),by simp only;omega⟩
end
section
open Go Go.Sep Go.Sep.Bt
abbrev itV(kind ix:Int)(tag:zx)(t:TxX)(ms:Sl):List Value:=.int .i64 kind::.int .i64 ix::orV tag t ms
abbrev tgB(tb:Nat)(tag:zx):zB:=blk tb (.cells (zQ tag).toArray zN (0,0))
abbrev rgB(rb:Nat)(r:Int):zB:=blk rb (.cells [.int .i64 r].toArray zDF (0,0))
abbrev itB(ib:Nat)(kind ix:Int)(tag:zx)(t:TxX)(ms:Sl):zB:=blk ib (.cells (itV kind ix tag t ms).toArray uq (0,0))
theorem zNS{tag:zx}{r:Int}{j:zFP}{C:List zFP}(hj:j.tag=tag):∀{A:List zFP},(∀y∈A,y.tag≠tag)→zKw tag r (A++j::C)=A++{ j with need:=j.need.filter fun h=>!decide (h=r) }::C
 | [],_=>by simp[zKw,hj]
 | x::A,h=>by
  rw[zhC];unfold zKw;rw[if_neg (h x zgN),zNS hj fun y hy=>h y (zgI _ hy)];rfl
theorem zNT{a b:TxX}(h:zC9 a b):zC9 b a:=⟨h.1.symm,h.2.1.symm,h.2.2.1.symm,h.2.2.2.1.symm,h.2.2.2.2.symm⟩
theorem zMA{Pt:TxX→Prop}{tag:zx}{r:Int}:∀{J:List zFP},(∀j∈J,Pt j.tx)→∀j∈zKw tag r J,Pt j.tx
 | [],h=>h
 | x::J,h=>fun j hj=>by
  unfold zKw at hj;split at hj
  ·rcases zgS.1 hj with rfl|hj
   ·exact h x (by simp)
   ·exact h j (by simp[hj])
  ·rcases zgS.1 hj with rfl|hj
   ·exact h j (by simp)
   ·exact zMA (fun y hy=>h y (by simp[hy])) j hj
section
variable{Pm:zo→Prop}{Pt:TxX→Prop}{B:World}{Γ Δ:List zB}{k:K}{sd st l n T:Nat}{S:zCg}{a b c:Sl}{F:List FX}{J:List zB3}{t:TxX}{mks:List MkX}{ms:Sl}{tag:zx}{r kind ix:Int}
theorem zU1{q:Sl→K}(Kt:zRk n Pm Pt)(hPm:Pm S.M)(hPt:∀j∈S.jobs,Pt j.tx)(ho:zF5 n T S F J)(hT:T≤20000)(h:∀(s:Sl) (D:List DcX),D.map zIb=(zGq n S).2→D.length≤T→HG B (SlC zu 6 s (D.flatMap dcF)::Sep.stars (D.map dcO)::zCh sd n T (zGq n S).1::Γ) (q s)):
  HG B (zFQ sd st l n T S a b c F J Γ) (vM.call (some ⟨sd,0,none⟩) q):=by
 obtain⟨K,hK,hKl⟩:=ho.gz;have hjl:=ho.jl;have hml:=ho.ml;have hsj:=ho.jobs;refine zYY (T:=K) Kt hPm (fun j hj=>Kt.same (zII j.t) (hPt (zCf j) (by rw[←ho.jobs];exact zgV.2 ⟨j,hj,rfl⟩))) ho.ok hK (by omega) (by omega) fun s D c' J' hD hJ' hmem hlen hM hG=>?_;unfold zGq at h;rw[←hsj] at h;have hjl2:(J.map zCf).length=J.length:=zgL _;rw[hjl2] at h;refine zA (Δ:=zFQ sd st l n T (⟨(zAo n J.length (J.map zCf) S.M S.G).1.2.1,(zAo n J.length (J.map zCf) S.M S.G).1.2.2,S.fils,S.fed,(zAo n J.length (J.map zCf) S.M S.G).1.1⟩:zCg) a b c' F J' (SlC zu 6 s (D.flatMap dcF)::Sep.stars (D.map dcO)::Γ)) ?_;refine zFX ⟨ho.n1,ho.n3,ho.fils,ho.rgs,ho.fedl,ho.fedr,hJ',fun j hj=>ho.ok j (hmem j hj),by omega,⟨K+D.length,hG,by omega⟩,by simp only;omega⟩ ?_;exact zA (h s D hD (by omega))
theorem zYm{A C:List zB3}{j:zB3}{K rb tb:Nat}{ms2:Sl}{mk2:List MkX}{q:Sl→Sep.K}(Kt:zRk n Pm Pt)(hPm:Pm S.M)(hPt:∀j∈S.jobs,Pt j.tx)(hT:T≤20000)(hJ:J=A++j::C)(hA:∀y∈A,y.tag≠tag)(hj:j.tag=tag)(ho:zF5 n T S F J)(hK:SzG K S.G)(hKl:K+J.length+mk2.length≤40*T)
  (hm:∀w,Holds B Γ w→RdC w ms2 3 (mk2.flatMap mkL)) (hk:∀m∈mk2,m.key.length<1000000000)
  (h:∀(s:Sl) (D:List DcX),D.map zIb=(zGq n ⟨S.M,zBO n S.M tag (mk2.map mM) S.G,S.fils,S.fed,zKw tag r S.jobs⟩).2→D.length≤T→HG B (SlC zu 6 s (D.flatMap dcF)::Sep.stars (D.map dcO)::zCh sd n T (zGq n ⟨S.M,zBO n S.M tag (mk2.map mM) S.G,S.fils,S.fed,zKw tag r S.jobs⟩).1::Γ) (q s)) :
  HG B (zFQ sd st l n T S a b c F J (rgB rb r::tgB tb tag::Γ)) (zf.s3 q ⟨sd,0,none⟩ ⟨rb,0,none⟩ ⟨tb,0,none⟩ ms2 (zD4 j)):=by
 subst hJ;have hoj:=ho.ok j (by simp);have hlen:(A++j::C).length=A.length+(C.length+1):=by simp
 unfold zf.s3;refine uf ?_;refine qc (Sep.stars ((A++j::C).map zGU)) ?_;refine zFB ?_;refine zUo ?_;refine zh (b:=j.b) (off:=10) (l:=zP8 j) (x:=j.ns) ?_;refine uL j.ns ?_;refine zTM (L:=j.need) (by have:=hoj.nl;omega) fun ns'=>?_;refine zCN (b:=j.b) (off:=10) (l:=zP8 j) (l':=zP8 { j with ns:=ns',need:=j.need.filter fun x=>!decide (x=r) }) ?_ rfl rfl;refine zA (Δ:=zTJ { j with ns:=ns',need:=j.need.filter fun x=>!decide (x=r) } (Sep.stars ((A++C).map zGU)::blk sd (.cells (sdL st l a b c).toArray yS (0,0))::vL l S.G.1 S.G.2::yM st n S.M::SlC uw 1 c (((A++j::C).map zD4).map Value.pointer)::SlC xD 1 a ((F.map zIc).map Value.pointer)::Sep.stars (F.map (zGV T))::SlI b S.fed::tgB tb tag::Γ)) ?_;refine zL8 ?_;refine zAb ?_;rw[show((A++j::C).map zD4).map Value.pointer=((A++{ j with ns:=ns',need:=j.need.filter fun x=>!decide (x=r) }::C).map zD4).map Value.pointer by simp];refine xg ?_;refine zh (b:=sd) (off:=1) (l:=sdL st l a b c) (x:=some ⟨l,0,none⟩) ?_;refine zh (b:=sd) (l:=sdL st l a b c) (x:=some ⟨st,0,none⟩) ?_;refine yC (b:=tb) (l:=zQ tag) (l':=zQ tag) ?_;refine yN st ?_;refine yN l ?_;refine zXx (L:=mk2.map mM) (N:=K) (fun w hw=>by rw[zUp];exact hm w (hw.drops (Δ:=Γ))) (fun m hm=>by obtain⟨x,hx,rfl⟩:=zgV.1 hm;exact hk x hx) hK.gsz (by rw[zgL];omega) ?_;show HG B (vL l (zBO n S.M tag (mk2.map mM) S.G).1 (zBO n S.M tag (mk2.map mM) S.G).2::_) _;generalize hj':({ j with ns:=ns',need:=j.need.filter fun x=>!decide (x=r) }:zB3)=j';have hje:zCf j'={ zCf j with need:=(zCf j).need.filter fun h=>!decide (h=r) }:=by rw[←hj'];rfl
 have hup:(A++j'::C).map zCf=zKw tag r S.jobs:=by
  rw[←ho.jobs,zND,zND,hje,zNS (by exact hj) (fun y hy=>by obtain⟨z,hz,rfl⟩:=zgV.1 hy;exact hA z hz)]
 refine zA (Δ:=zFQ sd st l n T (⟨S.M,zBO n S.M tag (mk2.map mM) S.G,S.fils,S.fed,zKw tag r S.jobs⟩:zCg) a b c F (A++j'::C) Γ) ?_;refine zU1 Kt hPm (zMA hPt) ⟨ho.n1,ho.n3,ho.fils,ho.rgs,ho.fedl,ho.fedr,hup,fun y hy=>?_,?_,⟨K+mk2.length,?_,?_⟩,?_⟩ hT h
 ·rcases zgP.1 hy with hy|hy
  ·exact ho.ok y (zhF _ hy)
  rcases zgS.1 hy with rfl|hy
  ·rw[←hj'];exact⟨hoj.ord,hoj.nn,by have:=hoj.nl;have:=zgr (fun x=>!decide (x=r)) j.need;simp only;omega⟩
  ·exact ho.ok y (zg3 _ (zgI _ hy))
 ·have:=ho.jl;simpa using this
 ·have:=hK.enters (n:=n) (S:=S.M) (tag:=tag) (L:=mk2.map mM);rwa[zgL] at this
 ·simp only[zgK,zgO] at hKl ⊢;omega
 ·have:=ho.ml;simpa using this
theorem zcy{A C:List zB3}{j:zB3}{K rb tb ib:Nat}{q:Sl→Sep.K}(Kt:zRk n Pm Pt)(hPm:Pm S.M)(hPt:∀j∈S.jobs,Pt j.tx)(hT:T≤20000)(hJ:J=A++j::C)(hA:∀y∈A,y.tag≠tag)(hj:j.tag=tag)(ho:zF5 n T S F J)(hK:SzG K S.G)(hKl:K+J.length+mks.length≤40*T)(hml:mks.length≤1000)
  (hm:∀w,Holds B Γ w→RdC w ms 3 (mks.flatMap mkL)) (hk:∀m∈mks,m.key.length<1000000000)
  (h:∀(s:Sl) (D:List DcX),D.map zIb=(zGq n (zQA n r kind tag mks S.jobs S)).2→D.length≤T→HG B (SlC zu 6 s (D.flatMap dcF)::Sep.stars (D.map dcO)::zCh sd n T (zGq n (zQA n r kind tag mks S.jobs S)).1::Γ) (q s)) :
  HG B (zFQ sd st l n T S a b c F J (rgB rb r::tgB tb tag::itB ib kind ix tag t ms::Γ)) (zf.s2 q ⟨sd,0,none⟩ ⟨rb,0,none⟩ ⟨ib,0,none⟩ ⟨tb,0,none⟩ ms (zD4 j)):=by
 unfold zf.s2;unfold zQA zP9 at h;refine zh (b:=ib) (l:=itV kind ix tag t ms) (x:=kind) ?_;refine zF (fun h1=>?_) fun h1=>?_
 ·have h1':kind=2:=by simpa using h1
  simp only[h1',zhX] at h;refine yC (b:=ib) (off:=2) (l:=itV kind ix tag t ms) (l':=orV tag t ms) ?_;refine zh (b:=rb) (l:=[.int .i64 r]) (x:=r) ?_;refine zaT (mks:=mks) (fun w hw=>hm w (hw.drops (Δ:=Γ))) hml fun s=>?_;have hfl:=zgr (fun m:MkX=>decide (m.home=r)) mks;refine zA (Δ:=zFQ sd st l n T S a b c F J (rgB rb r::tgB tb tag::SlC zi 3 s ((mks.filter fun m=>decide (m.home=r)).flatMap mkL)::Γ)) ?_;refine zYm (mk2:=mks.filter fun m=>decide (m.home=r)) Kt hPm hPt hT hJ hA hj ho hK (by omega) (fun w hw=>(zO (s:=s) hw).1) (fun m hm=>hk m (zha.1 hm).1) fun s2 D hD hDl=>?_;exact zA (h s2 D hD hDl)
 ·have h1':¬kind=2:=by simpa using h1
  simp only[h1',zhG] at h;refine zA (Δ:=zFQ sd st l n T S a b c F J (rgB rb r::tgB tb tag::Γ)) ?_;exact zYm (mk2:=mks) Kt hPm hPt hT hJ hA hj ho hK hKl hm hk h
theorem zF5.up(ho:zF5 n T S F J):zF5 n (T+1) S F J:=by
 obtain⟨K,hK,hKl⟩:=ho.gz;have:=ho.jl;have:=ho.ml;exact⟨ho.n1,ho.n3,ho.fils,ho.rgs,ho.fedl,fun x hx=>by have:=ho.fedr x hx;omega,ho.jobs,ho.ok,by omega,⟨K,hK,by omega⟩,by omega⟩
theorem zcz(h:HG B (zCh sd n (T+1) S::Γ) k):HG B (zCh sd n T S::Γ) k:=zRp fun st l a b c F J ho=>by
 refine qc (Sep.stars (F.map (zGV T))) ?_;refine zUr (N':=T+1) (by omega) ?_;refine zA (Δ:=zFQ sd st l n (T+1) S a b c F J Γ) ?_;exact zFX ho.up h
theorem zYn(h:HG B (SlC zu 6 ⟨none,0,0⟩ (([]:List DcX).flatMap dcF)::Sep.stars (([]:List DcX).map dcO)::Γ) k):HG B Γ k:=fun w hw=>h w ((hw.zAA).ji _ _)
theorem zc0(ho:zF5 n T S F J)(h:0≤r∧r<n):∃FA xb xf FC,F=FA++⟨xb,r,xf⟩::FC∧FA.length=r.toNat∧S.fils.getD r.toNat ⟨-1,[]⟩=xf∧∀f',(FA++⟨xb,r,f'⟩::FC).map FX.f=S.fils.set r.toNat f'∧(FA++(⟨xb,r,f'⟩:FX)::FC).map FX.rg=F.map FX.rg:=by
 have hl:F.length=n:=by have:=congrArg List.length ho.rgs;simpa using this
 have hi:r.toNat<F.length:=by omega
 have e:=zgz r.toNat F;rw[zgj hi] at e;have hrg:F[r.toNat].rg=r:=by
  have h1:(F.map FX.rg)[r.toNat]?=some F[r.toNat].rg:=by rw[zgk,zgG hi];rfl
  rw[ho.rgs,zgk,List.getElem?_range (by omega)] at h1;simp only[zg1,zg4] at h1;omega
 generalize F[r.toNat]=x at e hrg;obtain⟨xb,xr,xf⟩:=x;simp only at hrg;subst hrg;have hl2:(F.take xr.toNat).length=xr.toNat:=by rw[zgR];omega
 generalize F.take xr.toNat=FA at e hl2;generalize F.drop (xr.toNat+1)=FC at e;refine⟨FA,xb,xf,FC,e.symm,hl2,?_,fun f'=>⟨?_,by rw[←e];simp⟩⟩
 ·rw[←ho.fils,←e,zgT,zgv,zhE (by simp[hl2])];simp[hl2]
 ·rw[←ho.fils,←e,zgT,zgT,zgd,zgd,show xr.toNat=(FA.map FX.f).length by simp[hl2]];simp
theorem zYo{q:Sl→Sep.K}(Kt:zRk n Pm Pt)(hPm:Pm S.M)(hPt:∀j∈S.jobs,Pt j.tx)(hPt1:Pt t)(hT:T+1≤20000)(hr:∀w,Holds B Γ w→zAn w t)(hm:∀w,Holds B Γ w→RdC w ms 3 (mks.flatMap mkL))(hnn:∀x∈t.ops,-9223372036854775808≤x.1.n∧x.1.n≤9223372036854775807)
  (hg0:0≤tag.epoch∧tag.epoch<18446744073709551616) (hg1:0≤tag.seq∧tag.seq<18446744073709551616) (hmk:∀m∈mks,0≤m.cnt∧m.cnt<18446744073709551616)
  (hl:t.reads.length≤1000∧t.writes.length≤1000∧t.ops.length≤1000) (hml:mks.length≤1000)
  (h:∀(s:Sl) (D:List DcX),D.map zIb=(zF4 n r kind ix tag t mks S).2→D.length≤T+1→HG B (SlC zu 6 s (D.flatMap dcF)::Sep.stars (D.map dcO)::zCh sd n (T+1) (zF4 n r kind ix tag t mks S).1::Γ) (q s)) :
  HG B (zCh sd n T S::Γ) (zf.call (some ⟨sd,0,none⟩) r (itV kind ix tag t ms).toArray q):=by
 refine fun w hw=>zIU _ _ _ _ _ ?_;refine hg hw ?_;clear hw w;refine zRp fun st l a b c F J ho=>?_;unfold zf;refine zD fun rb=>?_;refine zD fun ib=>?_;refine yC (b:=ib) (l:=itV kind ix tag t ms) (l':=itV kind ix tag t ms) ?_;have bad:¬zNE n r kind ix tag t mks→HG B (itB ib kind ix tag t ms::rgB rb r::zFQ sd st l n T S a b c F J Γ) (zf.s1 q (some ⟨sd,0,none⟩) ⟨rb,0,none⟩ ⟨ib,0,none⟩ true):=fun hb=>by
  unfold zf.s1;refine s_t ?_;unfold zF4 at h;rw[if_neg hb] at h;refine zA (Δ:=zFQ sd st l n T S a b c F J Γ) ?_;refine zFX ho ?_;refine zcz ?_;refine zYn ?_;exact h ⟨none,0,0⟩ [] rfl (by simp)
 refine zP6 (mks:=mks) hg0 hg1 hmk (fun w hw=>hr w (hw.drops (Δ:=Γ))) (fun w hw=>hm w (hw.drops (Δ:=Γ))) hl hml (fun hb=>?_) fun hi h3 s0=>?_
 ·refine xg ?_;refine zBl [itB ib kind ix tag t ms,rgB rb r] ?_;refine s_t ?_;exact bad fun hh=>hb ⟨hh.1,hh.2.1⟩
 refine xg ?_;refine zBl [itB ib kind ix tag t ms,rgB rb r,blk sd (.cells (sdL st l a b c).toArray yS (0,0))] ?_;refine s_f ?_;refine jK (b:=rb) (l:=[.int .i64 r]) (x:=r) ?_;refine uL b ?_;refine yN sd ?_;refine zYa (n:=n) ho.fedl ?_;refine vS ?_;by_cases hrn:0≤r∧r<n;rotate_left
 ·rw[zgU hrn];refine s_t ?_;exact zA (bad fun hh=>hrn hh.2.2.1)
 rw[zga hrn];refine s_f ?_;refine uf ?_;refine jq (b:=ib) (off:=2) (l:=itV kind ix tag t ms) (l':=orV tag t ms) ?_;refine jK (b:=sd) (off:=3) (l:=sdL st l a b c) (x:=b) ?_;refine yw b fun a1 a2 a3 a4=>?_;rw[zgL,zgs,ho.fedl] at a1;rw[←a1];refine zLP (mks:=mks) (fun w hw=>hr w (hw.drops (Δ:=Γ))) (fun w hw=>hm w (hw.drops (Δ:=Γ))) hl (by omega) ?_;by_cases hon:zCr (n:Int) tag t mks;rotate_left
 ·rw[if_neg hon];exact zA (bad fun hh=>hon hh.2.2.2)
 rw[if_pos hon];have hok:zNE n r kind ix tag t mks:=⟨hi,h3,hrn,hon⟩
 unfold zF4 at h;rw[if_pos hok] at h;obtain⟨k1,k2,k3,k4⟩:=zDO hon.1;have hmks:=hon.2.2.1;have hkl:=zDX (t.reads++t.writes);have hml8:mks.length≤8:=by
  have:=congrArg List.length hmks;rw[zgL] at this;rw[zgK] at hkl;omega
 have hkk:∀m∈mks,m.key.length<1000000000:=fun m hm=>by
  have h1:m.key∈vX (t.reads++t.writes):=by rw[←hmks];exact zgV.2 ⟨m,hm,rfl⟩
  have:=k1 _ (zDW.1 h1);omega
 obtain⟨FA,xb,xf,FC,rfl,hFl,hgf,hset⟩:=zc0 ho hrn;obtain⟨K,hK,hKl⟩:=ho.gz;have hjl:=ho.jl;have hmlM:=ho.ml;show HG B _ (zf.s1 q (some ⟨sd,0,none⟩) ⟨rb,0,none⟩ ⟨ib,0,none⟩ false);unfold zf.s1;refine s_f ?_;refine xg ?_;refine uf ?_;refine zh (b:=sd) (off:=3) (l:=sdL st l a b c) (x:=b) ?_;refine zh (b:=rb) (l:=[.int .i64 r]) (x:=r) ?_;have hri:r.toNat<S.fed.length:=by rw[ho.fedl];omega
 have hge:S.fed[r.toNat]?=some (S.fed.getD r.toNat 0):=by rw[zgv,zgG hri];rfl
 have hfx:=ho.fedr (S.fed.getD r.toNat 0) (zgx hge);refine je (L:=S.fed) (c:=Value.int .i64) (j:=r.toNat) (x:=S.fed.getD r.toNat 0) (fun w hw=>(zO (s:=b) hw).1) hge ?_ (by omega);refine qJ ?_;refine zBk (s:=b) (i:=r.toNat) ?_ (by omega) (by omega);rw[←add0 (elA b r.toNat 1)];refine zFV (s:=b) ?_ (by simp only[zgL];omega);rw[show r.toNat*1+0=r.toNat by omega,←zh8];refine xg ?_;refine zh (b:=sd) (off:=2) (l:=sdL st l a b c) (x:=a) ?_;refine zh (b:=rb) (l:=[.int .i64 r]) (x:=r) ?_;refine je (c:=Value.pointer) (L:=(FA++⟨xb,r,xf⟩::FC).map zIc) (j:=r.toNat) (x:=zIc ⟨xb,r,xf⟩) (fun w hw=>(zO (s:=a) hw).1) (by rw[←hFl];simp) ?_ (by omega);refine yC (b:=ib) (l:=itV kind ix tag t ms) (l':=itV kind ix tag t ms) ?_;refine qc (Sep.stars ((FA++(⟨xb,r,xf⟩:FX)::FC).map (zGV T))) ?_;refine zFB ?_;refine zTI (fb:=xb) (rg:=r) (f:=xf) (N:=T) (t:=t) (mks:=mks) (fun w hw=>hm w (hw.drops (Δ:=Γ))) hml (by omega) ?_;have hin:zFL r kind ix tag t mks S=zCB r xf kind ix tag (xA mks) (zFn t mks):=by unfold zFL;rw[hgf]
 rw[←hin];have ho1:zF5 n (T+1) (zHm r kind ix tag t mks S) (FA++⟨xb,r,(zFL r kind ix tag t mks S).1⟩::FC) J:=by
  refine⟨ho.n1,ho.n3,(hset _).1,by rw[(hset _).2];exact ho.rgs,by simp[zHm,ho.fedl],fun x hx=>?_,ho.jobs,ho.ok,by omega,⟨K,hK,by omega⟩,by show S.M.length+_≤_;omega⟩;rcases zh3 hx with hx|rfl
  ·have:=ho.fedr x hx;omega
  ·omega
 refine qc (Sep.stars ((FA++FC).map (zGV T))) ?_;refine zUr (N':=T+1) (by omega) ?_;refine zA (Δ:=zJP xb r (T+1) (zFL r kind ix tag t mks S).1::Sep.stars ((FA++FC).map (zGV (T+1)))::itB ib kind ix tag t ms::rgB rb r::blk sd (.cells (sdL st l a b c).toArray yS (0,0))::vL l S.G.1 S.G.2::yM st n S.M::SlC uw 1 c ((J.map zD4).map Value.pointer)::Sep.stars (J.map zGU)::SlC xD 1 a (((FA++⟨xb,r,xf⟩::FC).map zIc).map Value.pointer)::SlI b (S.fed.set r.toNat (S.fed.getD r.toNat 0+1))::Γ) ?_;show HG B (zGV (T+1) ⟨xb,r,(zFL r kind ix tag t mks S).1⟩::_) _;refine zAb ?_;rw[show((FA++(⟨xb,r,xf⟩:FX)::FC).map zIc).map Value.pointer=((FA++(⟨xb,r,(zFL r kind ix tag t mks S).1⟩:FX)::FC).map zIc).map Value.pointer by simp];generalize hF':FA++(⟨xb,r,(zFL r kind ix tag t mks S).1⟩:FX)::FC=F' at ho1;unfold zUq at h;by_cases hin2:(zFL r kind ix tag t mks S).2=false
 ·rw[if_pos hin2] at h;rw[hin2];refine s_t ?_;refine zA (Δ:=zFQ sd st l n (T+1) (zHm r kind ix tag t mks S) a b c F' J Γ) ?_;refine zFX ho1 ?_;refine zYn ?_;exact h ⟨none,0,0⟩ [] rfl (by simp)
 rw[if_neg hin2] at h;rw[Bool.not_eq_false] at hin2;rw[hin2];refine s_f ?_;refine xg ?_;refine zBl [itB ib kind ix tag t ms] ?_;refine jq (b:=ib) (off:=2) (l:=itV kind ix tag t ms) (l':=zQ tag) ?_;refine jK (b:=ib) (off:=11) (l:=itV kind ix tag t ms) (x:=ms) ?_;refine zD fun tb=>?_;refine vS ?_;refine yX (b:=tb) (l':=zQ tag) ?_;refine vS ?_;refine yC (b:=tb) (l:=zQ tag) (l':=zQ tag) ?_;have S2:∀{J2 A:List zB3} {j:zB3} {C:List zB3} {c2:Sl} {S2:zCg},J2=A++j::C→(∀y∈A,y.tag≠tag)→j.tag=tag→S2.G=S.G→Pm S2.M→(∀j∈S2.jobs,Pt j.tx)→zF5 n (T+1) S2 F' J2→K+J2.length+mks.length≤40*(T+1) →
   (∀(s:Sl) (D:List DcX),D.map zIb=(zGq n (zQA n r kind tag mks S2.jobs S2)).2→D.length≤T+1→HG B (SlC zu 6 s (D.flatMap dcF)::Sep.stars (D.map dcO)::zCh sd n (T+1) (zGq n (zQA n r kind tag mks S2.jobs S2)).1::Γ) (q s)) →
   HG B (zFQ sd st l n (T+1) S2 a b c2 F' J2 (rgB rb r::tgB tb tag::itB ib kind ix tag t ms::Γ)) (zf.s2 q ⟨sd,0,none⟩ ⟨rb,0,none⟩ ⟨ib,0,none⟩ ⟨tb,0,none⟩ ms (zD4 j)):=fun {J2 A j C c2 S2} hJ2 hA hj hG hp1 hp2 ho2 hKl2 hq=>
  zcy Kt hp1 hp2 hT hJ2 hA hj ho2 (by rw[hG];exact hK) hKl2 hml hm hkk hq
 have hjm:(∃j∈S.jobs,j.tag=tag)↔∃j∈J,j.tag=tag:=by
  rw[←ho.jobs];constructor
  ·rintro⟨x,hx,e⟩;obtain⟨y,hy,rfl⟩:=zgV.1 hx;exact⟨y,hy,e⟩
  ·rintro⟨y,hy,e⟩;exact⟨zCf y,zgV.2 ⟨y,hy,rfl⟩,e⟩
 refine zA (Δ:=zLk sd st l n S.M S.G a b c J (SlC xD 1 a ((F'.map zIc).map Value.pointer)::Sep.stars (F'.map (zGV (T+1)))::SlI b (S.fed.set r.toNat (S.fed.getD r.toNat 0+1))::rgB rb r::tgB tb tag::itB ib kind ix tag t ms::Γ)) ?_;refine zYX (by omega) (fun hno=>?_) fun A j C hJ hA hj=>?_
 ·have hno':¬∃j∈S.jobs,j.tag=tag:=fun hh=>by obtain⟨j,hj,e⟩:=hjm.1 hh;exact hno j hj e
  rw[if_neg hno'] at h;refine s_f ?_ (by rfl);unfold zf.s4;refine s_f ?_;refine s_t ?_ (by rfl);refine xg ?_;refine zBl [itB ib kind ix tag t ms] ?_;refine jq (b:=ib) (off:=2) (l:=itV kind ix tag t ms) (l':=orV tag t ms) ?_;refine jq (b:=ib) (off:=2) (l:=itV kind ix tag t ms) (l':=orV tag t ms) ?_;refine zRq (t:=t) (mks:=mks) (fun w hw=>hr w (hw.drops (Δ:=Γ))) (fun w hw=>hm w (hw.drops (Δ:=Γ))) ⟨hl.1,hl.2.1,hl.2.2,fun x hx=>by have:=(k4 x hx).2;omega⟩ hml fun t' ms' ht'=>?_;refine vS ?_;refine zM8 (pre:=zQ tag++txL t) (L:=mks) rfl (fun w hw=>hm w (hw.drops (Δ:=Γ))) (by omega) fun ns=>?_;refine zT ?_;refine zD fun jb=>?_;refine zh (b:=sd) (off:=4) (l:=sdL st l a b c) (x:=c) ?_;refine yw c fun a1 a2 a3 a4=>?_;rw[zgL,zgL,zgs] at a1;refine zDI (s:=c) (esz:=1) (m:=1) (us:=[.pointer (some ⟨jb,0,none⟩)]) (fun c2 _=>?_);rw[show(J.map zD4).map Value.pointer++[.pointer (some ⟨jb,0,none⟩)]=((J++[(⟨jb,tag,t',ms',mks,ns,xA mks⟩:zB3)]).map zD4).map Value.pointer by simp];refine zCN (b:=sd) (off:=4) (l:=sdL st l a b c) (l':=sdL st l a b c2) ?_ rfl rfl;refine zA (Δ:=zTJ ⟨jb,tag,t',ms',mks,ns,xA mks⟩ (Sep.stars (J.map zGU)::blk sd (.cells (sdL st l a b c2).toArray yS (0,0))::vL l S.G.1 S.G.2::yM st n S.M::SlC uw 1 c2 (((J++[(⟨jb,tag,t',ms',mks,ns,xA mks⟩:zB3)]).map zD4).map Value.pointer)::SlC xD 1 a ((F'.map zIc).map Value.pointer)::Sep.stars (F'.map (zGV (T+1)))::SlI b (S.fed.set r.toNat (S.fed.getD r.toNat 0+1))::rgB rb r::tgB tb tag::itB ib kind ix tag t ms::Γ)) ?_;refine zL8 ?_;refine zIJ ?_;refine zA (Δ:=zFQ sd st l n (T+1) (⟨S.M,S.G,S.fils.set r.toNat (zFL r kind ix tag t mks S).1,S.fed.set r.toNat (S.fed.getD r.toNat 0+1),S.jobs++[⟨tag,zJQ t,mks,xA mks⟩]⟩:zCg) a b c2 F' (J++[(⟨jb,tag,t',ms',mks,ns,xA mks⟩:zB3)]) (rgB rb r::tgB tb tag::itB ib kind ix tag t ms::Γ)) ?_;have hhl:(xA mks).length≤1000:=by
   have h1:=zIG (zEd (if mks.length=0 then[0] else mks.map MkX.home));rw[zKu] at h1;have h2:(if mks.length=0 then[0] else mks.map MkX.home).length≤1000:=by split <;> simp <;> omega
   unfold xA;omega
  refine S2 (A:=J) (j:=⟨jb,tag,t',ms',mks,ns,xA mks⟩) (C:=[]) rfl hno rfl rfl hPm (fun y hy=>by
   rcases zgP.1 hy with hy|hy
   ·exact hPt y hy
   ·rw[zgM.1 hy];exact Kt.same (zNT (zII t)) hPt1) ⟨ho1.n1,ho1.n3,ho1.fils,ho1.rgs,ho1.fedl,ho1.fedr,?_,fun y hy=>?_,by simp;omega,⟨K,hK,by simp;omega⟩,by simp;omega⟩ (by simp;omega) h
  ·rw[zgT,ho.jobs];simp only[zgd,zhp,zCf];rw[zV2 ht']
  ·rcases zgP.1 hy with hy|hy
   ·exact ho.ok y hy
   ·rw[zgM.1 hy];obtain⟨g1,g2,g3,g4,g5⟩:=ht';refine⟨⟨by rw[zGR ⟨g1,g2,g3,g4,g5⟩];exact hon.1,hon.2.1,by simp only;rw[g3,g4];exact hon.2.2⟩,fun x hx=>?_,hhl⟩;have h1:x.1∈t.ops.map Prod.fst:=by rw[←g5];exact zgV.2 ⟨x,hx,rfl⟩
    obtain⟨y,hy2,e⟩:=zgV.1 h1;rw[←e];exact hnn y hy2
 ·have hye:∃j∈S.jobs,j.tag=tag:=hjm.2 ⟨j,by rw[hJ];simp,hj⟩;rw[if_pos hye] at h;refine s_t ?_ (by rfl);refine zh (b:=ib) (l:=itV kind ix tag t ms) (x:=kind) ?_;unfold zf.s4;refine zF (fun h1=>?_) fun h1=>?_
  ·have h1':kind=1:=by simpa using h1
   simp only[h1',zhX] at h;refine zA (Δ:=zFQ sd st l n (T+1) (zHm r kind ix tag t mks S) a b c F' J Γ) ?_;rw[h1'] at ho1 ⊢;exact zU1 Kt hPm hPt ho1 hT h
  ·have h1':¬kind=1:=by simpa using h1
   simp only[h1',zhG] at h;refine s_f ?_ (by rfl);refine zA (Δ:=zFQ sd st l n (T+1) (zHm r kind ix tag t mks S) a b c F' J (rgB rb r::tgB tb tag::itB ib kind ix tag t ms::Γ)) ?_;exact S2 hJ hA hj rfl hPm hPt ho1 (by omega) h
end
end
end Go.Proofs.YtlelhlcjaapkoaaGreat
namespace Go.Sep
section
open Go Go.RowKit
namespace Bt
structure BtW(κ:Type) extends BtT κ where
 fAll:Nat
 tPT:Nat
 nwalkC:Option Addr→Option Addr→Value→(Bool→K)→K
section
variable{κ:Type}
end
section
variable{κ:Type}{G:BtW κ}{c:κ→κ→Int}{B:World}{Γ Δ:List zB}
end
end Bt
end
end Go.Sep
namespace Go.Proofs.YtlelhlcjaapkoaaGreat
section
open Go Go.Sep Go.Sep.Bt
def zbc(o:Nat)(X:List zCF)(i:Nat):zB:=ex fun s=>ex fun Y:List zCF=>Sep.stars [pur (Y.map zEI=(X.take i).map zEI),blk o (.cells [s.val].toArray zPY (0,0)),SlC qw 5 s (Y.flatMap zAL),Sep.stars (Y.map zFD),Sep.stars (X.map zFD)]
section
variable{B:World}{Γ Δ:List zB}{o i st n:Nat}{M:zo}{X:List zCF}{k:K}
instance(priority:=high) zdJ:Sep.Own o (zbc o X i::Γ) (zbc o X i) Γ:=⟨.refl _⟩
end
end
section
open Go Go.Sep Go.Sep.Bt
abbrev zIm(n:Nat):zCg:=⟨[],([],fun _=>false),List.replicate n ⟨-1,[]⟩,List.replicate n 0,[]⟩
section
variable{B:World}{Γ Δ:List zB}{k:K}{sd n T:Nat}{S:zCg}{t:TxX}{tag:zx}
theorem zYp{z:Value}{m:Nat}{Q:Sl→K}{T E by':Nat}(hT:Tryz.prog.underlying T=some (.slice E))(hE:(Tryz.prog.info? E).map (fun i=>(i.zero,i.size,i.bytes))=some (some z,1,by'))(hz:z.cells=#[z])(hb:by'*m≤281474976710656)(hm:m≤9223372036854775807)
  (h:∀s,s.n=m→HG B (SlC E 1 s (List.replicate m z)::Γ) (Q s)):HG B Γ (Do Tryz.prog (Instr.makeSlice T (.int .i64 (m:Int)) (.int .i64 (m:Int))) Sl.val Q):=fun w hw=>by
 have h1:=Go.run_make_row' (P:=Tryz.prog) T E z by' hT hE hz .i64 .i64 m hb hm w
 refine⟨⟨some ⟨w.heap.size,0,none⟩,m,m⟩,_,h1,h ⟨some ⟨w.heap.size,0,none⟩,m,m⟩ rfl _ ?_⟩;have h2:=hw.alloc (.cells (madeCells #[z] m) E (0,0));exact h2.imp (zAq (by
  apply zhV;intro i;by_cases hi:i<m <;> simp[madeCells,List.getElem?_range,List.getElem?_replicate,hi,Nat.mod_one]) (by simp))
theorem zWE{Q:Option Addr→Int→K}(h1:1≤n)(h3:n≤3)(h:∀sd,HG B (zCh sd n 0 (zIm n)::Γ) (Q (some ⟨sd,0,none⟩) 0)):HG B Γ (uI.call (n:Int) Q):=by
 refine fun w hw=>zJ9 _ _ _ ?_;refine hg hw ?_;clear hw w;unfold uI;refine zIt h1 h3 fun st=>?_;refine s_f ?_;refine xg ?_;have rest:∀(l:Nat) (fd:Sl),HG B (vL l [] (fun _=>false)::SlI fd (List.replicate n 0)::yM st n []::Γ) (New yS [.pointer (some ⟨st,0,none⟩),.pointer (some ⟨l,0,none⟩),Sl.val ⟨none,0,0⟩,fd.val,Sl.val ⟨none,0,0⟩].toArray fun t21=>uI.s1 Q (n:Int) (some t21)):=fun l fd=>by
  refine zD fun sd=>?_;unfold uI.s1;refine fun w hw=>hg (show Holds B (SlC xD 1 ⟨none,0,0⟩ ((([]:List FX).map zIc).map Value.pointer)::Sep.stars (([]:List FX).map (zGV 0))::SlC uw 1 ⟨none,0,0⟩ ((([]:List zB3).map zD4).map Value.pointer)::Sep.stars (([]:List zB3).map zGU)::_) w from(((hw.zAA).ji _ _).zAA).ji _ _) ?_;clear hw w;refine zA (Δ:=zFQ sd st l n 0 (zIm n) ⟨none,0,0⟩ fd ⟨none,0,0⟩ [] [] Γ) ?_;refine qH (α:=Int) (ι:=Sl×List FX) (fun x i=>x=(i.2.length:Int)∧i.2.length≤n∧i.2.map FX.f=List.replicate i.2.length ⟨-1,[]⟩∧i.2.map FX.rg=(List.range i.2.length).map fun j:Nat=>(j:Int)) (fun x i=>zFQ sd st l n 0 (zIm n) i.1 fd ⟨none,0,0⟩ i.2 [] Γ) (fun x i=>n-i.2.length) (⟨none,0,0⟩,[]) ⟨rfl,zgW _,rfl,rfl⟩ ?_;rintro k' _ ⟨fs,F⟩ ⟨rfl,hi,hF1,hF2⟩ hk';simp only at hi hF1 hF2 hk' ⊢;unfold uI.b2;refine zF (fun hb=>?_) fun hb=>?_
  ·have hin:F.length<n:=by simp only[zgH] at hb;omega
   refine yw fs fun a1 a2 a3 a4=>?_;rw[zgL,zgL,zgs] at a1;refine xg ?_;refine zBl [blk sd (.cells (sdL st l fs fd ⟨none,0,0⟩).toArray yS (0,0))] ?_;refine uf ?_;refine jK (b:=sd) (off:=2) (l:=sdL st l fs fd ⟨none,0,0⟩) (x:=fs) ?_;refine zVz fun fp=>?_;refine vS ?_;refine zD fun t33=>?_;refine vS ?_;refine qp (s:=fs) (us:=[.pointer (some ⟨fp,0,none⟩)]) (zBM rfl) (by intro v hv;rw[zgM.1 hv];rfl) (by simp only;omega) fun fs2 hfs2=>?_;refine zCN (b:=sd) (off:=2) (l:=sdL st l fs fd ⟨none,0,0⟩) (l':=sdL st l fs2 fd ⟨none,0,0⟩) ?_ rfl rfl;refine qJ ?_;rw[show(F.map zIc).map Value.pointer++[.pointer (some ⟨fp,0,none⟩)]=((F++[(⟨fp,(F.length:Int),⟨-1,[]⟩⟩:FX)]).map zIc).map Value.pointer by simp];refine zA (Δ:=zJP fp (F.length:Int) 0 ⟨-1,[]⟩::Sep.stars (F.map (zGV 0))::blk sd (.cells (sdL st l fs2 fd ⟨none,0,0⟩).toArray yS (0,0))::vL l [] (fun _=>false)::yM st n []::SlC uw 1 ⟨none,0,0⟩ ((([]:List zB3).map zD4).map Value.pointer)::Sep.stars (([]:List zB3).map zGU)::SlC xD 1 fs2 (((F++[(⟨fp,(F.length:Int),⟨-1,[]⟩⟩:FX)]).map zIc).map Value.pointer)::SlI fd (List.replicate n 0)::Γ) ?_;show HG B (zGV 0 ⟨fp,(F.length:Int),⟨-1,[]⟩⟩::_) _;refine zIJ ?_;refine zA (hk' ((F.length:Int)+1) (fs2,F++[⟨fp,(F.length:Int),⟨-1,[]⟩⟩]) ⟨by simp,by simp;omega,?_,?_⟩ (by simp;omega))
   ·simp only[zgT,hF1,zgd,zhp,zgK,zgO,zgl];rw[List.replicate_succ']
   ·simp only[zgT,hF2,zgd,zhp,zgK,zgO,zgl];rw[List.range_succ,zgT];rfl
  ·have hil:F.length=n:=by simp only[zgF] at hb;omega
   rw[hil] at hF1 hF2;refine zFX ⟨h1,h3,hF1,hF2,by simp[zIm],fun x hx=>?_,rfl,by simp,by simp,⟨0,⟨by simp[zIm],by simp[zIm]⟩,by simp⟩,by simp[zIm]⟩ (h sd);have:=List.eq_of_mem_replicate hx;omega
 have mk:∀{Δ:List zB} {Q':Sl→K},(∀s,HG B (SlI s (List.replicate n 0)::Δ) (Q' s))→HG B Δ (Do Tryz.prog (Instr.makeSlice zMO (.int .i64 (n:Int)) (.int .i64 (n:Int))) Sl.val Q'):=fun {Δ Q'} hq=>
  zYp (by':=8) (z:=.int .i64 0) (by kernel_rfl) (by kernel_rfl) rfl (by omega) (by omega) fun s _=>by
   have:=hq s;rw[SlI,List.map_replicate] at this;exact this
 refine zBS ?_ ?_
 ·refine zLJ fun l=>?_;refine mk fun fd=>?_;exact zA (rest l fd)
 ·refine mk fun fd=>?_;refine zLJ fun l=>?_;exact zA (rest l fd)
theorem zYq{Q:Array Value→K}(hr:∀w,Holds B Γ w→zAn w t)(hl:t.reads.length≤1000∧t.writes.length≤1000∧t.ops.length≤1000∧∀x∈t.ops,x.1.val.length≤1000000)(hk:∀x∈t.reads++t.writes,x.length≤1000)
  (h:∀t' ms,zKC t' t→HG B (SlC zi 3 ms ((zBB n S.M (vX (t.reads++t.writes))).flatMap mkL)::zCh sd n T S::txC t' Γ) (Q (orV tag t' ms).toArray)) :
  HG B (zCh sd n T S::Γ) (uP.call (some ⟨sd,0,none⟩) (zQ tag).toArray (txL t).toArray Q):=by
 refine fun w hw=>zEn _ _ _ _ _ ?_;refine hg hw ?_;clear hw w;refine zRp fun st l a b c F J ho=>?_;unfold uP;refine zD fun tag4=>?_;refine zD fun t5=>?_;refine zD fun t6=>?_;refine xg ?_;refine uf ?_;refine zh (b:=sd) (l:=sdL st l a b c) (x:=some ⟨st,0,none⟩) ?_;refine yC (b:=tag4) (l:=zQ tag) (l':=zQ tag) ?_;refine yC (b:=t5) (l:=txL t) (l':=txL t) ?_;refine yN st ?_;refine zUi (t:=t) (fun w hw=>hr w (hw.drops (Δ:=Γ))) hl hk fun t' ms ht'=>?_;refine yX (b:=t6) (l':=orV tag t' ms) ?_;refine yC (b:=t6) (l:=orV tag t' ms) (l':=orV tag t' ms) ?_;refine uL b ?_;refine qc (Sep.stars (F.map (zGV T))) ?_;refine uL a ?_;refine qc (Sep.stars (J.map zGU)) ?_;refine uL c ?_;refine yN st ?_;refine yN l ?_;refine yN sd ?_;refine zFX ho ?_;exact zA (h t' ms ht')
end
end
section
open Go Go.Sep Go.Sep.Bt
section
variable{B:World}{Γ Δ:List zB}{k:K}{sd n T:Nat}{S:zCg}{r:Int}
end
end
section
open Go Go.Sep Go.Sep.Bt
structure DJ where
 o:OrG
 c0:Bool
 c1:Bool
 c2:Bool
abbrev djF(j:DJ):List Value:=orV j.o.tag j.o.t j.o.ms++[.bool j.c0,.bool j.c1,.bool j.c2,.bool false]
theorem zCC(j:DJ):(djF j).length=14:=rfl
def DJ.at'(j:DJ)(r:Int):Bool:=if r=0 then j.c0 else if r=1 then j.c1 else j.c2
def DJ.come(j:DJ)(r:Int):DJ:=⟨j.o,if r=0 then true else j.c0,if r=1 then true else j.c1,if r=2 then true else j.c2⟩
def zLR(j:DJ):Bool:=(xA j.o.mks).all j.at'
structure DX where
 M:zo
 x:RX
 lg:Nat→List ItG
 fed:Nat→Int
 last:Nat→Int
 tg:Nat→List zx
 J:List DJ
def upN{α:Type}(f:Nat→α)(i:Nat)(v:α):Nat→α:=fun k=>if k=i then v else f k
abbrev dsL(n st lk:Nat)(ls ts:Nat→Sl)(fed last:Nat→Int)(js:Sl):List Value:=[.bool false,.pointer (some ⟨st,0,none⟩),.pointer (some ⟨lk,0,none⟩),(ls 0).val,(ls 1).val,(ls 2).val,.int .i64 (fed 0),.int .i64 (fed 1),.int .i64 (fed 2),.int .i64 (last 0),.int .i64 (last 1),.int .i64 (last 2),(ts 0).val,(ts 1).val,(ts 2).val,js.val,.int .i64 (n:Int)]
theorem zU2{n st lk:Nat}{ls ts:Nat→Sl}{fed last:Nat→Int}{js:Sl}:(dsL n st lk ls ts fed last js).length=17:=rfl
abbrev dsB(md n st lk:Nat)(ls ts:Nat→Sl)(fed last:Nat→Int)(js:Sl):zB:=blk md (.cells (dsL n st lk ls ts fed last js).toArray zHD (0,0))
abbrev zDf(s:Sl)(L:List ItG):zB:=SlC uq 12 s (L.flatMap zB4)
abbrev zLn(s:Sl)(L:List zx):zB:=SlC zN 4 s (L.flatMap zQ)
abbrev dsF(md n st lk:Nat)(ls ts:Nat→Sl)(js:Sl)(X:DX)(P:Pool)(Γ:List zB):List zB :=
 dsB md n st lk ls ts X.fed X.last js::jC st n X.M P::zAW lk X.x::SlC xP 14 js (X.J.flatMap djF)::Sep.stars ((List.range 3).map fun i=>zDf (ls i) (X.lg i))::Sep.stars ((List.range 3).map fun i=>zLn (ts i) (X.tg i))::Γ
def DsR(md n:Nat)(X:DX)(P:Pool):zB:=ex fun st=>ex fun lk=>ex fun ls:Nat→Sl=>ex fun ts:Nat→Sl=>ex fun js:Sl=>Sep.stars (dsF md n st lk ls ts js X P [])
section
variable{B:World}{Γ Δ:List zB}{k:K}{md n st lk:Nat}{ls ts:Nat→Sl}{fed last:Nat→Int}{js:Sl}{X:DX}{P:Pool}
instance(priority:=high) zfr:Sep.Own md (DsR md n X P::Γ) (DsR md n X P) Γ:=⟨.refl _⟩
theorem zc1(h:∀st lk ls ts js,HG B (dsF md n st lk ls ts js X P Γ) k):HG B (DsR md n X P::Γ) k:=zCE fun st=>zCE fun lk=>zCE fun ls=>zCE fun ts=>zCE fun js=>zBL (h st lk ls ts js)
theorem zHq(h:HG B (DsR md n X P::Γ) k):HG B (dsF md n st lk ls ts js X P Γ) k:=fun w hw=>by
 refine h w ?_;have h3:Holds B (Sep.stars (dsF md n st lk ls ts js X P [])::Γ) w:=(Holds.flat (Δ:=dsF md n st lk ls ts js X P [])).2 hw;exact h3.imp fun g hg=>⟨st,lk,ls,ts,js,hg⟩
theorem zYr{r:Nat}(hr:r<3):nth (dsL n st lk ls ts fed last js) (3+r)=some (ls r).val:=by
 match r,hr with
 | 0,_=>rfl
 | 1,_=>rfl
 | 2,_=>rfl
theorem zc2{r:Nat}(hr:r<3):nth (dsL n st lk ls ts fed last js) (6+r)=some (.int .i64 (fed r)):=by
 match r,hr with
 | 0,_=>rfl
 | 1,_=>rfl
 | 2,_=>rfl
theorem zaZ{r:Nat}(hr:r<3):nth (dsL n st lk ls ts fed last js) (9+r)=some (.int .i64 (last r)):=by
 match r,hr with
 | 0,_=>rfl
 | 1,_=>rfl
 | 2,_=>rfl
theorem zc3{r:Nat}(hr:r<3):nth (dsL n st lk ls ts fed last js) (12+r)=some (ts r).val:=by
 match r,hr with
 | 0,_=>rfl
 | 1,_=>rfl
 | 2,_=>rfl
theorem zWF{r:Nat}(hr:r<3)(s:Sl):(dsL n st lk ls ts fed last js).set (3+r) s.val=dsL n st lk (upN ls r s) ts fed last js:=by
 match r,hr with
 | 0,_=>rfl
 | 1,_=>rfl
 | 2,_=>rfl
theorem zWG{r:Nat}(hr:r<3)(v:Int):(dsL n st lk ls ts fed last js).set (6+r) (.int .i64 v)=dsL n st lk ls ts (upN fed r v) last js:=by
 match r,hr with
 | 0,_=>rfl
 | 1,_=>rfl
 | 2,_=>rfl
theorem zaa{j:DJ}{r:Int}(h0:0≤r)(h3:r<3):nth (djF j) (10+r.toNat)=some (.bool (j.at' r)):=by
 obtain⟨i,rfl⟩:=zhr h0
 match i,h3 with
 | 0,_=>rfl
 | 1,_=>rfl
 | 2,_=>rfl
theorem zab{r:Nat}(hr:r<3)(h:HG B (zDf (ls r) (X.lg r)::Sep.stars (((List.range 3).take r++(List.range 3).drop (r+1)).map fun i=>zDf (ls i) (X.lg i))::Γ) k):HG B (Sep.stars ((List.range 3).map fun i=>zDf (ls i) (X.lg i))::Γ) k:=by
 have e:List.range 3=(List.range 3).take r++r::(List.range 3).drop (r+1):=by
  match r,hr with
  | 0,_=>rfl
  | 1,_=>rfl
  | 2,_=>rfl
 rw[e];refine zFB (F:=fun i=>zDf (ls i) (X.lg i)) ?_;exact h
theorem zac{r:Nat}{s:Sl}{L:List ItG}(hr:r<3)(h:HG B (Sep.stars ((List.range 3).map fun i=>zDf (upN ls r s i) (upN X.lg r L i))::Γ) k):HG B (zDf s L::Sep.stars (((List.range 3).take r++(List.range 3).drop (r+1)).map fun i=>zDf (ls i) (X.lg i))::Γ) k:=by
 have e:List.range 3=(List.range 3).take r++r::(List.range 3).drop (r+1):=by
  match r,hr with
  | 0,_=>rfl
  | 1,_=>rfl
  | 2,_=>rfl
 rw[e] at h;have e2:(((List.range 3).take r++(List.range 3).drop (r+1)).map fun i=>zDf (ls i) (X.lg i))=(((List.range 3).take r++(List.range 3).drop (r+1)).map fun i=>zDf (upN ls r s i) (upN X.lg r L i)):=by
  match r,hr with
  | 0,_=>rfl
  | 1,_=>rfl
  | 2,_=>rfl
 rw[e2];have e3:zDf s L=(fun i=>zDf (upN ls r s i) (upN X.lg r L i)) r:=by simp[upN]
 rw[e3];exact zAb (F:=fun i=>zDf (upN ls r s i) (upN X.lg r L i)) h
theorem zYs{r:Nat}(hr:r<3){w:World}(h:Holds B (Sep.stars ((List.range 3).map fun i=>zDf (ls i) (X.lg i))::Γ) w):RdC w (ls r) 12 ((X.lg r).flatMap zB4)∧(ls r).n=(X.lg r).length∧(ls r).n≤(ls r).c∧∀a,(ls r).a=some a→a.spot=none:=by
 obtain⟨Δ,hd⟩:=zEP (F:=fun i=>zDf (ls i) (X.lg i)) (List.mem_range.2 hr) h;have h1:=(zO (s:=ls r) hd).1;have hc:=hd.zMS;refine⟨h1,?_,hc.2.1,hc.2.2.1⟩;have:=hc.1;rw[zH zB4 12 zEe] at this;exact(zgb (by omega) this).symm
theorem zc4{r:Nat}(hr:r<3){w:World}(h:Holds B (Sep.stars ((List.range 3).map fun i=>zLn (ts i) (X.tg i))::Γ) w):RdC w (ts r) 4 ((X.tg r).flatMap zQ):=by
 obtain⟨Δ,hd⟩:=zEP (F:=fun i=>zLn (ts i) (X.tg i)) (List.mem_range.2 hr) h;exact(zO (s:=ts r) hd).1
theorem zYt{r:Nat}(hr:r<3)(h:(ls r).n=(X.lg r).length→(ls r).n≤(ls r).c→(∀a,(ls r).a=some a→a.spot=none)→HG B (Sep.stars ((List.range 3).map fun i=>zDf (ls i) (X.lg i))::Γ) k):HG B (Sep.stars ((List.range 3).map fun i=>zDf (ls i) (X.lg i))::Γ) k:=fun w hw=>by
 obtain⟨_,h2,h3,h4⟩:=zYs hr hw;exact h h2 h3 h4 w hw
theorem zWH{g:zx}{t:TxX}{ms:Sl}{mks:List MkX}{r:Int}{Q:Sl→K}(hm:∀w,Holds B Γ w→RdC w ms 3 (mks.flatMap mkL))(hml:mks.length≤1000)(h:∀s,HG B (SlC zi 3 s ((mks.filter fun m=>decide (m.home=r)).flatMap mkL)::Γ) (Q s)):HG B Γ (jF.call (orV g t ms).toArray r Q):=fun w hw=>by
 refine zN3 _ _ _ _ ?_;have hn:ms.n=mks.length:=zAM jB (by omega) (hm w hw);refine Sep.hg hw ?_;clear hw w;unfold jF;refine zD fun o2=>?_;refine zD fun t7=>?_;refine zCi (esz:=3) ?_;refine qH (α:=Sl×Int) (ι:=Nat) (fun x i=>x.2=(i:Int)∧i≤mks.length) (fun x i=>SlC zi 3 x.1 (((mks.take i).filter fun m=>decide (m.home=r)).flatMap mkL)::zV4 o2 g t ms::Γ) (fun x i=>mks.length-i) 0 ⟨rfl,zgW _⟩ ?_;rintro k' ⟨s,_⟩ i ⟨rfl,hi⟩ hk';simp only at hk' ⊢;unfold jF.b1;refine zh (b:=o2) (off:=9) (l:=orV g t ms) (x:=ms) ?_;refine zF (fun hb=>?_) fun hb=>?_;rotate_left
 ·have hil:i=mks.length:=by simp only[zgF] at hb;omega
  rw[hil,zgQ];exact zA (h s)
 have hil:i<mks.length:=by simp only[zgH] at hb;omega
 have hge:mks[i]?=some mks[i]:=zgG hil;have htk:mks.take (i+1)=mks.take i++[mks[i]]:=zgJ hil;generalize mks[i]=m at hge htk;have nx:∀{s':Sl},HG B (SlC zi 3 s' (((mks.take (i+1)).filter fun m=>decide (m.home=r)).flatMap mkL)::zV4 o2 g t ms::Γ) (jF.s2 Q (fun y1 y2=>k' (y1,y2)) r ⟨o2,0,none⟩ s' (i:Int)):=fun {s'}=>by
  unfold jF.s2;refine qJ ?_;exact hk' (s',(i:Int)+1) (i+1) ⟨by simp,hil⟩ (by omega)
 rw[htk,List.filter_append] at nx;refine zh (b:=o2) (off:=9) (l:=orV g t ms) (x:=ms) ?_;refine zCU mkL (off:=1) (c:=Value.int .i64) (v:=m.home) jB (fun w hw=>hm w hw.drops) hge rfl ?_;refine zF (fun he=>?_) fun he=>?_
 ·rw[show[m].filter (fun m=>decide (m.home=r))=[m] by simp only[zhD,he];rfl,zge] at nx;refine zh (b:=o2) (off:=9) (l:=orV g t ms) (x:=ms) ?_;refine uT mkL jB (fun w hw=>hm w hw.drops) hge ?_;refine zBh (zero:=[.string ⟨#[]⟩,.int .i64 0,.int .u64 0]) ?_ rfl rfl;refine yw s fun a1 a2 a3 a4=>?_;rw[zH mkL 3 jB] at a1;have hfl:=zgr (fun m:MkX=>decide (m.home=r)) (mks.take i);rw[zgR] at hfl;refine zDI (m:=1) (us:=mkL m) (fun s2 hs2=>?_) (by omega);have:=nx (s':=s2);simp only[zgi,zhn,zgy] at this;exact this
 ·rw[show[m].filter (fun m=>decide (m.home=r))=[] by simp only[zhD,he];rfl,zgy] at nx;exact nx
theorem zR3{j:DJ}{Q:Bool→K}(hm:∀w,Holds B Γ w→RdC w j.o.ms 3 (j.o.mks.flatMap mkL))(hml:j.o.mks.length≤1000)(hh:∀h∈xA j.o.mks,0≤h∧h<3)(h:HG B Γ (Q (zLR j))):HG B Γ (jP.call (djF j).toArray Q):=fun w hw=>by
 refine zKI _ _ _ ?_;refine Sep.hg hw ?_;clear hw w;unfold jP;refine zD fun j1=>?_;refine yC (b:=j1) (l:=djF j) (l':=orV j.o.tag j.o.t j.o.ms) ?_;refine zKx (fun w hw=>hm w hw.drops) hml fun s=>?_;unfold zLR at h;have hlen:=zNK j.o.mks;generalize xA j.o.mks=H at *;refine yw s fun a1 a2 a3 a4=>?_;rw[zgL,zgs] at a1;refine qH (α:=Int) (ι:=Nat) (fun x i=>x=(i:Int)∧i≤H.length∧(H.take i).all j.at'=true) (fun x i=>SlI s H::blk j1 (.cells (djF j).toArray xP (0,0))::Γ) (fun x i=>H.length-i) 0 ⟨rfl,zgW _,rfl⟩ ?_;rintro k' _ i ⟨rfl,hi,hn⟩ hk';unfold jP.b1;refine zF (fun hb=>?_) fun hb=>?_;rotate_left
 ·have hil:i=H.length:=by simp only[zgF] at hb;omega
  rw[hil,zgQ] at hn;rw[hn] at h;exact zA h
 have hil:i<H.length:=by simp only[zgH] at hb;omega
 have hge:H[i]?=some H[i]:=zgG hil;have htk:H.take (i+1)=H.take i++[H[i]]:=zgJ hil;have hmem:H[i]∈H:=zgX hil;generalize H[i]=x at hge htk hmem;obtain⟨x0,x3⟩:=hh x hmem;refine je (c:=Value.int .i64) (L:=H) (j:=i) (x:=x) (fun w hw=>(zO (s:=s) hw).1) hge ?_;refine zFY (b:=j1) (off:=10) x0 (by omega) ?_;refine zh (b:=j1) (off:=10+x.toNat) (l:=djF j) (x:=j.at' x) ?_ (zaa x0 x3);cases hx:j.at' x with
 | false=>
  refine s_t ?_ (by rfl);rw[show H.all j.at'=false by rw[List.all_eq_false];exact⟨x,hmem,by simp[hx]⟩] at h;exact zA h
 | true=>
  refine s_f ?_ (by rfl);refine qJ ?_;exact hk' _ (i+1) ⟨by simp,hil,by rw[htk,List.all_append,hn];simp[hx]⟩ (by omega)
theorem zYu{g:zx}{Q:Int→K}(hJ:X.J.length≤1000000)(hno:(∀j∈X.J,j.o.tag≠g)→HG B (dsF md n st lk ls ts js X P Γ) (Q (-1)))(hyes:∀A j C,X.J=A++j::C→(∀y∈A,y.o.tag≠g)→j.o.tag=g→HG B (dsF md n st lk ls ts js X P Γ) (Q (A.length:Int))):
  HG B (dsF md n st lk ls ts js X P Γ) (uR.call (some ⟨md,0,none⟩) (zQ g).toArray Q):=by
 refine fun w hw=>zIe _ _ _ _ ?_;refine hg hw ?_;clear hw w;refine yw js fun a1 a2 a3 a4=>?_;rw[zH djF 14 zCC] at a1;unfold uR;refine zD fun t3=>?_;have key:∀{Ψ:List zB} {q:K},[Drops Ψ (dsF md n st lk ls ts js X P Γ)]→HG B (dsF md n st lk ls ts js X P Γ) q→HG B Ψ q:=fun {Ψ q} _ h=>zA h;refine qH (α:=Int) (ι:=Nat) (fun x i=>x=(i:Int)∧i≤X.J.length∧∀y∈X.J.take i,y.o.tag≠g) (fun x i=>blk t3 (.cells (zQ g).toArray zN (0,0))::dsF md n st lk ls ts js X P Γ) (fun x i=>X.J.length-i) 0 ⟨rfl,zgW _,by simp⟩ ?_;rintro k' _ i ⟨rfl,hi,hn⟩ hk';unfold uR.b1;refine uf ?_;refine zh (b:=md) (off:=15) (l:=dsL n st lk ls ts X.fed X.last js) (x:=js) ?_;refine zF (fun hb=>?_) fun hb=>?_;rotate_left
 ·have hil:i=X.J.length:=by simp only[zgF] at hb;omega
  rw[hil,zgQ] at hn;exact key (hno hn)
 have hil:i<X.J.length:=by simp only[zgH] at hb;omega
 have hge:X.J[i]?=some X.J[i]:=zgG hil;have htk:X.J.take (i+1)=X.J.take i++[X.J[i]]:=zgJ hil;have hsp:X.J=X.J.take i++X.J[i]::X.J.drop (i+1):=by
  have:=(zgz i X.J).symm;rwa[zgj hil] at this
 generalize X.J[i]=j at hge htk hsp;refine xg ?_;refine zh (b:=md) (off:=15) (l:=dsL n st lk ls ts X.fed X.last js) (x:=js) ?_;refine uY djF zCC (by omega) (fun w hw=>(zO (s:=js) hw).1) hge fun t ht=>?_;refine zBc (cs:=djF j) (us:=zQ j.o.tag) (fun w hw=>ht w (zO (s:=js) hw).1) (by rw[zCC];omega) ?_;refine yC (b:=t3) (l:=zQ g) (l':=zQ g) ?_;refine zHQ (xs:=zQ j.o.tag) (ys:=zQ g) (ks:=zJ2) zBw ?_;refine zF (fun h5=>?_) fun h5=>?_
 ·have h5:j.o.tag=g:=by simpa using h5
  have:=hyes _ j _ hsp hn h5;rw[zgR,zh6 (by omega)] at this;exact key this
 ·refine qJ ?_;refine hk' _ (i+1) ⟨by simp,hil,fun y hy=>?_⟩ (by omega);rw[htk] at hy;rcases zgP.1 hy with hy|hy
  ·exact hn y hy
  ·simp only[zgM] at hy;subst hy;simpa using h5
theorem zTZ{r:Nat}{L:List ItG}{y:ItG}{Q:Bool→K}(hr:r<3)(hL:X.lg r=L++[y])(hP:∀w,Holds B Γ w→∀y∈X.lg r,zF7 w y.o)(hm:∀y∈X.lg r,y.o.mks.length≤1000)(hl:(X.lg r).length≤1000000)(htl:(X.tg r).length<1000000000)
  (h:HG B (dsF md n st lk ls ts js X P Γ) (Q (cntF (r:Int) L y&&if y.kind=1 then !decide (y.o.tag∈X.tg r) else decide (X.last r<y.ix)))) :
  HG B (dsF md n st lk ls ts js X P Γ) (zAO.call (some ⟨md,0,none⟩) (r:Int) Q):=by
 refine fun w hw=>zGr _ _ _ _ ?_;refine hg hw ?_;clear hw w;unfold zAO;have hLl:(X.lg r).length=L.length+1:=by rw[hL];simp
 refine qc (Sep.stars ((List.range 3).map fun i=>zDf (ls i) (X.lg i))) ?_;refine zYt hr fun c1 c2 c3=>?_;have hlrd:∀{Ψ:List zB},[Drops Ψ [Sep.stars ((List.range 3).map fun i=>zDf (ls i) (X.lg i))]]→∀w,Holds B Ψ w→RdC w (ls r) 12 ((X.lg r).flatMap zB4):=fun {Ψ} _ w hw=>(zYs hr (hw.drops (Δ:=[Sep.stars ((List.range 3).map fun i=>zDf (ls i) (X.lg i))]))).1;refine uf ?_;refine zFY (b:=md) (off:=3) (by omega) (by omega) ?_;rw[zgw];refine zh (b:=md) (off:=3+r) (l:=dsL n st lk ls ts X.fed X.last js) (x:=ls r) ?_ (zYr hr);refine zAw (e':=(L.length:Int)) (by rw[wrap64 (by omega) (by omega)];omega) ?_;have hy:(X.lg r)[L.length]?=some y:=by rw[hL];simp
 refine uT zB4 zEe (fun w hw=>hlrd w hw) hy ?_;refine zD fun x7=>?_;refine yX (b:=x7) (l':=zB4 y) ?_;refine zRw (Γ:=Sep.stars ((List.range 3).map fun i=>zDf (ls i) (X.lg i))::Γ) (L:=X.lg r) (s:=ls r) (fun w hw=>hlrd w hw) c1 c2 c3 (fun w hw=>hP w hw.tail) hm hl L.length hy ?_;rw[show(X.lg r).take L.length=L by rw[hL,zhU]];have done:∀(b:Bool) {Ψ:List zB},[Drops Ψ (dsF md n st lk ls ts js X P Γ)]→(cntF (r:Int) L y&&if y.kind=1 then !decide (y.o.tag∈X.tg r) else decide (X.last r<y.ix))=b→HG B Ψ (Q b):=fun b {Ψ} _ hb=>by
  rw[hb] at h;exact zA h
 cases hc:cntF (r:Int) L y with
 | false=>
  refine s_t ?_ (by rfl);exact done false (by rw[hc];rfl)
 | true=>
  rw[hc] at done;refine s_f ?_ (by rfl);refine zh (b:=x7) (l:=zB4 y) (x:=y.kind) ?_;refine zF (fun h1=>?_) fun h1=>?_
  ·refine xg ?_;refine zFY (b:=md) (off:=12) (by omega) (by omega) ?_;rw[zgw];refine zh (b:=md) (off:=12+r) (l:=dsL n st lk ls ts X.fed X.last js) (x:=ts r) ?_ (zc3 hr);refine yC (b:=x7) (off:=2) (l:=zB4 y) (l':=zQ y.o.tag) ?_;refine zIK htl (fun w hw=>zc4 hr (hw.drops (Δ:=[Sep.stars ((List.range 3).map fun i=>zLn (ts i) (X.tg i))]))) ?_;exact done _ (by rw[if_pos (by simpa using h1)];rfl)
  ·refine xg ?_;refine zh (b:=x7) (off:=1) (l:=zB4 y) (x:=y.ix) ?_;refine zFY (b:=md) (off:=9) (by omega) (by omega) ?_;rw[zgw];refine zh (b:=md) (off:=9+r) (l:=dsL n st lk ls ts X.fed X.last js) (x:=X.last r) ?_ (zaZ hr);exact done _ (by rw[if_neg (by simpa using h1)];rfl)
end
end
section
open Go Go.Sep Go.Sep.Bt
theorem zQG{M:GM}{k:TX}{v:List Claim×List Claim}(h:zBm M):zBm (uH k v M):=by
 unfold zBm at h ⊢;rw[zEK];split
 ·exact h
 ·rename_i hn;exact zhd.2 ⟨h,by simp,fun a ha b hb e=>by simp only[zgM] at hb;subst hb;subst e;exact hn ha⟩
theorem zKL{M:GM}{k:TX}(h:zBm M):zBm (zBA k M):=by
 unfold zBA;split
 ·rename_i hn;exact zOX h (by simpa using hn)
 ·exact h
theorem zWI{n:Nat}{S:zo}{g:zx}{x:GM×DM}{m:zCT}(h:zBm x.1):zBm (zA3 n S g x m).1:=by
 unfold zA3;split
 ·exact zKL h
 split
 ·exact zQG (zKL h)
 split
 ·exact zQG (zKL h)
 ·exact zKL h
theorem zR4{n:Nat}{S:zo}{g:zx}:∀(L:List zCT) {x:GM×DM},zBm x.1→zBm (zBO n S g L x).1
 | [],_,h=>h
 | m::L,_,h=>zR4 L (zWI h)
theorem zR5{g:zx}{x:GM×DM}(h:zBm x.1):zBm (uE g x).1:=by
 unfold zBm uE at *;rw[List.map_map];exact h
theorem zYv{n:Nat}{S:zo}{key:TX}{x:GM×DM}(h:zBm x.1):zBm (zBx n S key x).1:=zQG (zKL h)
structure NoG(g:zx)(x:RX):Prop where
 line:∀c∈x.line,c.1≠g
 park:∀c∈x.park,c.1≠g
 doom:g∉x.doom
theorem zWJ(g:zx)(x:RX):NoG g (zBU g x):=by
 refine⟨fun c hc=>?_,fun c hc=>?_,fun hg=>?_⟩
 ·simpa using(zha.1 hc).2
 ·simpa using(zha.1 hc).2
 ·simp at hg
theorem NoG.same{g:zx}{x:RX}(h:NoG g x):zBU g x=x:=by
 obtain⟨line,park,doom⟩:=x;obtain⟨h1,h2,h3⟩:=h;unfold zBU noT;simp only at h1 h2 h3 ⊢;rw[zhv.2 fun c hc=>by simpa using h1 c hc,zhv.2 fun c hc=>by simpa using h2 c hc,zhv.2 fun t ht=>by simpa using fun e:t=g=>h3 (e▸ht)]
theorem zR6{D:List zx}{t u:zx}:t∈zAm D u↔t∈D∨t=u:=by
 by_cases h:u∈D
 ·rw[zUx h];constructor
  ·exact .inl
  ·rintro(h1|rfl)
   ·exact h1
   ·exact h
 ·rw[zRy h];simp
theorem zNU{r:Rec}{key:TX}{t:zx}:∀(L:List Claim) {D:List zx},t∈zBP r key L D→t∈D∨∃c∈L,c.1=t
 | [],D,h=>.inl h
 | c::L,D,h=>by
  have h:t∈zBP r key L (if c.2.key=key∧uF r c≠0 then zAm D c.1 else D):=h;rcases zNU L h with h1|⟨c',h1,h2⟩
  ·split at h1
   ·rcases zR6.1 h1 with h1|h1
    ·exact .inl h1
    ·exact .inr ⟨c,by simp,h1.symm⟩
   ·exact .inl h1
  ·exact .inr ⟨c',by simp[h1],h2⟩
theorem zU3{r:Rec}{key:TX}{g:zx}:∀(L:List Claim) {x:List Claim×List zx×List Claim},(∀c∈L,c.1≠g)→(∀c∈x.1,c.1≠g)→g∉x.2.1→(∀c∈x.2.2,c.1≠g)→(∀c∈(rMv r key L x).1,c.1≠g)∧g∉(rMv r key L x).2.1∧∀c∈(rMv r key L x).2.2,c.1≠g
 | [],x,_,h1,h2,h3=>⟨h1,h2,h3⟩
 | c::L,x,h0,h1,h2,h3=>by
  have hc:=h0 c (by simp);refine zU3 L (fun y hy=>h0 y (by simp[hy])) (x:=zCp r key x c) ?_ ?_ ?_
  ·unfold zCp;split
   ·exact h1
   split
   ·intro y hy;rcases zgP.1 hy with hy|hy
    ·exact h1 y hy
    ·simp only[zgM] at hy;subst hy;exact hc
   ·exact h1
  ·unfold zCp;split
   ·exact h2
   split
   ·exact h2
   ·intro hg;rcases zR6.1 hg with hg|hg
    ·exact h2 hg
    ·exact hc hg.symm
  ·unfold zCp;split
   ·intro y hy;rcases zgP.1 hy with hy|hy
    ·exact h3 y hy
    ·simp only[zgM] at hy;subst hy;exact hc
   split
   ·exact h3
   ·exact h3
theorem NoG.moved{g:zx}{x:RX}{n:Nat}{S:zo}{key:TX}(h:NoG g x):NoG g (zEj n S key x):=by
 have hd:g∉zBP (yt n S (bs key)) key x.line x.doom:=fun hm=>by
  rcases zNU x.line hm with h1|⟨c,h1,h2⟩
  ·exact h.doom h1
  ·exact h.line c h1 h2
 obtain⟨a,b,c⟩:=zU3 (r:=yt n S (bs key)) (key:=key) (g:=g) x.park (x:=(x.line,zBP (yt n S (bs key)) key x.line x.doom,[])) h.park h.line hd (by simp);exact⟨a,c,b⟩
def djM(j:DJ):zFP:=⟨j.o.tag,zJQ j.o.t,j.o.mks,(xA j.o.mks).filter fun h=>!j.at' h⟩
theorem zYw(j:DJ):(djM j).need=[]↔zLR j=true:=by
 unfold djM zLR;simp[List.filter_eq_nil_iff]
structure JOk(n:Nat)(Po:OrG→Prop)(j:DJ):Prop where
 ord:zCr (n:Int) j.o.tag j.o.t j.o.mks
 nn:∀x∈j.o.t.ops,-9223372036854775808≤x.1.n∧x.1.n≤9223372036854775807
 po:Po j.o
structure WR(n T U:Nat)(Po:OrG→Prop)(M:zo)(G:GM×DM)(x:RX)(J:List DJ):Prop where
 lk:zGW G.1 G.2 x
 ku:zBm G.1
 wf:Wf n M
 sz:x.line.length+x.park.length≤T
 sd:x.doom.length≤U
 ok:∀j∈J,JOk n Po j
def zGb(x:RX)(j:DJ):Bool:=zLR j&&(decide (j.o.tag∈x.doom)||(!zEi j.o.tag x.park&&decide (zJX j.o.tag x=[])))
section
variable{n T U:Nat}{Po:OrG→Prop}{M:zo}{G:GM×DM}{x:RX}{J:List DJ}
theorem zNV(h:WR n T U Po M G x J)(j:DJ):pick G (djM j)=zGb x j:=by
 have h1:decide ((djM j).need=[])=zLR j:=by
  rw[ziH,zgH];exact zYw j
 unfold pick zGb;rw[h1];show(zLR j&&(G.2 j.o.tag||zFj j.o.tag G.1))=_;rw[h.lk.doom,ready_eq h.lk h.ku]
def zTa(n:Nat)(g:zx)(t:TxX)(M:zo)(x:RX):RX :=
 if g∈x.doom then zBU g x else if t.kind=2∧(jV n M t).2.2=0 then zEj n (zAU n M (wrU n M t)) (t.writes.headD []) (zBU g x) else zBU g x
theorem zOt(g:zx)(x:RX):(zBU g x).line.length+(zBU g x).park.length≤x.line.length+x.park.length∧(zBU g x).doom.length≤x.doom.length:=by
 have h1:(noT g x.line).length≤x.line.length:=zgr ..;have h2:(noT g x.park).length≤x.park.length:=zgr ..;have h3:(x.doom.filter fun t=>!decide (t=g)).length≤x.doom.length:=zgr ..;exact⟨by simp only;omega,h3⟩
theorem WR.dec{A C:List DJ}{j:DJ}(h:WR n T U Po M G x (A++j::C))(hw:Wf n (zDe n j.o.tag j.o.t M G)):WR n T (U+T) Po (zDe n j.o.tag j.o.t M G) (zFl n j.o.tag j.o.t M G) (zTa n j.o.tag j.o.t M x) (A++C):=by
 obtain⟨l1,l2⟩:=zOt j.o.tag x;have hz:=h.sz;have hd:=h.sd;have hdm:G.2 j.o.tag=true↔j.o.tag∈x.doom:=by rw[h.lk.doom];simp
 have hok:∀y∈A++C,JOk n Po y:=fun y hy=>h.ok y (by
  rcases zgP.1 hy with hy|hy <;> simp[hy])
 have hl:=h.lk.leave (tag:=j.o.tag);have hk:=zR5 (g:=j.o.tag) h.ku;have hg:(G.1,G.2)=G:=rfl;rw[hg] at hl;unfold zFl zTa;by_cases h1:G.2 j.o.tag=true
 ·rw[if_pos h1,if_pos (hdm.1 h1)];exact⟨hl,hk,hw,by omega,by omega,hok⟩
 rw[if_neg h1,if_neg fun h2=>h1 (hdm.2 h2)];by_cases h2:j.o.t.kind=2∧(jV n M j.o.t).2.2=0
 ·rw[if_pos h2,if_pos h2];have hm:=hl.moved (n:=n) (S:=zAU n M (wrU n M j.o.t)) (key:=j.o.t.writes.headD []);have hm2:=hm.leave (tag:=j.o.tag);rw[((zWJ j.o.tag x).moved (n:=n) (S:=zAU n M (wrU n M j.o.t)) (key:=j.o.t.writes.headD [])).same] at hm2;obtain⟨s1,s2⟩:=zOp (n:=n) (S:=zAU n M (wrU n M j.o.t)) (key:=j.o.t.writes.headD []) (x:=zBU j.o.tag x);exact⟨hm2,zR5 (zYv hk),hw,by omega,by omega,hok⟩
 ·rw[if_neg h2,if_neg h2];exact⟨hl,hk,hw,by omega,by omega,hok⟩
structure zeb(n:Nat)(M:zo)(t:TxX):Prop where
 code:(jV n M t).2.2=(zAz n M t).2.1
 outs:(if(jV n M t).2.2=0 then(jV n M t).2.1 else[])=(zAz n M t).1
 app:zAU n M (wrU n M t)=zFZ M (zAz n M t).2.2
 wf:Wf n (zAU n M (wrU n M t))
theorem zTY.zfs{t:TxX}(hr:zTY n M t):zeb n M t:=by
 have hc:=hr.code;have happ:zAU n M (wrU n M t)=zFZ M (zAz n M t).2.2:=by
  unfold wrU;by_cases h0:(jV n M t).2.2=0
  ·rw[if_pos h0,hr.rows (by rw[←hc];exact h0)];exact hr.app (by rw[←hc];exact h0)
  ·rw[if_neg h0,(hr.bad (by rw[←hc];exact h0)).2];rfl
 refine⟨hc,?_,happ,by rw[happ];exact hr.wf⟩;by_cases h0:(jV n M t).2.2=0
 ·rw[if_pos h0];exact hr.outs (by rw[←hc];exact h0)
 ·rw[if_neg h0,(hr.bad (by rw[←hc];exact h0)).1]
end
end
section
open Go Go.Sep Go.Sep.Bt
abbrev dxW(X:DX)(M:zo)(x:RX)(J:List DJ):DX:=⟨M,x,X.lg,X.fed,X.last,X.tg,J⟩
structure zR7(n:Nat)(Pm:zo→Prop)(Pt:TxX→Prop):Prop where
 law:∀{M:zo} {t:TxX},Pm M→Pt t→qC (n:Int) t=true→Wf n M→zeb n M t∧(zAz n M t).2.2.length≤16
 run:∀{B:World} {Γ:List zB} {sd:Nat} {M:zo} {P:Pool} {t:TxX} {Q:Array Value→Sl→K} (hop:∀x∈t.ops,x.1.ok∧x.1.val.length≤90000000) (hl:t.ops.length≤1000) (hM:M.length≤100000) (hwk:∀k∈t.writes,k.length<1000000000000) (h2:t.kind=2→t.writes≠[]) (ht:∀w,Holds B Γ w→zAn w t)
    (h:∀P' os (O:OX) rs (R:WX),(∀x∈P,x∈P')→O.map Prod.fst=(zAz n M t).1→zA4 R=(zAz n M t).2.2→zK4 P' t O→RowsIn P' R→HG B (SlC qA 2 os (O.flatMap oF)::SlC qw 5 rs (R.flatMap zDK)::jC sd n M P'::uN P'::Γ) (Q #[.int .i64 (zAz n M t).2.1,os.val] rs)),Pm M→Pt t→HG B (jC sd n M P::uN P::Γ) (xO.call (some ⟨sd,0,none⟩) (txL t).toArray Q)
 app:∀{B:World} {Γ:List zB} {sd:Nat} {M:zo} {P:Pool} {t:TxX} {rs:Sl} {R:WX} {Q:K} (hr:∀w,Holds B Γ w→RdC w rs 5 (R.flatMap zDK)) (hR:RowsIn P R) (hL:M.length+R.length<1000000) (h:HG B (jC sd n (zFZ M (zA4 R)) P::Γ) Q),Pm M→Pt t→zA4 R=(zAz n M t).2.2→HG B (jC sd n M P::Γ) (zAj.call (some ⟨sd,0,none⟩) rs Q)
 keep:∀{M:zo} {G:GM×DM} {g:zx} {t:TxX},Pm M→Pt t→qC (n:Int) t=true→Pm (zDe n g t M G)
theorem zR7.wf{n:Nat}{Pm:zo→Prop}{Pt:TxX→Prop}{M:zo}{G:GM×DM}{g:zx}{t:TxX}(Kd:zR7 n Pm Pt)(hm:Pm M)(ht:Pt t)(h:qC (n:Int) t=true)(hw:Wf n M):Wf n (zDe n g t M G):=by
 unfold zDe;split
 ·exact hw
 ·exact(Kd.law hm ht h hw).1.wf
def zR8(Po:OrG→Prop)(P:Pool)(D:List DcX):Prop:=∀d∈D,∀y∈d.O,inP P y.2 y.1.2∨∃o,Po o∧∃op∈o.t.ops,y.2=op.2∧y.1.2=op.1.val
def zF8(d:DcX):zB:=SlC qA 2 d.os (d.O.flatMap oF)
structure WI where
 D:List DcX
 P:Pool
 M:zo
 G:GM×DM
 x:RX
 J:List DJ
structure WOk(n T U:Nat)(Pm:zo→Prop)(Po:OrG→Prop)(X:DX)(P0:Pool)(W:(List zFP×zo×(GM×DM))×List DcM)(i:WI):Prop where
 pm:Pm i.M
 pool:∀p∈P0,p∈i.P
 wr:WR n T (U+T*i.D.length) Po i.M i.G i.x i.J
 cnt:i.J.length+i.D.length=X.J.length
 sub:∀j∈i.J,j∈X.J
 ml:i.M.length≤X.M.length+32*i.D.length
 st:(zAo n i.J.length (i.J.map djM) i.M i.G).1=W.1
 out:i.D.map zIb++(zAo n i.J.length (i.J.map djM) i.M i.G).2=W.2
 oo:zR8 Po i.P i.D
section
variable{Pm:zo→Prop}{Pt:TxX→Prop}{B:World}{Γ Δ:List zB}{k:K}{md n st lk:Nat}{ls ts:Nat→Sl}{js:Sl}{X:DX}{P:Pool}{T U:Nat}{Po:OrG→Prop}{G:GM×DM}
theorem zR8.snoc{P':Pool}{D:List DcX}{d:DcX}(h:zR8 Po P D)(hP:∀p∈P,p∈P')(hd:∀y∈d.O,inP P' y.2 y.1.2∨∃o,Po o∧∃op∈o.t.ops,y.2=op.2∧y.1.2=op.1.val):zR8 Po P' (D++[d]):=fun d' hd' y hy=>by
 rcases zgP.1 hd' with hd'|hd'
 ·exact(h d' hd' y hy).imp (fun h=>h.mono hP) id
 ·simp only[zgM] at hd';subst hd';exact hd y hy
theorem WOk.next{P0:Pool}{W:(List zFP×zo×(GM×DM))×List DcM}{D1:List DcX}{P1 P':Pool}{M1 M':zo}{G1:GM×DM}{x1 x':RX}{A C:List DJ}{z:DJ}{d:DcX}(h:WOk n T U Pm Po X P0 W ⟨D1,P1,M1,G1,x1,A++z::C⟩)(hwf1:Wf n (zDe n z.o.tag z.o.t M1 G1))(hpm1:Pm (zDe n z.o.tag z.o.t M1 G1))(hA:∀a∈A,zGb x1 a=false)(hz:zGb x1 z=true)
  (hP:∀p∈P1,p∈P') (hM:M'=zDe n z.o.tag z.o.t M1 G1) (hx:x'=zTa n z.o.tag z.o.t M1 x1) (hd:zIb d=⟨z.o.tag,zFm n z.o.tag z.o.t M1 G1,zKs n z.o.tag z.o.t M1 G1⟩) (hO:∀y∈d.O,inP P' y.2 y.1.2∨∃o,Po o∧∃op∈o.t.ops,y.2=op.2∧y.1.2=op.1.val) :
  WOk n T U Pm Po X P0 W ⟨D1++[d],P',M',zFl n z.o.tag z.o.t M1 G1,x',A++C⟩:=by
 obtain⟨_,h1,h2,h3,h4,h5,h6,h7,h8⟩:=h;simp only at h1 h2 h3 h4 h5 h6 h7 h8;have hjo:=h2.ok z (by simp);have hrt:=hjo.ord.1;subst hM;subst hx;have hA':∀y∈A.map djM,pick G1 y=false:=fun y hy=>by
  obtain⟨a,ha,rfl⟩:=zgV.1 hy;rw[zNV h2];exact hA a ha
 have hwf:=zJS (n:=n) (f:=(A++C).length) (A:=A.map djM) (C:=C.map djM) (j:=djM z) (M:=M1) (G:=G1) hA' (by rw[zNV h2];exact hz);rw[show A.map djM++djM z::C.map djM=(A++z::C).map djM by simp,show(A++C).length+1=(A++z::C).length by simp;omega] at hwf;rw[hwf] at h6 h7;obtain⟨e1,e2,e3,e4⟩:=zRo (n:=n) (g:=z.o.tag) (a:=zJQ z.o.t) (b:=z.o.t) (M:=M1) (G:=G1) (zII z.o.t);simp only[djM,e1,e2,e3,e4] at h6 h7;refine⟨hpm1,fun p hp=>hP p (h1 p hp),?_,?_,fun j hj=>h4 j ?_,?_,?_,?_,h8.snoc hP hO⟩
 ·have:=h2.dec hwf1;simp only[zgK,zgO,zgl];rw[show U+T*(D1.length+(0+1))=U+T*D1.length+T by rw[zg8,Nat.mul_add,zgs];omega];exact this
 ·simp only[zgK,zgO,zgl] at h3 ⊢;omega
 ·rcases zgP.1 hj with hj|hj
  ·exact zhF _ hj
  ·exact zg3 _ (zgI _ hj)
 ·have:=zNC (n:=n) (g:=z.o.tag) (M:=M1) (G:=G1) hrt;simp only[zgK,zgO,zgl];omega
 ·simp only;rw[show(A++C).map djM=A.map djM++C.map djM by simp];exact h6
 ·simp only;rw[zgT,zgd,zhp,hd,show(A++C).map djM=A.map djM++C.map djM by simp,zg9];exact h7
theorem zad{d8:Nat}{d:DcX}{o:Sl}{D:List DcX}{Q:Sl→K}{X1:Sl→K}{X3:Int→Int→K}(hD:D.length≤1000000)(h:∀o',HG B (SlC zu 6 o' ((D++[d]).flatMap dcF)::Γ) (X1 o')):
  HG B (SlC zu 6 o (D.flatMap dcF)::blk d8 (.cells (dcF d).toArray zu (0,0))::Γ) (zG.s6 Q X1 X3 ⟨md,0,none⟩ o ⟨d8,0,none⟩):=by
 unfold zG.s6;refine yw o fun b1 b2 b3 b4=>?_;rw[zH _ 6 zUm] at b1;refine yC (b:=d8) (l:=dcF d) (l':=dcF d) ?_ rfl rfl;refine zBh (cs:=dcF d) ?_;refine zD fun t165=>?_;refine qp (s:=o) (esz:=6) (us:=dcF d) (zBM rfl) (by simp[qD]) (by simp only;omega) fun o' _=>?_;rw[show D.flatMap dcF++dcF d=(D++[d]).flatMap dcF by simp];exact zA (h o')
theorem zWK{Q:Sl→K}(Kd:zR7 n Pm Pt)(hPm:Pm X.M)(hpt:∀o,Po o→Pt o.t)(hrd:∀w,Holds B Γ w→∀o,Po o→zF7 w o)(hw:WR n T U Po X.M G X.x X.J)(hT:T≤3000)(hU:U+T*X.J.length≤90000)(hM:X.M.length+32*X.J.length≤90000)(hJl:X.J.length≤10000)(hn3:n≤3)
  (h:∀s (i:WI),WOk n T U Pm Po X P (zAo n X.J.length (X.J.map djM) X.M G) i→i.J.map djM=(zAo n X.J.length (X.J.map djM) X.M G).1.1→i.M=(zAo n X.J.length (X.J.map djM) X.M G).1.2.1→i.G=(zAo n X.J.length (X.J.map djM) X.M G).1.2.2→i.D.map zIb=(zAo n X.J.length (X.J.map djM) X.M G).2 →
   HG B (SlC zu 6 s (i.D.flatMap dcF)::Sep.stars (i.D.map zF8)::DsR md n (dxW X i.M i.x i.J) i.P::uN i.P::Γ) (Q s)) :
  HG B (DsR md n X P::uN P::Γ) (zG.call (some ⟨md,0,none⟩) Q):=by
 refine fun w hw=>zIf _ _ _ ?_;refine hg hw ?_;clear hw w;unfold zG;refine zD fun t12=>?_;refine zCi (esz:=6) ?_;refine fun w hw=>Sep.hg (show Holds B (Sep.stars (([]:List DcX).map zF8)::_) w from hw.zAA) ?_;clear hw w;generalize hW:zAo n X.J.length (X.J.map djM) X.M G=W at h;refine qH (α:=Sl) (ι:=WI) (fun s i=>WOk n T U Pm Po X P W i) (fun s i=>Sep.stars (i.D.map zF8)::SlC zu 6 s (i.D.flatMap dcF)::DsR md n (dxW X i.M i.x i.J) i.P::uN i.P::Γ) (fun s i=>i.J.length) ⟨[],P,X.M,G,X.x,X.J⟩ ⟨hPm,fun _ h=>h,by simpa using hw,by simp,fun _ h=>h,by simp,by simp only;rw[hW],by simp only;rw[hW];simp,fun d hd=>by cases hd⟩ ?_;rintro k' o ⟨D1,P1,M1,G1,x1,J1⟩ hok hk';simp only at hk' ⊢;have hi2:=hok.wr;have hi3:=hok.cnt;have hi5:=hok.ml;simp only at hi2 hi3 hi5;have hTD:T*D1.length≤T*X.J.length:=Nat.mul_le_mul_left _ (by omega);have hsz:=hi2.sz;have hsd:=hi2.sd;unfold zG.b1;refine uf ?_;refine qc (DsR md n (dxW X M1 x1 J1) P1) ?_;refine zc1 fun st lk ls ts js=>?_;refine zh (b:=md) (l:=dsL n st lk ls ts X.fed X.last js) (x:=false) ?_;refine s_f ?_ (by rfl);unfold zG.s2;refine uf ?_;refine zh (b:=md) (off:=15) (l:=dsL n st lk ls ts X.fed X.last js) (x:=js) ?_;refine yw js fun a1 a2 a3 a4=>?_;rw[zH djF 14 zCC] at a1;have hjn:js.n=J1.length:=(zgb (by omega) a1).symm;refine qJ ?_;rw[hjn];generalize hΨ:Sep.stars (D1.map zF8)::SlC zu 6 o (D1.flatMap dcF)::uN P1::Γ=Ψ;have hΨd:Drops Ψ (Sep.stars (D1.map zF8)::SlC zu 6 o (D1.flatMap dcF)::uN P1::Γ):=by rw[←hΨ];infer_instance
 have hrdΨ:∀w,Holds B Ψ w→∀o,Po o→zF7 w o:=fun w hw=>hrd w ((hw.drops (d:=hΨd)).drops (Δ:=Γ));refine qH (α:=Int×Int) (ι:=Nat) (fun y i=>y.2=(i:Int)-1∧i≤J1.length∧((y.1 = -1∧∀z∈J1.drop i,zGb x1 z=false)∨∃A z C,J1.drop i=A++z::C∧(∀a∈A,zGb x1 a=false)∧zGb x1 z=true∧y.1=(i:Int)+A.length)) (fun y i=>dsF md n st lk ls ts js (dxW X M1 x1 J1) P1 Ψ) (fun y i=>i) J1.length ⟨rfl,zgu _,.inl ⟨rfl,by simp⟩⟩ ?_;rintro k2 ⟨at',_⟩ i ⟨rfl,hi,hat⟩ hk2;simp only at hat hk2 ⊢;unfold zG.b3;refine zF (fun hb=>?_) fun hb=>?_
 ·obtain⟨i,rfl⟩:∃m,i=m+1:=⟨i-1,by simp only[zgH] at hb;omega⟩
  have hil:i<J1.length:=by omega
  have hge:J1[i]?=some J1[i]:=zgG hil;have hdr:J1.drop i=J1[i]::J1.drop (i+1):=zgj hil;have hje:=hi2.ok J1[i] (zgX hil);generalize J1[i]=e at hge hdr hje;have hhm:∀m∈e.o.mks,0≤m.home∧m.home<3:=fun m hm=>by have:=hje.ord.2.2.2 m hm;omega
  have hhs:∀h∈xA e.o.mks,0≤h∧h<3:=fun h hh=>by
   by_cases hn:e.o.mks=[]
   ·rw[hn,zJT] at hh;simp at hh;omega
   ·obtain⟨m,hm,rfl⟩:=(zNF hn).1 hh;exact hhm m hm
  have hml:e.o.mks.length≤1000:=by
   have h1:=congrArg List.length hje.ord.2.2.1;have h2:=zDX (e.o.t.reads++e.o.t.writes);have h3:=zDO hje.ord.1;rw[zgL] at h1;rw[zgK] at h2;omega
  have fin5:∀b:Bool,zGb x1 e=b→HG B (dsF md n st lk ls ts js (dxW X M1 x1 J1) P1 Ψ) (zG.s5 Q k' (fun y1 y2=>k2 (y1,y2)) ⟨md,0,none⟩ o at' (((i+1:Nat):Int)-1) b):=fun b hb=>by
   unfold zG.s5 zG.s4;cases b
   ·refine s_f ?_ (by rfl);refine qJ ?_;refine hk2 (at',_) i ⟨by simp only;omega,by omega,?_⟩ (by omega);rw[hdr];rcases hat with⟨h1,h2⟩|⟨A,z,C,h1,h2,h3,h4⟩
    ·refine .inl ⟨h1,fun z hz=>?_⟩;rcases zgS.1 hz with rfl|hz
     ·exact hb
     ·exact h2 z hz
    ·refine .inr ⟨e::A,z,C,by rw[h1];rfl,fun a ha=>?_,h3,by simp only[zgO];omega⟩;rcases zgS.1 ha with rfl|ha
     ·exact hb
     ·exact h2 a ha
   ·refine s_t ?_ (by rfl);refine qJ ?_;refine hk2 (_,_) i ⟨by simp only;omega,by omega,?_⟩ (by omega);rw[hdr];exact .inr ⟨[],e,J1.drop (i+1),rfl,by simp,hb,by simp only[zgl];omega⟩
  refine zh (b:=md) (off:=15) (l:=dsL n st lk ls ts X.fed X.last js) (x:=js) ?_;refine uY djF zCC (by omega) (fun w hw=>(zO (s:=js) hw).1) hge fun t ht=>?_;refine zBc (cs:=djF e) (us:=zQ e.o.tag) (fun w hw=>ht w (zO (s:=js) hw).1) (by rw[zCC];omega) ?_;refine zD fun tag6=>?_;refine yX (b:=tag6) (l':=zQ e.o.tag) ?_;refine xg ?_;refine qc (zAW lk x1) ?_;refine zEy fun l1 p1 d1=>?_;refine zBl [blk lk (.cells [l1.val,p1.val,d1.val].toArray zAh (0,0)),blk tag6 (.cells (zQ e.o.tag).toArray zN (0,0)),dsB md n st lk ls ts X.fed X.last js,SlC xP 14 js (J1.flatMap djF)] ?_;refine jK (b:=md) (off:=15) (l:=dsL n st lk ls ts X.fed X.last js) (x:=js) ?_;refine zPx djF zCC (by omega) (fun w hw=>(zO (s:=js) hw).1) (fun w hw=>(zO (s:=js) hw).1) hge ?_;refine zR3 (fun w hw=>(hrdΨ w (hw.drops (Δ:=Ψ)) _ hje.po).2) hml hhs ?_;refine vS ?_;have fold:∀{b:Bool},zGb x1 e=b→HG B (zCR lk l1 p1 d1 x1 (blk tag6 (.cells (zQ e.o.tag).toArray zN (0,0))::dsB md n st lk ls ts X.fed X.last js::jC st n M1 P1::SlC xP 14 js (J1.flatMap djF)::Sep.stars ((List.range 3).map fun i=>zDf (ls i) (X.lg i))::Sep.stars ((List.range 3).map fun i=>zLn (ts i) (X.tg i))::Ψ)) (zG.s5 Q k' (fun y1 y2=>k2 (y1,y2)) ⟨md,0,none⟩ o at' (((i+1:Nat):Int)-1) b):=fun {b} hb=>by
   refine jO ?_;exact zA (fin5 b hb)
  cases hcm:zLR e with
  | false=>
   refine s_f ?_ (by rfl);exact fold (by unfold zGb;rw[hcm];rfl)
  | true=>
   refine s_t ?_ (by rfl);refine jK (b:=md) (off:=2) (l:=dsL n st lk ls ts X.fed X.last js) (x:=some ⟨lk,0,none⟩) ?_;refine uf ?_;refine jK (b:=lk) (off:=2) (l:=[l1.val,p1.val,d1.val]) (x:=d1) ?_;refine jq (b:=tag6) (l:=zQ e.o.tag) (l':=zQ e.o.tag) ?_;refine zIK (L:=x1.doom) (by omega) (fun w hw=>(zO (s:=d1) hw).1) ?_;refine vS ?_;by_cases hdm:e.o.tag∈x1.doom
   ·refine s_t ?_ (by simpa using hdm);exact fold (by unfold zGb;rw[hcm,zga hdm];rfl)
   ·refine s_f ?_ (by simpa using hdm);refine jK (b:=md) (off:=2) (l:=dsL n st lk ls ts X.fed X.last js) (x:=some ⟨lk,0,none⟩) ?_;refine jq (b:=tag6) (l:=zQ e.o.tag) (l':=zQ e.o.tag) ?_;refine zHo ?_;refine zTX ⟨by omega,by omega,by omega⟩ ?_;refine zaV ?_;exact zA (fin5 _ (by unfold zGb;rw[hcm,zgU hdm];rfl))
 have hi0:i=0:=by simp only[zgF] at hb;omega
 subst hi0;rw[zh2] at hat;subst hΨ;rcases hat with⟨rfl,hno⟩|⟨A,z,C,rfl,hA,hz,rfl⟩
 ·refine s_t ?_ (by rfl);have hnone:zAo n J1.length (J1.map djM) M1 G1=((J1.map djM,M1,G1),[]):=zJR fun y hy=>by
   obtain⟨a,ha,rfl⟩:=zgV.1 hy;rw[zNV hi2];exact hno a ha
  have h6:=hok.st;have h7:=hok.out;simp only at h6 h7;rw[hnone] at h6 h7;simp only[zgy] at h7;refine zHq ?_;exact zA (h o ⟨D1,P1,M1,G1,x1,J1⟩ hok (by rw[←h6]) (by rw[←h6]) (by rw[←h6]) h7)
 have hje:=hi2.ok z (by simp);have hzJ:(A++z::C)[A.length]?=some z:=by simp
 have hlen:(A++z::C).length=A.length+(C.length+1):=by simp
 have hrt:=hje.ord.1;obtain⟨q1,q2,q3,q4⟩:=zDO hrt;refine s_f ?_ (by simp);have eat:((0:Nat):Int)+(A.length:Int)=(A.length:Int):=by omega
 rw[eat];refine zh (b:=md) (off:=15) (l:=dsL n st lk ls ts X.fed X.last js) (x:=js) ?_;refine uY djF zCC (by omega) (fun w hw=>(zO (s:=js) hw).1) hzJ fun t ht=>?_;refine zBc (cs:=djF z) (us:=zDA z.o) (fun w hw=>ht w (zO (s:=js) hw).1) (by rw[zCC];omega) ?_;refine zD fun o7=>?_;refine yX (b:=o7) (l':=zDA z.o) ?_;refine xg ?_;refine zBl [dsB md n st lk ls ts X.fed X.last js] ?_;refine qJ ?_;refine jK (b:=md) (off:=15) (l:=dsL n st lk ls ts X.fed X.last js) (x:=js) ?_;refine zAl (s:=js) (lo:=0) (hi:=A.length) (mx:=js.c) ?_;refine jK (b:=md) (off:=15) (l:=dsL n st lk ls ts X.fed X.last js) (x:=js) ?_;refine zAl (s:=js) (lo:=A.length+1) (hi:=js.n) (mx:=js.c) ?_;rw[zKZ a3];refine zD fun t81=>?_;refine vS ?_;refine zCi (esz:=14) ?_;have hflJ:∀(L:List DJ),∀u∈L.flatMap djF,qD u=true:=fun L u hu=>by
  obtain⟨y,_,hy⟩:=zhS.1 hu;have:(djF y).all qD=true:=rfl;exact zg2.1 this u hy
 refine qp (s:=⟨some ⟨t81,0,none⟩,0,0⟩) (esz:=14) (us:=A.flatMap djF) (fun w hw=>?_) (hflJ A) (by simp only;omega) fun j2 hj2=>?_
 ·have h1:=((zO (s:=js) hw).1).take (m:=A.length) (c:=js.c-0) (by omega);rw[zFI zCC,zhU] at h1;exact h1
 refine vS ?_;refine qp (s:=j2) (esz:=14) (us:=C.flatMap djF) (fun w hw=>?_) (hflJ C) (by simp only at hj2 ⊢;omega) fun j3 hj3=>?_
 ·have h1:=((zO (s:=js) hw).1).drop (l:=A.length+1) (by omega) a2 a3;have e:((A++z::C).flatMap djF).drop ((A.length+1)*14)=C.flatMap djF:=by
   rw[show A++z::C=(A++[z])++C by simp,zge];exact zhi (by rw[zH djF 14 zCC];simp)
  rw[e] at h1;exact h1
 rw[show[]++A.flatMap djF++C.flatMap djF=(A++C).flatMap djF by simp];refine zCN (b:=md) (off:=15) (l:=dsL n st lk ls ts X.fed X.last js) (l':=dsL n st lk ls ts X.fed X.last j3) ?_ rfl rfl;refine yC (b:=o7) (l:=zDA z.o) (l':=zQ z.o.tag) ?_;refine zCv (cs:=dcF ⟨z.o.tag,112,⟨none,0,0⟩,[]⟩) ?_;refine zD fun d8=>?_;refine yX (b:=d8) (l':=dcF ⟨z.o.tag,112,⟨none,0,0⟩,[]⟩) ?_;refine xg ?_;refine zh (b:=md) (off:=2) (l:=dsL n st lk ls ts X.fed X.last j3) (x:=some ⟨lk,0,none⟩) ?_;refine uf ?_;refine qc (zAW lk x1) ?_;refine zEy fun l1 p1 d1=>?_;refine zh (b:=lk) (off:=2) (l:=[l1.val,p1.val,d1.val]) (x:=d1) ?_;refine yC (b:=o7) (l:=zDA z.o) (l':=zQ z.o.tag) ?_;refine zIK (L:=x1.doom) (by omega) (fun w hw=>(zO (s:=d1) hw).1) ?_;refine zCo (jO (m:=lk) (ls:=l1) (ps:=p1) (ds:=d1) (x:=x1) ?_);refine xg ?_;refine zh (b:=md) (off:=2) (l:=dsL n st lk ls ts X.fed X.last j3) (x:=some ⟨lk,0,none⟩) ?_;refine yC (b:=o7) (l:=zDA z.o) (l':=zQ z.o.tag) ?_;refine zTP (by constructor <;> omega) ?_;have go:∀{P':Pool} {M':zo} {x':RX} {d:DcX} {Θ:List zB} {X3:Int→Int→K},[Drops Θ (SlC zu 6 o (D1.flatMap dcF)::blk d8 (.cells (dcF d).toArray zu (0,0))::zF8 d::Sep.stars (D1.map zF8)::dsF md n st lk ls ts j3 (dxW X M' x' (A++C)) P' (uN P'::Γ))]→(∀p∈P1,p∈P')→M'=zDe n z.o.tag z.o.t M1 G1→x'=zTa n z.o.tag z.o.t M1 x1→zIb d=⟨z.o.tag,zFm n z.o.tag z.o.t M1 G1,zKs n z.o.tag z.o.t M1 G1⟩→(∀y∈d.O,inP P' y.2 y.1.2∨∃o,Po o∧∃op∈o.t.ops,y.2=op.2∧y.1.2=op.1.val)→HG B Θ (zG.s6 Q k' X3 ⟨md,0,none⟩ o ⟨d8,0,none⟩):=fun {P' M' x' d Θ X3} _ h1 h2 h3 h4 h5=>by
  refine zA (Δ:=SlC zu 6 o (D1.flatMap dcF)::blk d8 (.cells (dcF d).toArray zu (0,0))::zF8 d::Sep.stars (D1.map zF8)::dsF md n st lk ls ts j3 (dxW X M' x' (A++C)) P' (uN P'::Γ)) ?_;refine zad (by omega) fun o'=>?_;refine zCo (zIJ (F:=zF8) (A:=D1) (x:=d) ?_);refine zCo (zHq (md:=md) (n:=n) (st:=st) (lk:=lk) (ls:=ls) (ts:=ts) (js:=j3) (X:=dxW X M' x' (A++C)) (P:=P') ?_);refine zA (hk' o' ⟨D1++[d],P',M',zFl n z.o.tag z.o.t M1 G1,x',A++C⟩ (hok.next (Kd.wf hok.pm (hpt _ hje.po) hrt hi2.wf) (Kd.keep hok.pm (hpt _ hje.po) hrt) hA hz h1 h2 h3 h4 h5) (by simp only[zgK] at hlen ⊢;simp))
 have hdoom:G1.2 z.o.tag=decide (z.o.tag∈x1.doom):=hi2.lk.doom z.o.tag;by_cases hdm:z.o.tag∈x1.doom
 ·rw[zga hdm] at hdoom;refine s_f ?_ (by simpa using hdm);refine fun w hw=>Sep.hg (show Holds B (zF8 ⟨z.o.tag,112,⟨none,0,0⟩,[]⟩::_) w from hw.ji _ _) ?_;clear hw w;refine go (P':=P1) (M':=M1) (x':=zBU z.o.tag x1) (d:=⟨z.o.tag,112,⟨none,0,0⟩,[]⟩) (fun _ h=>h) ?_ ?_ ?_ (by intro y hy;cases hy)
  ·unfold zDe;rw[if_pos hdoom]
  ·unfold zTa;rw[if_pos hdm]
  ·unfold zFm zKs zIb;rw[if_pos hdoom,if_pos hdoom];rfl
 rw[zgU hdm] at hdoom;have hnd:¬G1.2 z.o.tag=true:=by rw[hdoom];decide
 obtain⟨ri,hrows⟩:=Kd.law hok.pm (hpt _ hje.po) hrt hi2.wf;refine s_t ?_ (by simpa using hdm);refine xg ?_;refine zBl [dsB md n st lk ls ts X.fed X.last j3,blk o7 (.cells (zDA z.o).toArray zU (0,0))] ?_;refine jK (b:=md) (off:=1) (l:=dsL n st lk ls ts X.fed X.last j3) (x:=some ⟨st,0,none⟩) ?_;refine jq (b:=o7) (off:=4) (l:=zDA z.o) (l':=txL z.o.t) ?_;have s7:∀{P':Pool} {os rs:Sl} {O:OX} {R:WX} {r10:Nat} {Θ:List zB} {X3:Int→Int→K},[Drops Θ (blk r10 (.cells [.int .i64 (zAz n M1 z.o.t).2.1,os.val].toArray qR (0,0))::SlC qA 2 os (O.flatMap oF)::SlC qw 5 rs (R.flatMap zDK)::zAW lk (zBU z.o.tag x1)::jC st n M1 P'::uN P'::dsB md n st lk ls ts X.fed X.last j3::blk o7 (.cells (zDA z.o).toArray zU (0,0))::blk d8 (.cells (dcF ⟨z.o.tag,112,⟨none,0,0⟩,[]⟩).toArray zu (0,0))::SlC xP 14 j3 ((A++C).flatMap djF)::Sep.stars ((List.range 3).map fun i=>zDf (ls i) (X.lg i))::Sep.stars ((List.range 3).map fun i=>zLn (ts i) (X.tg i))::Sep.stars (D1.map zF8)::SlC zu 6 o (D1.flatMap dcF)::Γ)]→(∀p∈P1,p∈P')→O.map Prod.fst=(zAz n M1 z.o.t).1→zA4 R=(zAz n M1 z.o.t).2.2→zK4 P' z.o.t O→RowsIn P' R→HG B Θ (zG.s7 Q k' X3 ⟨md,0,none⟩ o ⟨o7,0,none⟩ ⟨d8,0,none⟩ ⟨r10,0,none⟩ rs):=fun {P' os rs O R r10 Θ X3} _ hP hO hR hOi hRi=>by
  have hRl:R.length≤16:=by
   have h1:(zA4 R).length≤16:=by
    rw[hR];exact hrows
   simpa using h1
  refine zA (Δ:=blk r10 (.cells [.int .i64 (zAz n M1 z.o.t).2.1,os.val].toArray qR (0,0))::SlC qA 2 os (O.flatMap oF)::SlC qw 5 rs (R.flatMap zDK)::zAW lk (zBU z.o.tag x1)::jC st n M1 P'::uN P'::dsB md n st lk ls ts X.fed X.last j3::blk o7 (.cells (zDA z.o).toArray zU (0,0))::blk d8 (.cells (dcF ⟨z.o.tag,112,⟨none,0,0⟩,[]⟩).toArray zu (0,0))::SlC xP 14 j3 ((A++C).flatMap djF)::Sep.stars ((List.range 3).map fun i=>zDf (ls i) (X.lg i))::Sep.stars ((List.range 3).map fun i=>zLn (ts i) (X.tg i))::Sep.stars (D1.map zF8)::SlC zu 6 o (D1.flatMap dcF)::Γ) ?_;refine zA (Δ:=jC st n M1 P'::SlC qw 5 rs (R.flatMap zDK)::blk r10 (.cells [.int .i64 (zAz n M1 z.o.t).2.1,os.val].toArray qR (0,0))::SlC qA 2 os (O.flatMap oF)::zAW lk (zBU z.o.tag x1)::uN P'::dsB md n st lk ls ts X.fed X.last j3::blk o7 (.cells (zDA z.o).toArray zU (0,0))::blk d8 (.cells (dcF ⟨z.o.tag,112,⟨none,0,0⟩,[]⟩).toArray zu (0,0))::SlC xP 14 j3 ((A++C).flatMap djF)::Sep.stars ((List.range 3).map fun i=>zDf (ls i) (X.lg i))::Sep.stars ((List.range 3).map fun i=>zLn (ts i) (X.tg i))::Sep.stars (D1.map zF8)::SlC zu 6 o (D1.flatMap dcF)::Γ) ?_;unfold zG.s7;refine zh (b:=md) (off:=1) (l:=dsL n st lk ls ts X.fed X.last j3) (x:=some ⟨st,0,none⟩) ?_;refine Kd.app (R:=R) (t:=z.o.t) (fun w hw=>(zO (s:=rs) hw).1) hRi (by omega) ?_ hok.pm (hpt _ hje.po) hR;rw[hR,←ri.app];refine yC (b:=r10) (l:=[.int .i64 (zAz n M1 z.o.t).2.1,os.val]) (l':=[.int .i64 (zAz n M1 z.o.t).2.1,os.val]) ?_;refine zTK (b:=d8) (off:=4) (us:=[.int .i64 (zAz n M1 z.o.t).2.1,os.val]) (l:=dcF ⟨z.o.tag,112,⟨none,0,0⟩,[]⟩) (dcF ⟨z.o.tag,(zAz n M1 z.o.t).2.1,os,O⟩) ?_ rfl (by simp) rfl rfl;have hMl:(zAU n M1 (wrU n M1 z.o.t)).length≤99999:=by
   have:=zNC (n:=n) (g:=z.o.tag) (M:=M1) (G:=G1) hrt;unfold zDe at this;rw[if_neg hnd] at this;omega
  have hdM:zDe n z.o.tag z.o.t M1 G1=zAU n M1 (wrU n M1 z.o.t):=by unfold zDe;rw[if_neg hnd]
  have hdE:zIb ⟨z.o.tag,(zAz n M1 z.o.t).2.1,os,O⟩=⟨z.o.tag,zFm n z.o.tag z.o.t M1 G1,zKs n z.o.tag z.o.t M1 G1⟩:=by
   unfold zIb zFm zKs;rw[if_neg hnd,if_neg hnd,ri.code,←ri.code,ri.outs,hO]
  have hOo:∀y∈O,inP P' y.2 y.1.2∨∃o,Po o∧∃op∈o.t.ops,y.2=op.2∧y.1.2=op.1.val:=fun y hy=>(hOi y hy).imp id fun h=>⟨z.o,hje.po,h⟩
  generalize hMe:zAU n M1 (wrU n M1 z.o.t)=M' at *;refine zh (b:=o7) (off:=4) (l:=zDA z.o) (x:=z.o.t.kind) ?_;have S8n:¬(z.o.t.kind=2∧(jV n M1 z.o.t).2.2=0)→HG B (blk d8 (.cells (dcF ⟨z.o.tag,(zAz n M1 z.o.t).2.1,os,O⟩).toArray zu (0,0))::jC st n M' P'::SlC qA 2 os (O.flatMap oF)::zAW lk (zBU z.o.tag x1)::uN P'::dsB md n st lk ls ts X.fed X.last j3::SlC xP 14 j3 ((A++C).flatMap djF)::Sep.stars ((List.range 3).map fun i=>zDf (ls i) (X.lg i))::Sep.stars ((List.range 3).map fun i=>zLn (ts i) (X.tg i))::Sep.stars (D1.map zF8)::SlC zu 6 o (D1.flatMap dcF)::Γ) (zG.s8 Q k' X3 ⟨md,0,none⟩ o ⟨o7,0,none⟩ ⟨d8,0,none⟩ false):=fun hn=>by
   unfold zG.s8;refine s_f ?_ (by rfl);show HG B (_::_::zF8 ⟨z.o.tag,(zAz n M1 z.o.t).2.1,os,O⟩::_) _;exact go (P':=P') (M':=M') (x':=zBU z.o.tag x1) (d:=⟨z.o.tag,(zAz n M1 z.o.t).2.1,os,O⟩) hP hdM.symm (by unfold zTa;rw[if_neg hdm,if_neg hn]) hdE hOo
  refine zF (fun hk1=>?_) fun hk1=>zA (S8n fun hh=>by simp[hh.1] at hk1);have hk1:z.o.t.kind=2:=by simpa using hk1
  refine zh (b:=r10) (l:=[.int .i64 (zAz n M1 z.o.t).2.1,os.val]) (x:=(zAz n M1 z.o.t).2.1) ?_;by_cases hc0:(zAz n M1 z.o.t).2.1=0;rotate_left
  ·rw[zgU hc0];exact zA (S8n fun hh=>hc0 (by rw[←ri.code];exact hh.2))
  rw[zga hc0];unfold zG.s8;refine s_t ?_ (by rfl);refine xg ?_;refine zh (b:=md) (off:=2) (l:=dsL n st lk ls ts X.fed X.last j3) (x:=some ⟨lk,0,none⟩) ?_;refine zh (b:=md) (off:=1) (l:=dsL n st lk ls ts X.fed X.last j3) (x:=some ⟨st,0,none⟩) ?_;refine zh (b:=o7) (off:=4+2) (l:=zDA z.o) (x:=z.o.t.ws) ?_;obtain⟨_,key,hkey⟩:=zDM hrt hk1;refine u7 (L:=z.o.t.writes) (j:=0) (x:=key) (fun w hw=>(hrd w (hw.drops (Δ:=Γ)) _ hje.po).1.2.1) (by rw[hkey];rfl) ?_;have hkl:=q1 key (by rw[hkey];simp);obtain⟨lz1,lz2⟩:=zOt z.o.tag x1;refine zCo (zTU (m:=lk) (st:=st) (n:=n) (S:=M') (P:=P') (x:=zBU z.o.tag x1) (key:=key) (N:=90000) (by omega) (by omega) (by refine⟨?_,?_,?_⟩ <;> omega) (by omega) ?_);show HG B (_::_::_::_::_::zF8 ⟨z.o.tag,(zAz n M1 z.o.t).2.1,os,O⟩::_) _;exact go (P':=P') (M':=M') (x':=zEj n M' key (zBU z.o.tag x1)) (d:=⟨z.o.tag,(zAz n M1 z.o.t).2.1,os,O⟩) hP hdM.symm (by unfold zTa;rw[if_neg hdm,if_pos ⟨hk1,by rw[ri.code];exact hc0⟩,hkey,hMe];rfl) hdE hOo
 have hops:∀y∈z.o.t.ops,y.1.ok∧y.1.val.length≤90000000:=fun y hy=>⟨⟨by have:=(q4 y hy).1;omega,by have:=(q4 y hy).2;omega,hje.nn y hy⟩,by have:=(q4 y hy).2;omega⟩
 have h2w:z.o.t.kind=2→z.o.t.writes≠[]:=fun h2=>by
  obtain⟨_,y,hy⟩:=zDM hrt h2;rw[hy];simp
 refine zBS ?_ ?_
 ·refine zCo (Kd.run (sd:=st) (n:=n) (M:=M1) (P:=P1) (t:=z.o.t) hops (by omega) (by omega) (fun y hy=>by have:=q1 y (zg3 _ hy);omega) h2w (fun w hw=>(hrd w (hw.drops (Δ:=Γ)) _ hje.po).1) (fun P' os O rs R hP hO hR hOi hRi=>?_) hok.pm (hpt _ hje.po));refine zD fun r10=>?_;refine yX (b:=r10) (l':=[.int .i64 (zAz n M1 z.o.t).2.1,os.val]) ?_;exact s7 (os:=os) hP hO hR hOi hRi
 ·refine zD fun r10=>?_;refine vS ?_;refine zCo (Kd.run (sd:=st) (n:=n) (M:=M1) (P:=P1) (t:=z.o.t) hops (by omega) (by omega) (fun y hy=>by have:=q1 y (zg3 _ hy);omega) h2w (fun w hw=>(hrd w (hw.drops (Δ:=Γ)) _ hje.po).1) (fun P' os O rs R hP hO hR hOi hRi=>?_) hok.pm (hpt _ hje.po));refine yX (b:=r10) (l':=[.int .i64 (zAz n M1 z.o.t).2.1,os.val]) ?_;exact s7 (os:=os) hP hO hR hOi hRi
end
end
section
open Go Go.Sep Go.Sep.Bt
structure zF9(n T K N:Nat)(Po:OrG→Prop)(S:zCg)(X:DX):Prop where
 n1:1≤n
 n3:n≤3
 M:X.M=S.M
 jobs:X.J.map djM=S.jobs
 wr:∃U,WR n K U Po S.M S.G X.x X.J∧U+T*X.J.length≤T*N+K
 kt:K≤T
 fedl:S.fed.length=n
 fed:∀r,r<n→S.fed.getD r 0=X.fed r
 fedr:∀r,r<n→0≤X.fed r∧X.fed r≤100000+N
 filsl:S.fils.length=n
 last:∀r,r<n→(S.fils.getD r ⟨-1,[]⟩).last=max (X.last r) (zDw (r:Int) (X.lg r)).last
 seen:∀r,r<n→∀g,g∈(S.fils.getD r ⟨-1,[]⟩).seen↔g∈X.tg r∨g∈(zDw (r:Int) (X.lg r)).seen
 logs:∀r,r<3→∀y∈X.lg r,Po y.o∧y.o.mks.length≤1000
 logl:∀r,r<3→(X.lg r).length≤N
 tgl:∀r,r<3→(X.tg r).length≤100000
 jl:X.J.length≤N
 ml:S.M.length+32*X.J.length≤40*N+4000
theorem zae{j:DJ}{r:Int}(hr:0≤r∧r<3)(hh:∀h∈xA j.o.mks,0≤h∧h<3):djM (j.come r)={ djM j with need:=(djM j).need.filter fun h=>!decide (h=r) }:=by
 unfold djM;simp only[zFP.mk.injEq];refine⟨rfl,rfl,rfl,?_⟩;rw[List.filter_filter];refine List.filter_congr fun h hm=>?_;obtain⟨h0,h3⟩:=hh h hm;obtain⟨i,rfl⟩:=zhr h0;obtain⟨i2,rfl⟩:=zhr hr.1;have h3:i<3:=by omega
 have h4:i2<3:=by have:=hr.2;omega
 match i,h3,i2,h4 with
 | 0,_,0,_=>simp[DJ.come,DJ.at']
 | 0,_,1,_=>simp[DJ.come,DJ.at']
 | 0,_,2,_=>simp[DJ.come,DJ.at']
 | 1,_,0,_=>simp[DJ.come,DJ.at']
 | 1,_,1,_=>simp[DJ.come,DJ.at']
 | 1,_,2,_=>simp[DJ.come,DJ.at']
 | 2,_,0,_=>simp[DJ.come,DJ.at']
 | 2,_,1,_=>simp[DJ.come,DJ.at']
 | 2,_,2,_=>simp[DJ.come,DJ.at']
theorem zTb{j:DJ}{r:Nat}(hr:r<3):(djF j).set (10+r) (.bool true)=djF (j.come r):=by
 match r,hr with
 | 0,_=>rfl
 | 1,_=>rfl
 | 2,_=>rfl
theorem zaf{r:Nat}{f:zIa}{last:Int}{tg:List zx}{L:List ItG}{y:ItG}(hl:f.last=max last (zDw (r:Int) L).last)(hs:∀g,g∈f.seen↔g∈tg∨g∈(zDw (r:Int) L).seen):
  (itI (r:Int) f y).1.last=max last (zDw (r:Int) (L++[y])).last∧(∀g,g∈(itI (r:Int) f y).1.seen↔g∈tg∨g∈(zDw (r:Int) (L++[y])).seen)∧(y.kind=1∨y.kind=2→(itI (r:Int) f y).2=(cntF (r:Int) L y&&if y.kind=1 then !decide (y.o.tag∈tg) else decide (last<y.ix))):=by
 refine⟨?_,fun g=>?_,fun hk=>?_⟩
 ·rw[zK2,zIM,zK2,hl];generalize(zDw (r:Int) L).last=fl;by_cases h1:y.kind=2∧zFn y.o.t y.o.mks=false∧(r:Int)∈xA y.o.mks
  ·obtain⟨a,b,c⟩:=h1;simp only[a,b,c,true_and];split <;> split <;> omega
  ·rw[if_neg fun h=>h1 ⟨h.1,h.2.1,h.2.2.1⟩,if_neg fun h=>h1 ⟨h.1,h.2.1,h.2.2.1⟩]
 ·rw[zK3,zIM,zK3,hs,or_assoc]
 ·unfold cntF itI zCB;by_cases h1:(r:Int)∈xA y.o.mks;rotate_left
  ·rw[if_pos h1,if_pos h1];rfl
  have h0:¬(r:Int)∉xA y.o.mks:=fun h=>h h1;rw[if_neg h0,if_neg h0];by_cases h2:y.kind=1∧zFn y.o.t y.o.mks=true
  ·rw[if_pos h2,if_pos h2,if_pos h2.1];simp only;have:=hs y.o.tag;by_cases h3:y.o.tag∈f.seen
   ·rw[zga h3];rcases this.1 h3 with h4|h4 <;> simp[h4]
   ·rw[zgU h3];have h4:¬(_∨_):=fun h=>h3 (this.2 h);rw[not_or] at h4;simp[h4.1,h4.2]
  rw[if_neg h2,if_neg h2];by_cases h3:y.kind=1
  ·rw[if_neg (by omega),if_neg (by omega)];rfl
  have h4:y.kind=2:=by omega
  rw[if_neg h3];by_cases h5:zFn y.o.t y.o.mks=false
  ·by_cases h6:f.last<y.ix
   ·rw[if_pos ⟨h4,h5,h6⟩,if_pos ⟨h4,h5,by omega⟩,zga (by omega:last<y.ix)];rfl
   ·rw[if_neg (fun h=>h6 h.2.2)];by_cases h7:(zDw (r:Int) L).last<y.ix
    ·rw[if_pos ⟨h4,h5,h7⟩,zgU (by omega)];rfl
    ·rw[if_neg (fun h=>h7 h.2.2)];rfl
  ·rw[if_neg (fun h=>h5 h.2.1),if_neg (fun h=>h5 h.2.1)];rfl
section
variable{Pm:zo→Prop}{Pt:TxX→Prop}{B:World}{Γ Δ:List zB}{k:K}{md n st lk:Nat}{ls ts:Nat→Sl}{js:Sl}{X:DX}{P:Pool}{T K N:Nat}{Po:OrG→Prop}{S:zCg}{t:TxX}{mks:List MkX}{ms:Sl}{tag:zx}{kind ix:Int}
def zMB(B:World)(md n T K N:Nat)(Po:OrG→Prop)(P:Pool)(R:zCg×List DcM)(Γ:List zB)(q:Sl→Sep.K):Prop :=
 ∀(s:Sl) (D:List DcX) (P':Pool) (X':DX),D.map zIb=R.2→(∀p∈P,p∈P')→zR8 Po P' D→zF9 n T K N Po R.1 X'→D.length≤N→HG B (SlC zu 6 s (D.flatMap dcF)::Sep.stars (D.map zF8)::DsR md n X' P'::uN P'::Γ) (q s)
theorem zR9{q:Sl→Sep.K}(Kd:zR7 n Pm Pt)(hpt:∀o,Po o→Pt o.t)(hPm:Pm S.M)(hrd:∀w,Holds B Γ w→∀o,Po o→zF7 w o)(h:zF9 n T K N Po S X)(hT:T≤3000)(hTN:T*N+K≤90000)(hN:N≤2000)(hq:zMB B md n T K N Po P (zGq n S) Γ q):
  HG B (DsR md n X P::uN P::Γ) (zG.call (some ⟨md,0,none⟩) q):=by
 obtain⟨U,hw,hU⟩:=h.wr;have hM:=h.M;have hkt:=h.kt;have hjl:=h.jl;have hml:=h.ml;have hj:X.J.length=S.jobs.length:=by rw[←h.jobs,zgL]
 have hKJ:K*X.J.length≤T*X.J.length:=zgn _ hkt;refine zWK (T:=K) (U:=U) (Po:=Po) (G:=S.G) Kd (by rw[hM];exact hPm) hpt hrd (by rw[hM];exact hw) (by omega) (by omega) (by rw[hM];omega) (by omega) h.n3 fun s i hok e1 e2 e3 e4=>?_;rw[h.jobs,hM,hj] at e1 e2 e3 e4;have hcnt:=hok.cnt;have hml2:=hok.ml;have hwr:=hok.wr;rw[e3,e2] at hwr;rw[hM,e2] at hml2;have hKD:K*i.D.length≤T*i.D.length:=zgn _ hkt;have hTJ:T*X.J.length=T*i.J.length+T*i.D.length:=by rw[←hcnt,Nat.mul_add]
 exact hq s i.D i.P _ e4 hok.pool hok.oo ⟨h.n1,h.n3,e2,e1,⟨_,hwr,by simp only;omega⟩,hkt,h.fedl,h.fed,h.fedr,h.filsl,h.last,h.seen,h.logs,h.logl,h.tgl,by simp only;omega,by simp only[zGq];omega⟩ (by omega)
theorem zF9.up{m:Nat}(h:zF9 n T K N Po S X)(hK:K+m≤T):zF9 n T (K+m) (N+1) Po S X:=by
 obtain⟨U,hw,hU⟩:=h.wr;have:=h.jl;have:=h.ml;refine⟨h.n1,h.n3,h.M,h.jobs,⟨U,⟨hw.lk,hw.ku,hw.wf,by have:=hw.sz;omega,hw.sd,hw.ok⟩,?_⟩,hK,h.fedl,h.fed,fun r hr=>?_,h.filsl,h.last,h.seen,h.logs,fun r hr=>?_,h.tgl,by omega,by omega⟩
 ·rw[Nat.mul_succ];omega
 ·have:=h.fedr r hr;omega
 ·have:=h.logl r hr;omega
theorem zF9.upK{m:Nat}(h:zF9 n T K N Po S X)(hK:K+m≤T):zF9 n T (K+m) N Po S X:=by
 obtain⟨U,hw,hU⟩:=h.wr;exact⟨h.n1,h.n3,h.M,h.jobs,⟨U,⟨hw.lk,hw.ku,hw.wf,by have:=hw.sz;omega,hw.sd,hw.ok⟩,by omega⟩,hK,h.fedl,h.fed,h.fedr,h.filsl,h.last,h.seen,h.logs,h.logl,h.tgl,h.jl,h.ml⟩
theorem zah{s:Sl}{i esz off len:Nat}{r:Int}{kk:Addr→Sep.K}(h0:0≤r)(h1:r<len)(h:HG B Γ (kk ((elA s i esz).add (off+r.toNat)))):HG B Γ (zBW ((elA s i esz).add off) len r 1 kk):=fun w hw=>⟨_,h0,h1,by rw[zgs];exact(zQx ..).symm,h w hw⟩
theorem set_mid{α:Type}{f:α→List Value}{e:Nat}(hf:∀x,(f x).length=e)(A C:List α)(x y:α){o:Nat}{v:Value}(ho:o<e)(h:(f x).set o v=f y):((A++x::C).flatMap f).set (A.length*e+o) v=(A++y::C).flatMap f:=by
 have hl:=zH f e hf A;have hx:=hf x;rw[zge,zgi,zge,zgi,List.set_append,if_neg (by omega),hl,show A.length*e+o-A.length*e=o by omega,List.set_append,if_pos (by omega),h]
theorem zYx{r:Nat}{m:Nat}{q:Sl→Sep.K}{A C:List DJ}{j:DJ}{ib:Nat}{ms2:Sl}{mk2:List MkX}{S2:zCg}(Kd:zR7 n Pm Pt)(hpt:∀o,Po o→Pt o.t)(hPm:Pm S.M)(hrd:∀w,Holds B Γ w→∀o,Po o→zF7 w o)(hr:r<3)(hJ:X.J=A++j::C)(hA:∀y∈A,y.o.tag≠tag)(hj:j.o.tag=tag)
  (h:zF9 n T K N Po S X) (hT:T≤3000) (hKm:K+m≤T) (hTN:T*N+(K+m)≤90000) (hN:N≤2000) (hm:∀w,Holds B Γ w→RdC w ms2 3 (mk2.flatMap mkL)) (hk:∀m∈mk2,m.key.length<1000000000) (hml:mk2.length≤m)
  (hS2:S2=⟨S.M,zBO n S.M tag (mk2.map mM) S.G,S.fils,S.fed,zKw tag (r:Int) S.jobs⟩) (hq:zMB B md n T (K+m) N Po P (zGq n S2) Γ q) :
  HG B (dsF md n st lk ls ts js X P (itB ib kind ix tag t ms::uN P::Γ)) (zM.s5 q ⟨md,0,none⟩ (r:Int) ⟨ib,0,none⟩ (A.length:Int) ms2):=by
 obtain⟨U,hw,hU⟩:=h.wr;obtain⟨M0,x0,lg0,fed0,last0,tg0,J0⟩:=X;have hM:M0=S.M:=h.M;simp only at hJ;subst hJ;subst hM;have hlen:(A++j::C).length=A.length+(C.length+1):=by simp
 have hjl:=h.jl;have hml2:=h.ml;have hkt:=h.kt;have hj8:=h.jobs;simp only at hjl hml2 hw hU hj8;have hjo:=hw.ok j (by simp);unfold zM.s5;refine zh (b:=md) (off:=15) (l:=dsL n st lk ls ts fed0 last0 js) (x:=js) ?_;refine yw js fun a1 a2 a3 a4=>?_;rw[zH djF 14 zCC] at a1;have hjn:js.n=(A++j::C).length:=(zgb (by omega) a1).symm;refine zBk (s:=js) (i:=A.length) ?_ (by rfl) (by omega);refine zah (by omega) (by omega) ?_;rw[zgw];refine zFV (s:=js) (i:=A.length) (off:=10+r) ?_ (by rw[zH djF 14 zCC];simp only[hlen];omega);rw[set_mid zCC A C j (j.come r) (by omega) (zTb hr)];refine xg ?_;refine zh (b:=md) (off:=2) (l:=dsL n st lk ls ts fed0 last0 js) (x:=some ⟨lk,0,none⟩) ?_;refine zh (b:=md) (off:=1) (l:=dsL n st lk ls ts fed0 last0 js) (x:=some ⟨st,0,none⟩) ?_;refine yC (b:=ib) (off:=2) (l:=itV kind ix tag t ms) (l':=zQ tag) ?_;have hsz:=hw.sz;have hsd:=hw.sd;have hmF:∀w,RdC w ms2 3 (mk2.flatMap mkL)→RdC w ms2 3 ((mk2.map mM).flatMap zBN):=fun w h=>by rw[zUp];exact h
 have hz2:=zJW (n:=n) (S:=S.M) (tag:=tag) (mk2.map mM) x0;rw[zgL] at hz2;refine zCo (zTR (m:=lk) (st:=st) (n:=n) (S:=S.M) (P:=P) (x:=x0) (L:=mk2.map mM) (N:=90000) (fun w hw=>hmF w (hm w (hw.drops (Δ:=Γ)))) (fun y hy=>by obtain⟨x,hx,rfl⟩:=zgV.1 hy;exact hk x hx) (by omega) ⟨by omega,by omega,by omega⟩ (by rw[zgL];omega) ?_);refine zCo (zHq (md:=md) (n:=n) (st:=st) (lk:=lk) (ls:=ls) (ts:=ts) (js:=js) (X:=⟨S.M,zDv n S.M tag (mk2.map mM) x0,lg0,fed0,last0,tg0,A++j.come r::C⟩) (P:=P) ?_);refine zCo (zR9 (S:=S2) (Po:=Po) (K:=K+m) (T:=T) (N:=N) Kd hpt (by rw[hS2];exact hPm) hrd ?_ hT hTN hN hq);have hdk:∀y:DJ,(djM y).tag=y.o.tag:=fun _=>rfl;have hjobs:(A++j.come r::C).map djM=zKw tag (r:Int) S.jobs:=by
  rw[←hj8,zgT,zgd,zgT,zgd,zae ⟨by omega,by omega⟩ ?_,zNS (by exact hj) (fun y hy=>by obtain⟨z,hz,rfl⟩:=zgV.1 hy;exact hA z hz)];exact fun hh hm=>by
   have h3:=hjo.ord.2.2.2;have hn3:=h.n3;by_cases hn:j.o.mks=[]
   ·rw[hn,zJT] at hm;simp at hm;omega
   ·obtain⟨mm,hm1,rfl⟩:=(zNF hn).1 hm;have:=h3 mm hm1;omega
 subst hS2;refine⟨h.n1,h.n3,rfl,hjobs,⟨U+m,⟨hw.lk.enter _,zR4 _ hw.ku,hw.wf,?_,?_,fun y hy=>?_⟩,?_⟩,hKm,h.fedl,h.fed,h.fedr,h.filsl,h.last,h.seen,h.logs,h.logl,h.tgl,?_,?_⟩
 ·simp only;omega
 ·simp only;omega
 ·rcases zgP.1 hy with hy|hy
  ·exact hw.ok y (zhF _ hy)
  rcases zgS.1 hy with rfl|hy
  ·exact⟨hjo.ord,hjo.nn,hjo.po⟩
  ·exact hw.ok y (zg3 _ (zgI _ hy))
 ·simp only[zgK,zgO] at hU ⊢;omega
 ·simp only[zgK,zgO] at hjl ⊢;omega
 ·simp only[zgK,zgO] at hml2 ⊢;omega
abbrev djZ:List Value:=[.int .i64 0,.int .u64 0,.int .u64 0,.int .i64 0,.int .i64 0,Sl.val ⟨none,0,0⟩,Sl.val ⟨none,0,0⟩,Sl.val ⟨none,0,0⟩,.int .i64 0,Sl.val ⟨none,0,0⟩,.bool false,.bool false,.bool false,.bool false]
theorem zYy{r:Nat}{m:Nat}{q:Sl→Sep.K}{A C:List DJ}{j:DJ}{ib:Nat}(Kd:zR7 n Pm Pt)(hpt:∀o,Po o→Pt o.t)(hPm:Pm S.M)(hrd:∀w,Holds B Γ w→∀o,Po o→zF7 w o)(hr:r<3)(hJ:X.J=A++j::C)(hA:∀y∈A,y.o.tag≠tag)(hj:j.o.tag=tag)
  (h:zF9 n T K N Po S X) (hT:T≤3000) (hKm:K+m≤T) (hTN:T*N+(K+m)≤90000) (hN:N≤2000) (hm:∀w,Holds B Γ w→RdC w ms 3 (mks.flatMap mkL)) (hk:∀m∈mks,m.key.length<1000000000) (hmm:mks.length≤m) (hml:mks.length≤1000)
  (hq:zMB B md n T (K+m) N Po P (zGq n (zQA n (r:Int) kind tag mks S.jobs S)) Γ q) :
  HG B (dsF md n st lk ls ts js X P (itB ib kind ix tag t ms::uN P::Γ)) (zM.s4 q ⟨md,0,none⟩ (r:Int) ⟨ib,0,none⟩ (A.length:Int)):=by
 unfold zM.s4;unfold zQA zP9 at hq;refine zh (b:=ib) (off:=2+9) (l:=itV kind ix tag t ms) (x:=ms) ?_;refine zh (b:=ib) (l:=itV kind ix tag t ms) (x:=kind) ?_;refine zF (fun h1=>?_) fun h1=>?_
 ·have h1':kind=2:=by simpa using h1
  rw[if_pos h1'] at hq;refine yC (b:=ib) (off:=2) (l:=itV kind ix tag t ms) (l':=orV tag t ms) ?_;refine zWH (mks:=mks) (fun w hw=>hm w (hw.drops (Δ:=Γ))) hml fun s=>?_;have hfl:=zgr (fun m:MkX=>decide (m.home=(r:Int))) mks;refine zA (Δ:=dsF md n st lk ls ts js X P (itB ib kind ix tag t ms::uN P::SlC zi 3 s ((mks.filter fun m=>decide (m.home=(r:Int))).flatMap mkL)::Γ)) ?_;refine zYx (Γ:=SlC zi 3 s ((mks.filter fun m=>decide (m.home=(r:Int))).flatMap mkL)::Γ) (mk2:=mks.filter fun m=>decide (m.home=(r:Int))) Kd hpt hPm (fun w hw=>hrd w hw.tail) hr hJ hA hj h hT hKm hTN hN (fun w hw=>(zO (s:=s) hw).1) (fun m hm=>hk m (zha.1 hm).1) (by omega) rfl ?_;exact fun s D P' X' e1 e2 e3 e4 e5=>zA (hq s D P' X' e1 e2 e3 e4 e5)
 ·rw[if_neg (by simpa using h1)] at hq;exact zYx (mk2:=mks) Kd hpt hPm hrd hr hJ hA hj h hT hKm hTN hN hm hk hmm rfl hq
theorem zJY{α:Type}{f:Nat→α}{i:Nat}{v:α}:upN f i v i=v:=by simp[upN]
theorem zK5{α:Type}{f:Nat→α}{i j:Nat}{v:α}(h:j≠i):upN f i v j=f j:=by simp[upN,h]
theorem zWL{r:Int}{m:Nat}{q:Sl→Sep.K}(Kd:zR7 n Pm Pt)(hpt:∀o,Po o→Pt o.t)(hPm:Pm S.M)(hrd:∀w,Holds B Γ w→∀o,Po o→zF7 w o)(h0:zF9 n T K N Po S X)(hT:T≤3000)(hKm:K+m≤T)(hTN:T*(N+1)+(K+m)≤90000)(hN:N+1≤2000)(hpo:Po ⟨tag,t,ms,mks⟩)
  (hnn:∀x∈t.ops,-9223372036854775808≤x.1.n∧x.1.n≤9223372036854775807) (hgp:0≤tag.epoch∧0≤tag.seq) (hl:t.reads.length≤1000∧t.writes.length≤1000∧t.ops.length≤1000) (hml:mks.length≤1000) (hmm:mks.length≤m)
  (hq:zMB B md n T (K+m) (N+1) Po P (zF4 n r kind ix tag t mks S) Γ q) :
  HG B (DsR md n X P::uN P::Γ) (zM.call (some ⟨md,0,none⟩) r (itV kind ix tag t ms).toArray q):=by
 refine fun w hw=>zId _ _ _ _ _ ?_;refine hg hw ?_;clear hw w;have hr0:∀w,Holds B Γ w→zAn w t:=fun w hw=>(hrd w hw _ hpo).1;have hm0:∀w,Holds B Γ w→RdC w ms 3 (mks.flatMap mkL):=fun w hw=>(hrd w hw _ hpo).2;have up:=h0.up hKm;refine zc1 fun st lk ls ts js=>?_;unfold zM;refine zD fun ib=>?_;have bad:¬zNE n r kind ix tag t mks→HG B (itB ib kind ix tag t ms::dsF md n st lk ls ts js X P (uN P::Γ)) (zM.s1 q (some ⟨md,0,none⟩) r ⟨ib,0,none⟩ true):=fun hb=>by
  unfold zM.s1;refine s_t ?_ (by rfl);unfold zF4 at hq;rw[if_neg hb] at hq;refine zD fun t34=>?_;refine zCi (esz:=6) ?_;refine zCo (zHq (md:=md) (n:=n) (st:=st) (lk:=lk) (ls:=ls) (ts:=ts) (js:=js) (X:=X) (P:=P) ?_);refine fun w hw=>Sep.hg (show Holds B (Sep.stars (([]:List DcX).map zF8)::_) w from hw.zAA) ?_;clear hw w;show HG B (_::_::SlC zu 6 ⟨some ⟨t34,0,none⟩,0,0⟩ (([]:List DcX).flatMap dcF)::_) _;exact zA (hq ⟨some ⟨t34,0,none⟩,0,0⟩ [] P X rfl (fun _ h=>h) (fun d hd=>by cases hd) up (by simp))
 refine xg ?_;refine zBl [itB ib kind ix tag t ms,dsB md n st lk ls ts X.fed X.last js] ?_;refine zF (fun h1=>bad fun hh=>?_) fun h1=>?_
 ·have h1:r<0:=by simpa using h1
  have:=hh.2.2.1.1;omega
 refine uf ?_;refine jK (b:=md) (off:=16) (l:=dsL n st lk ls ts X.fed X.last js) (x:=(n:Int)) ?_;refine zF (fun h2=>bad fun hh=>?_) fun h2=>?_
 ·have h2:(n:Int)≤r:=by simpa using h2
  have:=hh.2.2.1.2;omega
 refine jq (b:=ib) (l:=itV kind ix tag t ms) (l':=itV kind ix tag t ms) ?_;refine zN2 (L:=mks) hgp (fun w hw=>hr0 w (hw.drops (Δ:=Γ))) (fun w hw=>hm0 w (hw.drops (Δ:=Γ))) (by omega) (by omega) ?_;refine vS ?_;by_cases h3:zCr 3 tag t mks∧zDN kind ix;rotate_left
 ·rw[zgU h3];refine s_t ?_ (by rfl);exact bad fun hh=>h3 ⟨hh.2.1,hh.1⟩
 rw[zga h3];refine s_f ?_ (by rfl);refine jq (b:=ib) (off:=2) (l:=itV kind ix tag t ms) (l':=orV tag t ms) ?_;refine jK (b:=md) (off:=16) (l:=dsL n st lk ls ts X.fed X.last js) (x:=(n:Int)) ?_;refine zLQ (L:=mks) hgp (fun w hw=>hr0 w (hw.drops (Δ:=Γ))) (fun w hw=>hm0 w (hw.drops (Δ:=Γ))) (by omega) (by omega) ?_;by_cases h4:zCr (n:Int) tag t mks;rotate_left
 ·rw[zgU h4];exact bad fun hh=>h4 hh.2.2.2
 rw[zga h4];have h1:0≤r:=by simpa using h1
 have h2:r<n:=by simpa using h2
 have hok:zNE n r kind ix tag t mks:=⟨h3.2,h3.1,⟨h1,h2⟩,h4⟩
 unfold zF4 at hq;rw[if_pos hok] at hq;clear bad;obtain⟨rr,rfl⟩:=zhr h1;have hrn:rr<n:=by omega
 have hn3:=h0.n3;have hr3:rr<3:=by omega
 have hit:kind=1∨kind=2:=by rcases h3.2 with h|h <;> omega
 obtain⟨k1,k2,k3,k4⟩:=zDO h4.1;have hkk:∀m∈mks,m.key.length<1000000000:=fun m hm=>by
  have h1:m.key∈vX (t.reads++t.writes):=by rw[←h4.2.2.1];exact zgV.2 ⟨m,hm,rfl⟩
  have:=k1 _ (zDW.1 h1);omega
 have hfr:=h0.fedr rr hrn;have hll:=h0.logl rr hr3;unfold zM.s1;refine s_f ?_ (by rfl);refine xg ?_;refine uf ?_;refine zFY (b:=md) (off:=6) (by omega) (by omega) ?_;rw[zgw];refine zh (b:=md) (off:=6+rr) (l:=dsL n st lk ls ts X.fed X.last js) (x:=X.fed rr) ?_ (zc2 hr3);refine zAw (e':=X.fed rr+1) (wrap64 (by omega) (by omega)) ?_;refine zFY (b:=md) (off:=6) (by omega) (by omega) ?_;rw[zgw];refine zCN (b:=md) (off:=6+rr) (l:=dsL n st lk ls ts X.fed X.last js) (l':=dsL n st lk ls ts (upN X.fed rr (X.fed rr+1)) X.last js) ?_ (Nat.ble_eq_true_of_le (by rw[zU2];omega)) (zWG hr3 _);refine xg ?_;refine qc (Sep.stars ((List.range 3).map fun i=>zDf (ls i) (X.lg i))) ?_;refine zYt hr3 fun c1 c2 c3=>?_;refine zab hr3 ?_;refine zBl [itB ib kind ix tag t ms,dsB md n st lk ls ts (upN X.fed rr (X.fed rr+1)) X.last js] ?_;refine zFY (b:=md) (off:=3) (by omega) (by omega) ?_;rw[zgw];refine jK (b:=md) (off:=3+rr) (l:=dsL n st lk ls ts (upN X.fed rr (X.fed rr+1)) X.last js) (x:=ls rr) ?_ (zYr hr3);refine jq (b:=ib) (l:=itV kind ix tag t ms) (l':=itV kind ix tag t ms) ?_;generalize hY:(⟨kind,ix,⟨tag,t,ms,mks⟩⟩:ItG)=Y;have hYf:zB4 Y=itV kind ix tag t ms:=by rw[←hY]
 have hflL:∀u∈(X.lg rr).flatMap zB4,qD u=true:=fun u hu=>by
  obtain⟨y,_,hy⟩:=zhS.1 hu;have:(zB4 y).all qD=true:=rfl;exact zg2.1 this u hy
 refine zJU (z:=itZ) (us:=itV kind ix tag t ms) (vs:=(X.lg rr).flatMap zB4) (fun w hw=>hw.drops) (fun w hw=>(zO (s:=ls rr) hw).1) hflL (by omega) fun s' hs'=>?_;rw[show(X.lg rr).flatMap zB4++itV kind ix tag t ms=(X.lg rr++[Y]).flatMap zB4 by rw[zge,←hYf];simp];refine zFY (b:=md) (off:=3) (by omega) (by omega) ?_;rw[zgw];refine zCN (b:=md) (off:=3+rr) (l:=dsL n st lk ls ts (upN X.fed rr (X.fed rr+1)) X.last js) (l':=dsL n st lk (upN ls rr s') ts (upN X.fed rr (X.fed rr+1)) X.last js) ?_ (Nat.ble_eq_true_of_le (by rw[zU2];omega)) (zWF hr3 _);refine zCo (zac (r:=rr) (s:=s') (L:=X.lg rr++[Y]) (ls:=ls) (X:=X) hr3 ?_);generalize hls2:upN ls rr s'=ls2;generalize hX2:(⟨X.M,X.x,upN X.lg rr (X.lg rr++[Y]),upN X.fed rr (X.fed rr+1),X.last,X.tg,X.J⟩:DX)=X2;have fr:∀{Ψ:List zB} {k':Sep.K},[Drops Ψ (Sep.stars ((List.range 3).map fun i=>zDf (ls2 i) (upN X.lg rr (X.lg rr++[Y]) i))::dsB md n st lk ls2 ts (upN X.fed rr (X.fed rr+1)) X.last js::itB ib kind ix tag t ms::jC st n X.M P::zAW lk X.x::SlC xP 14 js (X.J.flatMap djF)::Sep.stars ((List.range 3).map fun i=>zLn (ts i) (X.tg i))::uN P::Γ)]→HG B (dsF md n st lk ls2 ts js X2 P (itB ib kind ix tag t ms::uN P::Γ)) k'→HG B Ψ k':=fun {Ψ k'} _ hh=>by
  subst hX2;refine zA (Δ:=Sep.stars ((List.range 3).map fun i=>zDf (ls2 i) (upN X.lg rr (X.lg rr++[Y]) i))::dsB md n st lk ls2 ts (upN X.fed rr (X.fed rr+1)) X.last js::itB ib kind ix tag t ms::jC st n X.M P::zAW lk X.x::SlC xP 14 js (X.J.flatMap djF)::Sep.stars ((List.range 3).map fun i=>zLn (ts i) (X.tg i))::uN P::Γ) ?_;refine zA (Δ:=dsB md n st lk ls2 ts (upN X.fed rr (X.fed rr+1)) X.last js::jC st n X.M P::zAW lk X.x::SlC xP 14 js (X.J.flatMap djF)::Sep.stars ((List.range 3).map fun i=>zDf (ls2 i) (upN X.lg rr (X.lg rr++[Y]) i))::Sep.stars ((List.range 3).map fun i=>zLn (ts i) (X.tg i))::itB ib kind ix tag t ms::uN P::Γ) ?_;exact hh
 refine fr ?_;clear fr;have hfg:S.fils.getD (rr:Int).toNat ⟨-1,[]⟩=S.fils.getD rr ⟨-1,[]⟩:=by rw[zgw]
 have hfi:zFL (rr:Int) kind ix tag t mks S=itI (rr:Int) (S.fils.getD rr ⟨-1,[]⟩) Y:=by rw[←hY];unfold zFL;rw[hfg]
 obtain⟨f1,f2,f3⟩:=zaf (y:=Y) (h0.last rr hrn) (h0.seen rr hrn);have hf3:=f3 (by rw[←hY];exact hit);rw[←hfi] at f1 f2 hf3;have h1':zF9 n T K (N+1) Po (zHm (rr:Int) kind ix tag t mks S) X2:=by
  have h0':=h0.up (m:=0) h0.kt;subst hX2;refine⟨h0.n1,h0.n3,h0.M,h0.jobs,h0'.wr,h0.kt,?_,fun r hr=>?_,fun r hr=>?_,?_,fun r hr=>?_,fun r hr=>?_,fun r hr y hy=>?_,fun r hr=>?_,h0.tgl,h0'.jl,h0'.ml⟩
  ·simp[h0.fedl]
  ·have:=h0.fed r hr;simp only[zHm,zgw];by_cases he:r=rr
   ·subst he;rw[zJY,zgv,zhO (by rw[h0.fedl];omega),this];rfl
   ·rw[zK5 he,zgv,zhl (fun h=>he h.symm),←zgv,this]
  ·have:=h0'.fedr r hr;by_cases he:r=rr
   ·subst he;simp only[zJY];omega
   ·simp only[zK5 he];omega
  ·simp[h0.filsl]
  ·simp only[zHm,zgw];by_cases he:r=rr
   ·subst he;rw[zJY,zgv,zhO (by rw[h0.filsl];omega)];exact f1
   ·rw[zK5 he,zgv,zhl (fun h=>he h.symm),←zgv];exact h0.last r hr
  ·simp only[zHm,zgw];by_cases he:r=rr
   ·subst he;rw[zJY,zgv,zhO (by rw[h0.filsl];omega)];exact f2
   ·rw[zK5 he,zgv,zhl (fun h=>he h.symm),←zgv];exact h0.seen r hr
  ·by_cases he:r=rr
   ·subst he;simp only[zJY] at hy;rcases zgP.1 hy with hy|hy
    ·exact h0.logs r hr y hy
    ·simp only[zgM] at hy;subst hy;subst hY;exact⟨hpo,hml⟩
   ·simp only[zK5 he] at hy;exact h0.logs r hr y hy
  ·have:=h0'.logl r hr;by_cases he:r=rr
   ·subst he;simp only[zJY,zgK,zh1];omega
   ·simp only[zK5 he];exact this
 have hXJ:X2.J=X.J:=by rw[←hX2]
 have hbig:(∃U,WR n K U Po (zHm (rr:Int) kind ix tag t mks S).M (zHm (rr:Int) kind ix tag t mks S).G X2.x X2.J∧U+T*(X2.J.length+1)≤T*(N+1)+K)∧X2.J.length+1≤N+1∧(zHm (rr:Int) kind ix tag t mks S).M.length+32*(X2.J.length+1)≤40*(N+1)+4000:=by
  obtain⟨U,hw,hU⟩:=h0.wr;have h5:=h0.jl;have h6:=h0.ml;subst hX2;refine⟨⟨U,hw,?_⟩,?_,?_⟩
  ·rw[Nat.mul_succ,Nat.mul_succ];simp only;omega
  ·simp only;omega
  ·simp only;omega
 have hlg2:X2.lg rr=X.lg rr++[Y]:=by rw[←hX2];simp only[zJY]
 have hcv:(zFL (rr:Int) kind ix tag t mks S).2=(cntF (rr:Int) (X.lg rr) Y&&if Y.kind=1 then !decide (Y.o.tag∈X2.tg rr) else decide (X2.last rr<Y.ix)):=by rw[hf3,←hX2]
 clear hf3 f1 f2 f3 hfi hfg;generalize hS1:zHm (rr:Int) kind ix tag t mks S=S1 at h1' hq hbig;have hSj:S1.jobs=S.jobs:=by rw[←hS1]
 have hPm1:Pm S1.M:=by rw[←hS1];exact hPm
 unfold zUq at hq;rw[hS1] at hq;have hjl1:=h1'.jl;have htl:=h1'.tgl rr hr3;have hll1:=h1'.logl rr hr3;unfold zM.s2;refine zTZ (Γ:=itB ib kind ix tag t ms::uN P::Γ) (r:=rr) (L:=X.lg rr) (y:=Y) hr3 hlg2 (fun w hw y hy=>hrd w (hw.drops (Δ:=Γ)) _ (h1'.logs rr hr3 y hy).1) (fun y hy=>(h1'.logs rr hr3 y hy).2) (by omega) (by omega) ?_;rw[←hcv];by_cases hin2:(zFL (rr:Int) kind ix tag t mks S).2=false
 ·rw[if_pos hin2] at hq;rw[hin2];refine s_t ?_ (by rfl);refine zD fun t65=>?_;refine zCi (esz:=6) ?_;refine zCo (zHq (md:=md) (n:=n) (st:=st) (lk:=lk) (ls:=ls2) (ts:=ts) (js:=js) (X:=X2) (P:=P) ?_);refine fun w hw=>Sep.hg (show Holds B (Sep.stars (([]:List DcX).map zF8)::_) w from hw.zAA) ?_;clear hw w;show HG B (_::_::SlC zu 6 ⟨some ⟨t65,0,none⟩,0,0⟩ (([]:List DcX).flatMap dcF)::_) _;have h1k:=h1'.upK hKm;exact zA (hq ⟨some ⟨t65,0,none⟩,0,0⟩ [] P X2 rfl (fun _ h=>h) (fun d hd=>by cases hd) h1k (by simp))
 rw[if_neg hin2] at hq;rw[Bool.not_eq_false] at hin2;rw[hin2];refine s_f ?_ (by rfl);refine yC (b:=ib) (off:=2) (l:=itV kind ix tag t ms) (l':=zQ tag) ?_;have hjm:(∃j∈S.jobs,j.tag=tag)↔∃j∈X2.J,j.o.tag=tag:=by
  rw[←hSj,←h1'.jobs];constructor
  ·rintro⟨x,hx,e⟩;obtain⟨y,hy,rfl⟩:=zgV.1 hx;exact⟨y,hy,e⟩
  ·rintro⟨y,hy,e⟩;exact⟨djM y,zgV.2 ⟨y,hy,rfl⟩,e⟩
 have hjk:(S.jobs++[⟨tag,zJQ t,mks,xA mks⟩]:List zFP)=S1.jobs++[⟨tag,zJQ t,mks,xA mks⟩]:=by rw[hSj]
 refine zYu (by omega) (fun hno=>?_) fun A j C hJ hA hj=>?_
 ·have hno':¬∃j∈S.jobs,j.tag=tag:=fun hh=>by obtain⟨j,hj,e⟩:=hjm.1 hh;exact hno j hj e
  rw[if_neg hno',hjk] at hq;refine s_f ?_ (by rfl);unfold zM.s3;refine s_f ?_ (by rfl);refine s_t ?_ (by rfl);refine xg ?_;refine zBl [itB ib kind ix tag t ms,dsB md n st lk ls2 ts X2.fed X2.last js] ?_;refine jK (b:=md) (off:=15) (l:=dsL n st lk ls2 ts X2.fed X2.last js) (x:=js) ?_;refine jq (b:=ib) (off:=2) (l:=itV kind ix tag t ms) (l':=orV tag t ms) ?_;refine zCv (cs:=djF ⟨⟨tag,t,ms,mks⟩,false,false,false⟩) ?_ (by kernel_rfl);refine yw js fun b1 b2 b3 b4=>?_;rw[zH djF 14 zCC] at b1;have hjn:js.n=X2.J.length:=(zgb (by omega) b1).symm;have hflJ:∀u∈X2.J.flatMap djF,qD u=true:=fun u hu=>by
   obtain⟨y,_,hy⟩:=zhS.1 hu;have:(djF y).all qD=true:=rfl;exact zg2.1 this u hy
  refine zJU (z:=djZ) (us:=djF ⟨⟨tag,t,ms,mks⟩,false,false,false⟩) (vs:=X2.J.flatMap djF) (fun w hw=>hw.drops) (fun w hw=>(zO (s:=js) hw).1) hflJ (by omega) fun j2 hj2=>?_;rw[show X2.J.flatMap djF++djF ⟨⟨tag,t,ms,mks⟩,false,false,false⟩=(X2.J++([⟨⟨tag,t,ms,mks⟩,false,false,false⟩]:List DJ)).flatMap djF by rw[zge];simp];refine zCN (b:=md) (off:=15) (l:=dsL n st lk ls2 ts X2.fed X2.last js) (l':=dsL n st lk ls2 ts X2.fed X2.last j2) ?_ rfl rfl;unfold zM.s6;refine zh (b:=md) (off:=15) (l:=dsL n st lk ls2 ts X2.fed X2.last j2) (x:=j2) ?_;refine zAw (e':=(X2.J.length:Int)) (by rw[wrap64 (by omega) (by omega)];omega) ?_;obtain⟨⟨U,hw,hU⟩,hb1,hb2⟩:=hbig;obtain⟨M3,x3,lg3,fed3,last3,tg3,J3⟩:=X2;simp only at hw hU hb1 hb2 hno hjl1 hXJ;refine zA (Δ:=dsF md n st lk ls2 ts j2 ⟨M3,x3,lg3,fed3,last3,tg3,J3++[⟨⟨tag,t,ms,mks⟩,false,false,false⟩]⟩ P (itB ib kind ix tag t ms::uN P::Γ)) ?_;have hdn:djM ⟨⟨tag,t,ms,mks⟩,false,false,false⟩=⟨tag,zJQ t,mks,xA mks⟩:=by
   unfold djM;simp only[zFP.mk.injEq,true_and];refine zhv.2 fun h _=>?_;simp[DJ.at']
  refine zYy (T:=T) (K:=K) (N:=N+1) (Po:=Po) (S:=⟨S1.M,S1.G,S1.fils,S1.fed,S1.jobs++[⟨tag,zJQ t,mks,xA mks⟩]⟩) (A:=J3) (C:=[]) (j:=⟨⟨tag,t,ms,mks⟩,false,false,false⟩) Kd hpt hPm1 hrd hr3 rfl (fun y hy=>hno y hy) rfl ?_ hT hKm hTN hN hm0 hkk hmm hml hq;refine⟨h1'.n1,h1'.n3,h1'.M,?_,⟨U,⟨hw.lk,hw.ku,hw.wf,hw.sz,hw.sd,fun y hy=>?_⟩,?_⟩,h1'.kt,h1'.fedl,h1'.fed,h1'.fedr,h1'.filsl,h1'.last,h1'.seen,h1'.logs,h1'.logl,h1'.tgl,?_,?_⟩
  ·simp only[zgT,zgd,zhp,hdn];rw[←h1'.jobs]
  ·rcases zgP.1 hy with hy|hy
   ·exact hw.ok y hy
   ·simp only[zgM] at hy;subst hy;exact⟨h4,hnn,hpo⟩
  ·simp only[zgK,zh1];exact hU
  ·simp only[zgK,zh1];exact hb1
  ·simp only[zgK,zh1];exact hb2
 ·have hyes':∃j∈S.jobs,j.tag=tag:=hjm.2 ⟨j,by rw[hJ];simp,hj⟩;rw[if_pos hyes'] at hq;refine s_t ?_ (by simp);refine zh (b:=ib) (l:=itV kind ix tag t ms) (x:=kind) ?_;unfold zM.s3;by_cases hk1:kind=1
  ·rw[if_pos hk1] at hq;refine s_t ?_ (by simpa using hk1);refine zCo (zHq (md:=md) (n:=n) (st:=st) (lk:=lk) (ls:=ls2) (ts:=ts) (js:=js) (X:=X2) (P:=P) ?_);refine zCo (zR9 (S:=S1) (Po:=Po) (K:=K+m) (T:=T) (N:=N+1) Kd hpt hPm1 hrd (h1'.upK hKm) hT hTN hN hq)
  ·rw[if_neg hk1,←hSj] at hq;refine s_f ?_ (by simpa using hk1);refine s_f ?_ (by simp);exact zYy (T:=T) (K:=K) (N:=N+1) (Po:=Po) Kd hpt hPm1 hrd hr3 hJ hA hj h1' hT hKm hTN hN hm0 hkk hmm hml hq
end
end
section
open Go Go.Sep Go.Sep.Bt
abbrev dNew:DX:=⟨[],⟨[],[],[]⟩,fun _=>[],fun _=>0,fun _=>-1,fun _=>[],[]⟩
theorem zYz{n T:Nat}{Po:OrG→Prop}(h1:1≤n)(h3:n≤3):zF9 n T 0 0 Po (zIm n) dNew:=by
 have hg:∀r,(List.replicate n (⟨-1,[]⟩:zIa)).getD r ⟨-1,[]⟩=⟨-1,[]⟩:=fun r=>by
  rw[zgv];cases he:(List.replicate n (⟨-1,[]⟩:zIa))[r]? with
  | none=>rfl
  | some f=>rw[List.eq_of_mem_replicate (zgx he)];rfl
 refine⟨h1,h3,rfl,rfl,⟨0,⟨⟨fun _=>rfl,fun _=>rfl,fun _=>rfl⟩,List.nodup_nil,?_,by simp,by simp,(fun j hj=>by cases hj)⟩,by simp⟩,(by omega),(by simp[zIm]),fun r hr=>?_,(fun r hr=>by simp),(by simp[zIm]),fun r hr=>?_,fun r hr g=>?_,(fun r hr y hy=>by cases hy),(fun r hr=>by simp),(fun r hr=>by simp),(by simp),(by simp[zIm])⟩
 ·exact Wf.nil
 ·simp only[zIm];rw[zgv,List.getElem?_replicate,if_pos hr];rfl
 ·simp only[zIm];rw[hg];rfl
 ·simp only[zIm];rw[hg];simp[zDw]
section
variable{B:World}{Γ Δ:List zB}{n:Nat}
theorem zai{Q:Option Addr→K}(h1:1≤n)(h3:n≤3)(h:∀md,HG B (DsR md n dNew []::uN []::Γ) (Q (some ⟨md,0,none⟩))):HG B Γ (zE0.call (n:Int) Q):=by
 refine fun w hw=>zQD _ _ _ ?_;refine hg hw ?_;clear hw w;unfold zE0;refine zaJ (P:=[]) h1 h3 fun st=>?_;refine zYe fun lk=>?_;refine fun w hw=>⟨#[.int .i64 (-1),.int .i64 (-1),.int .i64 (-1)],fun w=>by kernel_rfl,Sep.hg hw ?_⟩
 clear hw w;refine zCv (cs:=dsL n st lk (fun _=>⟨none,0,0⟩) (fun _=>⟨none,0,0⟩) (fun _=>0) (fun _=>-1) ⟨none,0,0⟩) ?_ (by kernel_rfl);refine zD fun md=>?_;have nilL:∀{α:Type} {Ψ:List zB} {k:K} (f:α→List Value) (E e:Nat),HG B (Sep.stars ((List.range 3).map fun _=>SlC E e ⟨none,0,0⟩ (([]:List α).flatMap f))::Ψ) k→HG B Ψ k:=fun f E e hh w hw=>hh w (Holds.flat.2 (((hw.ji _ _).ji _ _).ji _ _));refine nilL zB4 uq 12 ?_;refine nilL zQ zN 4 ?_;refine fun w hw=>Sep.hg (show Holds B (SlC xP 14 ⟨none,0,0⟩ (([]:List DJ).flatMap djF)::_) w from hw.ji _ _) ?_;clear hw w;refine fun w hw=>Sep.hg (show Holds B (uN []::_) w from hw.zAA) ?_;clear hw w;refine zCo (zHq (md:=md) (n:=n) (st:=st) (lk:=lk) (ls:=fun _=>⟨none,0,0⟩) (ts:=fun _=>⟨none,0,0⟩) (js:=⟨none,0,0⟩) (X:=dNew) (P:=[]) ?_);exact zA (h md)
end
end
section
open Go Go.Sep Go.Sep.Bt
structure zaj where
 l:Option Addr
 a:Sl
 b:Sl
 c:Sl
def zGX(sd st:Nat)(sv:zaj):zB:=blk sd (.cells [.pointer (some ⟨st,0,none⟩),.pointer sv.l,sv.a.val,sv.b.val,sv.c.val].toArray yS (0,0))
section
variable{B:World}{Γ Δ:List zB}{k:K}{sd st n:Nat}{M:zo}{sv:zaj}
instance(priority:=high) zec:Sep.Own sd (zGX sd st sv::Γ) (zGX sd st sv) Γ:=⟨.refl _⟩
theorem zc5(h:HG B (blk sd (.cells [.pointer (some ⟨st,0,none⟩),.pointer sv.l,sv.a.val,sv.b.val,sv.c.val].toArray yS (0,0))::Γ) k):HG B (zGX sd st sv::Γ) k:=h
theorem zSA{l:Option Addr}{a b c:Sl}(h:HG B (zGX sd st ⟨l,a,b,c⟩::Γ) k):HG B (blk sd (.cells [.pointer (some ⟨st,0,none⟩),.pointer l,a.val,b.val,c.val].toArray yS (0,0))::Γ) k:=h
theorem zak{T E:TypeId}{z:Value}{by' m:Nat}{Q:Sl→K}(hT:Tryz.prog.underlying T=some (.slice E))(hE:(Tryz.prog.info? E).map (fun i=>(i.zero,i.size,i.bytes))=some (some z,1,by'))(hz:z.cells=#[z])(hb:by'*m≤281474976710656)(hm:m≤9223372036854775807)
  (h:∀s,s.n=m→HG B (SlC E 1 s (List.replicate m z)::Γ) (Q s)):HG B Γ (Do Tryz.prog (Instr.makeSlice T (.int .i64 (m:Int)) (.int .i64 (m:Int))) Sl.val Q):=fun w hw=>by
 have h1:=Go.run_make_row' (P:=Tryz.prog) T E z by' hT hE hz .i64 .i64 m hb hm w
 refine⟨⟨some ⟨w.heap.size,0,none⟩,m,m⟩,_,h1,h ⟨some ⟨w.heap.size,0,none⟩,m,m⟩ rfl _ ?_⟩;have h2:=hw.alloc (.cells (madeCells #[z] m) E (0,0));exact h2.imp (zAq (by
  apply zhV;intro i;by_cases hi:i<m <;> simp[madeCells,List.getElem?_range,List.getElem?_replicate,hi,Nat.mod_one]) (by simp))
theorem zKM{Q:Option Addr→K}(h:∀l,HG B Γ (Q (some ⟨l,0,none⟩))):HG B Γ (zDP.call Q):=fun w hw=>by
 refine zJ4 _ _ ?_;refine hg hw ?_;clear hw w;unfold zDP;refine zGL (enc:=fun x:TX=>qE x) (cV:=fun x:Option Addr=>Value.pointer x) fun gm=>?_;refine zGL (enc:=kyS zQ) (cV:=Value.int .i64) fun db=>?_;refine zD fun l=>?_;exact zA (h l)
theorem zSB{Q:Option Addr→Int→K}(h1:1≤n)(h3:n≤3)(h:∀sd st sv,HG B (zGX sd st sv::yM st n []::Γ) (Q (some ⟨sd,0,none⟩) 0)):HG B Γ (uI.call (n:Int) Q):=fun w hw=>by
 refine zJ9 _ _ _ ?_;refine hg hw ?_;clear hw w;unfold uI;refine zIt h1 h3 fun st=>?_;refine s_f ?_;refine xg ?_;have rest:∀(l:Option Addr) (fd:Sl),HG B (yM st n []::Γ) (New yS [.pointer (some ⟨st,0,none⟩),.pointer l,Sl.val ⟨none,0,0⟩,fd.val,Sl.val ⟨none,0,0⟩].toArray fun t21=>uI.s1 Q (n:Int) (some t21)):=fun l fd=>by
  refine zD fun sd=>?_;unfold uI.s1;refine fun w hw=>hg (show Holds B (SlC xD 1 ⟨none,0,0⟩ (([]:List (Option Addr)).map Value.pointer)::_) w from hw.ji _ _) ?_;clear hw w;refine zA (Δ:=blk sd (.cells [.pointer (some ⟨st,0,none⟩),.pointer l,Sl.val ⟨none,0,0⟩,fd.val,Sl.val ⟨none,0,0⟩].toArray yS (0,0))::SlC xD 1 ⟨none,0,0⟩ (([]:List (Option Addr)).map Value.pointer)::yM st n []::Γ) ?_;refine qH (α:=Int) (ι:=Nat×Sl×List (Option Addr)) (fun x i=>x=(i.1:Int)∧i.1≤n∧i.2.2.length≤i.1) (fun x i=>blk sd (.cells [.pointer (some ⟨st,0,none⟩),.pointer l,i.2.1.val,fd.val,Sl.val ⟨none,0,0⟩].toArray yS (0,0))::SlC xD 1 i.2.1 (i.2.2.map Value.pointer)::yM st n []::Γ) (fun x i=>n-i.1) (0,⟨none,0,0⟩,[]) ⟨rfl,zgW _,zgu _⟩ ?_;rintro k' _ ⟨i,fs,F⟩ ⟨rfl,hi,hF⟩ hk';simp only at hi hF hk' ⊢;unfold uI.b2;refine zF (fun hb=>?_) fun hb=>?_
  ·have hin:i<n:=by simp only[zgH] at hb;omega
   refine yw fs fun a1 a2 a3 a4=>?_;rw[zgL,zgs] at a1
   repeat refine zT ?_
   refine fun w hw=>zF3 _ _ _ ?_;refine hg hw ?_;clear hw w;unfold zBf;refine zGL (enc:=kyS zQ) (cV:=Value.int .i64) fun sm=>?_;refine zD fun fp=>?_
   repeat refine zT ?_
   refine zD fun t33=>?_
   repeat refine zT ?_
   refine qp (s:=fs) (us:=[.pointer (some ⟨fp,0,none⟩)]) (zBM rfl) (by intro v hv;rw[zgM.1 hv];rfl) (by simp only;omega) fun fs2 hfs2=>?_
   repeat refine zT ?_
   refine qJ ?_;rw[show F.map Value.pointer++[.pointer (some ⟨fp,0,none⟩)]=(F++[some (⟨fp,0,none⟩:Addr)]).map Value.pointer by simp];exact zA (hk' ((i:Int)+1) (i+1,fs2,F++[some ⟨fp,0,none⟩]) ⟨by simp,hin,by simp;omega⟩ (by simp only;omega))
  ·refine zSA ?_;exact zA (h sd st ⟨l,fs,fd,⟨none,0,0⟩⟩)
 have mk:∀{Δ:List zB} {Q':Sl→K},(∀s,HG B (SlC zDF 1 s (List.replicate n (.int .i64 0))::Δ) (Q' s))→HG B Δ (Do Tryz.prog (Instr.makeSlice zMO (.int .i64 (n:Int)) (.int .i64 (n:Int))) Sl.val Q'):=fun {Δ Q'} hq=>
  zak (by':=8) (z:=.int .i64 0) (by kernel_rfl) (by kernel_rfl) rfl (by omega) (by omega) fun s _=>hq s
 refine zBS ?_ ?_
 ·refine zKM fun l=>?_;refine mk fun fd=>?_;exact zA (rest _ fd)
 ·refine mk fun fd=>?_;refine zKM fun l=>?_;exact zA (rest _ fd)
theorem zNW{t:TxX}{a b c d:Int}{Q:Array Value→K}(hr:∀w,Holds B Γ w→zAn w t)(hl:t.reads.length≤1000∧t.writes.length≤1000∧t.ops.length≤1000∧∀x∈t.ops,x.1.val.length≤1000000)(hk:∀x∈t.reads++t.writes,x.length≤1000)
  (h:∀t' ms,zKC t' t→HG B (SlC zi 3 ms ((zBB n M (vX (t.reads++t.writes))).flatMap mkL)::zGX sd st sv::yM st n M::txC t' Γ) (Q (orL a b c d t' ms).toArray)) :
  HG B (zGX sd st sv::yM st n M::Γ) (uP.call (some ⟨sd,0,none⟩) (tgL a b c d).toArray (txL t).toArray Q):=fun w hw=>by
 refine zEn _ _ _ _ _ ?_;refine Sep.hg hw ?_;clear hw w;refine zc5 ?_;unfold uP;refine zD fun tag4=>?_;refine zD fun t5=>?_;refine zD fun t6=>?_
 repeat refine zT ?_
 refine yN st ?_;refine zUi (t:=t) (fun w hw=>hr w hw.drops) hl hk fun t' ms ht'=>?_
 repeat refine zT ?_
 refine yN sd ?_;refine zSA (l:=sv.l) (a:=sv.a) (b:=sv.b) (c:=sv.c) ?_;exact zA (h t' ms ht')
end
end
section
open Go Go.Sep Go.Sep.Bt
structure zQH where
 b:Nat
 t:TxX
 ms:Sl
 mks:List MkX
structure jW where
 b:Nat
 tag:zx
 tx:TxX
 ord:Option zQH
abbrev zNX(g:zx)(o:zQH):List Value:=[.int .i64 g.node,.int .u64 g.epoch,.int .u64 g.seq,.int .i64 g.tr,.int .i64 o.t.kind,o.t.rs.val,o.t.ws.val,o.t.os.val,.int .i64 o.t.to,o.ms.val]
abbrev zed:Option zQH→Option Addr
 | none=>none
 | some o=>some ⟨o.b,0,none⟩
abbrev zG1(e:jW):List Value:=[.int .i64 e.tag.node,.int .u64 e.tag.epoch,.int .u64 e.tag.seq,.int .i64 e.tag.tr,.int .i64 e.tx.kind,e.tx.rs.val,e.tx.ws.val,e.tx.os.val,.int .i64 e.tx.to,.pointer (zed e.ord)]
abbrev zBd(e:jW):Option Addr:=some ⟨e.b,0,none⟩
def txO(t:TxX):zB:=Sep.stars (txC t [])
def zHr(g:zx):Option zQH→zB
 | none=>Sep.stars []
 | some o=>Sep.stars (blk o.b (.cells (zNX g o).toArray zU (0,0))::SlC zi 3 o.ms (o.mks.flatMap mkL)::txC o.t [])
def zA5(e:jW):zB:=Sep.stars [blk e.b (.cells (zG1 e).toArray xC (0,0)),txO e.tx,zHr e.tag e.ord]
def zGA(g:Int)(e:jW):Prop:=qC g e.tx=true∧∀o,e.ord=some o→zKC o.t e.tx∧o.mks.length≤1000
abbrev frL(nd ep rg ct:Int)(s:Sl):List Value:=[.int .i64 nd,.int .u64 ep,.int .i64 rg,.int .u64 ct,s.val]
def qI(f:Nat)(nd ep rg ct:Int)(E:List jW):zB:=ex fun s:Sl=>Sep.stars [pur (∀e∈E,zGA rg e),blk f (.cells (frL nd ep rg ct s).toArray xK (0,0)),SlC qM 1 s ((E.map zBd).map Value.pointer),Sep.stars (E.map zA5)]
theorem zDY{g:Int}{t:TxX}(h:qC g t=true):t.reads.length≤8∧t.writes.length≤8∧t.ops.length≤16∧(∀x∈t.reads++t.writes,x.length≤16)∧∀x∈t.ops,x.1.val.length≤32:=by
 unfold qC at h;split at h
 ·cases h
 rename_i h1;split at h
 ·cases h
 rename_i h2;simp only[zAt,not_or,Nat.not_lt] at h1;have hk:∀x∈t.reads++t.writes,x.length≤16:=fun x hx=>Nat.le_of_not_lt fun hl=>h2 (.inl ⟨x,hx,.inr hl⟩);split at h
 ·simp only[zgp,zgH] at h;have h0:t.ops=[]:=zgg.1 h.2.1;exact⟨h1.2.2.2.2.1,h1.2.2.2.2.2.1,by rw[h0];simp,hk,by rw[h0];simp⟩
 ·split at h
  ·cases h
  rename_i h3;simp only[not_or,Nat.not_lt] at h3;refine⟨h1.2.2.2.2.1,h1.2.2.2.2.2.1,h3.2.2,hk,fun x hx=>?_⟩;have:=zg2.1 h x hx;unfold uO at this;split at this
  ·cases this
  ·rename_i h4;simp only[not_or,Nat.not_lt] at h4;exact h4.1
def Told(n:Nat)(M:zo)(e e':jW):Prop:=e'.b=e.b∧e'.tag=e.tag∧e'.tx=e.tx∧∃o,e'.ord=some o∧zKC o.t e.tx∧(e.ord=none→o.mks=zBB n M (vX (e.tx.reads++e.tx.writes)))∧∀o0,e.ord=some o0→o=o0
abbrev zEk:=zx×zQH
abbrev zCq(x:zEk):List Value:=zNX x.1 x.2
theorem zDB(x:zEk):(zCq x).length=10:=rfl
def zG2(x:zEk):zB:=Sep.stars (SlC zi 3 x.2.ms (x.2.mks.flatMap mkL)::txC x.2.t [])
def zOu(e:jW)(x:zEk):Prop:=x.1=e.tag∧zKC x.2.t e.tx∧∃o,e.ord=some o∧x.2.mks=o.mks
def zAu(g:zx)(e:jW):Bool:=decide (e.tag=g)&&e.ord.isSome
section
variable{B:World}{Γ Δ:List zB}{k:K}{f sd st n:Nat}{M:zo}{nd ep rg ct:Int}{E:List jW}
theorem zGY(h:∀s,(∀e∈E,zGA rg e)→HG B (blk f (.cells (frL nd ep rg ct s).toArray xK (0,0))::SlC qM 1 s ((E.map zBd).map Value.pointer)::Sep.stars (E.map zA5)::Γ) k):HG B (qI f nd ep rg ct E::Γ) k :=
 zCE fun s=>zBL<|zHK fun h1=>h s h1
theorem zBz{s:Sl}(h1:∀e∈E,zGA rg e)(h:HG B (qI f nd ep rg ct E::Γ) k):HG B (blk f (.cells (frL nd ep rg ct s).toArray xK (0,0))::SlC qM 1 s ((E.map zBd).map Value.pointer)::Sep.stars (E.map zA5)::Γ) k:=fun w hw=>by
 refine h w ?_;have h3:Holds B (Sep.stars [pur (∀e∈E,zGA rg e),blk f (.cells (frL nd ep rg ct s).toArray xK (0,0)),SlC qM 1 s ((E.map zBd).map Value.pointer),Sep.stars (E.map zA5)]::Γ) w:=Holds.flat.2 (Holds.pur.2 ⟨h1,hw⟩);exact h3.imp fun g hg=>⟨s,hg⟩
instance(priority:=high) zdK:Sep.Own f (qI f nd ep rg ct E::Γ) (qI f nd ep rg ct E) Γ:=⟨.refl _⟩
theorem zc6{t:TxX}(h:HG B (txO t::Γ) k):HG B (txC t Γ) k:=fun w hw=>h w ((Holds.flat (Δ:=txC t [])).2 hw)
theorem zY0{t:TxX}{w:World}(h:Holds B (txO t::Γ) w):zAn w t:=zKr ((Holds.flat (Δ:=txC t [])).1 h)
theorem zNY{e:jW}(h:HG B (blk e.b (.cells (zG1 e).toArray xC (0,0))::txO e.tx::zHr e.tag e.ord::Γ) k):HG B (zA5 e::Γ) k:=zBL h
theorem zFa{e:jW}(h:HG B (zA5 e::Γ) k):HG B (blk e.b (.cells (zG1 e).toArray xC (0,0))::txO e.tx::zHr e.tag e.ord::Γ) k:=fun w hw=>h w ((Holds.flat (Δ:=[blk e.b (.cells (zG1 e).toArray xC (0,0)),txO e.tx,zHr e.tag e.ord])).2 hw)
theorem zc7{g:zx}{o:zQH}(h:HG B (blk o.b (.cells (zNX g o).toArray zU (0,0))::SlC zi 3 o.ms (o.mks.flatMap mkL)::txC o.t Γ) k):HG B (zHr g (some o)::Γ) k:=zBL h
theorem zSC{g:zx}{o:zQH}(h:HG B (zHr g (some o)::Γ) k):HG B (blk o.b (.cells (zNX g o).toArray zU (0,0))::SlC zi 3 o.ms (o.mks.flatMap mkL)::txC o.t Γ) k:=fun w hw=>h w ((Holds.flat (Δ:=blk o.b (.cells (zNX g o).toArray zU (0,0))::SlC zi 3 o.ms (o.mks.flatMap mkL)::txC o.t [])).2 hw)
theorem zY1{g:zx}(h:HG B (zHr g none::Γ) k):HG B Γ k:=fun w hw=>h w hw.zAA
theorem zal{x:zEk}(h:HG B (zG2 x::Γ) k):HG B (SlC zi 3 x.2.ms (x.2.mks.flatMap mkL)::txC x.2.t Γ) k:=fun w hw=>h w ((Holds.flat (Δ:=SlC zi 3 x.2.ms (x.2.mks.flatMap mkL)::txC x.2.t [])).2 hw)
theorem zTc{α:Type}{F:α→zB}{A:List α}{x:α}(h:HG B (Sep.stars ((A++[x]).map F)::Γ) k):HG B (F x::Sep.stars (A.map F)::Γ) k:=by
 have:=zAb (F:=F) (A:=A) (C:=[]) (x:=x) h;rwa[zgy] at this
theorem zLS{Q:Option Addr→K}(h:∀f,HG B (qI f nd ep rg 0 []::Γ) (Q (some ⟨f,0,none⟩))):HG B Γ (zEB.call nd ep rg Q):=fun w hw=>by
 refine zQE _ _ _ _ _ ?_;refine hg hw ?_;clear hw w;unfold zEB;refine zD fun f=>?_;refine fun w hw=>hg (show Holds B (Sep.stars (([]:List jW).map zA5)::_) w from hw.zAA) ?_;clear hw w;refine fun w hw=>hg (show Holds B (SlC qM 1 ⟨none,0,0⟩ ((([]:List jW).map zBd).map Value.pointer)::_) w from hw.ji _ _) ?_;clear hw w;refine qc (Sep.stars (([]:List jW).map zA5)) ?_;refine uL ⟨none,0,0⟩ ?_;refine yN f ?_;exact zBz (by simp) (h f)
theorem zWM{s:Sl}{L:List MkX}{Q:Sl→K}(hr:∀w,Holds B Γ w→RdC w s 3 (L.flatMap mkL))(hl:L.length≤20000000)(h:∀s',HG B (SlC zi 3 s' (L.flatMap mkL)::Γ) (Q s')):HG B Γ (qP.call s Q):=fun w hw=>by
 refine zA8 _ _ _ ?_;refine hg hw ?_;clear hw w;unfold qP;exact zEv (us:=L.flatMap mkL) hr (zRh _) (by rw[zH _ 3 jB];omega) (by omega) fun s' _=>h s'
theorem zTd{g:zx}{o:zQH}{Q:Array Value→K}(hr:∀w,Holds B Γ w→zAn w o.t)(hm:∀w,Holds B Γ w→RdC w o.ms 3 (o.mks.flatMap mkL))(hl:o.t.reads.length≤1000∧o.t.writes.length≤1000∧o.t.ops.length≤1000∧∀x∈o.t.ops,x.1.val.length≤1000000)(hml:o.mks.length≤1000)
  (h:∀t' ms',zKC t' o.t→HG B (zG2 (g,⟨0,t',ms',o.mks⟩)::Γ) (Q (zNX g ⟨0,t',ms',o.mks⟩).toArray)):HG B Γ (zB5.call (zNX g o).toArray Q):=fun w hw=>by
 refine zIx _ _ _ ?_;refine hg hw ?_;clear hw w;unfold zB5;refine zD fun o1=>?_;refine zD fun t2=>?_
 repeat refine zT ?_
 refine zL7 (t:=o.t) (fun w hw=>hr w hw.drops) hl fun t' ht'=>?_
 repeat refine zT ?_
 refine zWM (L:=o.mks) (fun w hw=>hm w hw.drops) (by omega) fun ms'=>?_;refine zTK (b:=o1) (off:=4) (us:=txL t') (zNX g ⟨0,t',o.ms,o.mks⟩) ?_
 repeat refine zT ?_
 have h2:=zal (x:=(g,⟨0,t',ms',o.mks⟩)) (h t' ms' ht');exact zA h2
end
end
section
open Go Go.Sep Go.Sep.Bt
section
variable{B:World}{Γ Δ:List zB}{k:K}{f sd st n:Nat}{M:zo}{nd ep rg ct:Int}{E:List jW}
theorem zNZ{t:TxX}{Q:Array Value→Int→K}(hr:∀w,Holds B Γ w→zAn w t)(hl:t.reads.length<10000000∧t.writes.length<10000000∧t.ops.length<10000000)(hc:0≤ct∧ct≤1000000)
  (hbad:qC rg t=false→HG B (qI f nd ep rg ct E::Γ) (Q #[.int .i64 0,.int .u64 0,.int .u64 0] 1))
  (hfull:qC rg t=true→64≤E.length→HG B (qI f nd ep rg ct E::Γ) (Q #[.int .i64 0,.int .u64 0,.int .u64 0] 2))
  (hok:qC rg t=true→E.length<64→∀b t',zKC t' t→HG B (qI f nd ep rg (ct+1) (E++[⟨b,⟨nd,ep,ct+1,0⟩,t',none⟩])::Γ) (Q #[.int .i64 nd,.int .u64 ep,.int .u64 (ct+1)] 0)) :
  HG B (qI f nd ep rg ct E::Γ) (uy.call (some ⟨f,0,none⟩) (txL t).toArray Q):=fun w hw=>by
 refine zGt _ _ _ _ ?_;refine hg hw ?_;clear hw w;refine zGY fun s hE=>?_;unfold uy;refine zD fun t3=>?_;refine zD fun t4=>?_
 repeat refine zT ?_
 refine zRg (t:=t) (n:=rg) (fun w hw=>hr w hw.drops) hl ?_;by_cases hrt:qC rg t=true;rotate_left
 ·have hrt':qC rg t=false:=by simpa using hrt
  rw[if_neg hrt];refine s_t ?_
  repeat refine zT ?_
  refine qc (Sep.stars (E.map zA5)) ?_;refine uL s ?_;refine yN f ?_;exact zBz hE (zA (hbad hrt'))
 rw[if_pos hrt];refine s_f ?_;refine yw s fun a1 a2 a3 a4=>?_;rw[zgL,zgL,zgs] at a1
 repeat refine zT ?_
 refine zF (fun hb=>?_) fun hb=>?_
 ·have h64:64≤E.length:=by simp only[zgH] at hb;omega
  repeat refine zT ?_
  refine qc (Sep.stars (E.map zA5)) ?_;refine uL s ?_;refine yN f ?_;exact zBz hE (zA (hfull hrt h64))
 have h64:E.length<64:=by simp only[zgF] at hb;omega
 repeat refine zT ?_
 refine zAw (e':=ct+1) (zCk (by omega) (by omega)) ?_
 repeat refine zT ?_
 refine zD fun id7=>?_
 repeat refine zT ?_
 obtain⟨q1,q2,q3,q4,q5⟩:=zDY hrt;refine zL7 (t:=t) (fun w hw=>hr w hw.drops) ⟨by omega,by omega,by omega,fun x hx=>by have:=q5 x hx;omega⟩ fun t' ht'=>?_
 repeat refine zT ?_
 refine zD fun b=>?_
 repeat refine zT ?_
 refine zD fun t56=>?_
 repeat refine zT ?_
 refine qp (s:=s) (esz:=1) (us:=[.pointer (some ⟨b,0,none⟩)]) (zBM rfl) (by intro v hv;rw[zgM.1 hv];rfl) (by simp only;omega) fun s2 hs2=>?_
 repeat refine zT ?_
 refine zA (Δ:=txC t' (blk b (.cells (zG1 ⟨b,⟨nd,ep,ct+1,0⟩,t',none⟩).toArray xC (0,0))::blk f (.cells (frL nd ep rg (ct+1) s2).toArray xK (0,0))::SlC qM 1 s2 (((E.map zBd).map Value.pointer)++[Value.pointer (some (⟨b,0,none⟩:Addr))])::Sep.stars (E.map zA5)::Γ)) ?_;refine zc6 ?_;refine zY1 (g:=⟨nd,ep,ct+1,0⟩) ?_;refine zA (Δ:=blk b (.cells (zG1 ⟨b,⟨nd,ep,ct+1,0⟩,t',none⟩).toArray xC (0,0))::txO t'::zHr ⟨nd,ep,ct+1,0⟩ none::Sep.stars (E.map zA5)::blk f (.cells (frL nd ep rg (ct+1) s2).toArray xK (0,0))::SlC qM 1 s2 (((E.map zBd).map Value.pointer)++[Value.pointer (some (⟨b,0,none⟩:Addr))])::Γ) ?_;refine zFa (e:=⟨b,⟨nd,ep,ct+1,0⟩,t',none⟩) ?_;refine zTc (F:=zA5) ?_;rw[show((E.map zBd).map Value.pointer)++[Value.pointer (some (⟨b,0,none⟩:Addr))]=((E++[(⟨b,⟨nd,ep,ct+1,0⟩,t',none⟩:jW)]).map zBd).map Value.pointer by simp];refine qc (Sep.stars ((E++[(⟨b,⟨nd,ep,ct+1,0⟩,t',none⟩:jW)]).map zA5)) ?_;refine uL s2 ?_;refine yN f ?_;refine zBz (fun e he=>?_) (hok hrt h64 b t' ht');rcases zgP.1 he with he|he
 ·exact hE e he
 ·rw[zgM.1 he];refine⟨?_,fun o ho=>by cases ho⟩;have:qC rg t'=qC rg t:=zGR ht' rg;rw[this,hrt]
theorem zWN{t:TxX}{Q:Array Value→Int→K}(hr:∀w,Holds B Γ w→zAn w t)(hl:t.reads.length<10000000∧t.writes.length<10000000∧t.ops.length<10000000)(hc:0≤ct∧ct≤1000000)
  (hbad:qC rg t=false→HG B (qI f nd ep rg ct E::Γ) (Q #[.int .i64 0,.int .u64 0,.int .u64 0] 1))
  (hfull:64≤E.length→HG B (qI f nd ep rg ct E::Γ) (Q #[.int .i64 0,.int .u64 0,.int .u64 0] 2))
  (hok:qC rg t=true→E.length<64→∀b t',zKC t' t→HG B (qI f nd ep rg (ct+1) (E++[⟨b,⟨nd,ep,ct+1,0⟩,t',none⟩])::Γ) (Q #[.int .i64 nd,.int .u64 ep,.int .u64 (ct+1)] 0)) :
  HG B (qI f nd ep rg ct E::Γ) (uy.call (some ⟨f,0,none⟩) (txL t).toArray Q):=zNZ hr hl hc hbad (fun _ h=>hfull h) hok
theorem zU4{Q:Sl→K}(hE:E.length≤1000)(h:∀s,s.n=E.length→HG B (SlC zBq 3 s (E.flatMap fun e=>[.int .i64 e.tag.node,.int .u64 e.tag.epoch,.int .u64 e.tag.seq])::qI f nd ep rg ct E::Γ) (Q s)):
  HG B (qI f nd ep rg ct E::Γ) (vk.call (some ⟨f,0,none⟩) Q):=fun w hw=>by
 refine zIg _ _ _ ?_;refine hg hw ?_;clear hw w;refine zGY fun s hok=>?_;refine yw s fun a1 a2 a3 a4=>?_;rw[zgL,zgL,zgs] at a1;unfold vk
 repeat refine zT ?_
 refine fun w hw=>hg (show Holds B (SlC zBq 3 ⟨none,0,0⟩ (([]:List jW).flatMap fun e=>[.int .i64 e.tag.node,.int .u64 e.tag.epoch,.int .u64 e.tag.seq])::_) w from hw.ji _ _) ?_;clear hw w;refine qH (α:=Sl×Int) (ι:=Nat) (fun x i=>x.2=(i:Int)∧i≤E.length) (fun x i=>SlC zBq 3 x.1 ((E.take i).flatMap fun e=>[.int .i64 e.tag.node,.int .u64 e.tag.epoch,.int .u64 e.tag.seq])::blk f (.cells (frL nd ep rg ct s).toArray xK (0,0))::SlC qM 1 s ((E.map zBd).map Value.pointer)::Sep.stars (E.map zA5)::Γ) (fun x i=>E.length-i) 0 ⟨rfl,zgW _⟩ ?_;rintro k' ⟨o,_⟩ i ⟨rfl,hi⟩ hk';simp only at hi hk' ⊢;refine yw o fun b1 b2 b3 b4=>?_;rw[zH _ 3 (fun _=>rfl),zgR] at b1;unfold vk.b1;refine zF (fun hb=>?_) fun hb=>?_
 ·have hil:i<E.length:=by simp only[zgH] at hb;omega
  have hge:(E.map zBd)[i]?=some (zBd E[i]):=by rw[zgk,zgG hil];rfl
  have htk:E.take (i+1)=E.take i++[E[i]]:=zgJ hil;obtain⟨A,C,hAC⟩:∃A C,E=A++E[i]::C:=⟨E.take i,E.drop (i+1),by rw[←zgj hil,zgz]⟩
  generalize E[i]=e at hge htk hAC;refine je (c:=Value.pointer) (fun w hw=>(zO (s:=s) hw).1) hge ?_;refine qc (Sep.stars (E.map zA5)) ?_;rw[show E.map zA5=(A++e::C).map zA5 by rw[←hAC]];refine zFB ?_;refine zNY ?_
  repeat refine zT ?_
  refine zD fun t20=>?_;refine qp (s:=o) (esz:=3) (us:=[.int .i64 e.tag.node,.int .u64 e.tag.epoch,.int .u64 e.tag.seq]) (zBM rfl) (by intro v hv;simp only[zgS,zhg,or_false] at hv;rcases hv with rfl|rfl|rfl <;> rfl) (by simp only;omega) fun o2 ho2=>?_;refine qJ ?_;rw[show((E.take i).flatMap fun e=>[Value.int .i64 e.tag.node,.int .u64 e.tag.epoch,.int .u64 e.tag.seq])++[.int .i64 e.tag.node,.int .u64 e.tag.epoch,.int .u64 e.tag.seq]=(E.take (i+1)).flatMap fun e=>[Value.int .i64 e.tag.node,.int .u64 e.tag.epoch,.int .u64 e.tag.seq] by rw[htk];simp];refine zA (Δ:=blk e.b (.cells (zG1 e).toArray xC (0,0))::txO e.tx::zHr e.tag e.ord::Sep.stars ((A++C).map zA5)::SlC zBq 3 o2 ((E.take (i+1)).flatMap fun e=>[.int .i64 e.tag.node,.int .u64 e.tag.epoch,.int .u64 e.tag.seq])::blk f (.cells (frL nd ep rg ct s).toArray xK (0,0))::SlC qM 1 s ((E.map zBd).map Value.pointer)::Γ) ?_;refine zFa ?_;refine zAb ?_;rw[show(A++e::C).map zA5=E.map zA5 by rw[←hAC]];exact zA (hk' (o2,(i:Int)+1) (i+1) ⟨by simp,hil⟩ (by omega))
 ·have hil:i=E.length:=by simp only[zgF] at hb;omega
  rw[hil] at b1;rw[hil,zgQ];refine zGG ?_;refine qc (Sep.stars (E.map zA5)) ?_;refine uL s ?_;refine yN f ?_;exact zBz hok (zGG (h o (by omega)))
end
end
section
open Go Go.Sep Go.Sep.Bt
inductive F2{α β:Type}(R:α→β→Prop):List α→List β→Prop
 | nil:F2 R [] []
 | cons {a:α} {b:β} {l:List α} {m:List β}:R a b→F2 R l m→F2 R (a::l) (b::m)
theorem zMC{α β:Type}{R:α→β→Prop}{as':List α}{bs':List β}{a:α}{b:β}(h:F2 R as' bs')(h2:R a b):F2 R (as'++[a]) (bs'++[b]):=by
 induction h with
 | nil=>exact .cons h2 .nil
 | cons h3 _ ih=>exact .cons h3 ih
theorem zFM{α β:Type}{R:α→β→Prop}{as':List α}{bs':List β}(h:F2 R as' bs'):as'.length=bs'.length:=by
 induction h with
 | nil=>rfl
 | cons _ _ ih=>simp[ih]
theorem zY2{n:Nat}{M:zo}{as' bs':List jW}(h:F2 (Told n M) as' bs'):bs'.map zBd=as'.map zBd:=by
 induction h with
 | nil=>rfl
 | cons h1 _ ih=>simp[ih,zBd,h1.1]
theorem zU5{n:Nat}{M:zo}{g:Int}{e e':jW}(h:Told n M e e')(ho:zGA g e):zGA g e':=by
 obtain⟨h1,h2,h3,o,h4,h5,h6,h7⟩:=h;obtain⟨g1,g2⟩:=ho;refine⟨by rw[h3];exact g1,fun o' ho'=>?_⟩;rw[h4] at ho';cases ho'
 refine⟨by rw[h3];exact h5,?_⟩;cases he:e.ord with
 | none=>
  rw[h6 he,zBB,zgL];have h8:=zDX (e.tx.reads++e.tx.writes);rw[zgK] at h8;have:=zDY g1;omega
 | some o0=>
  rw[h7 o0 he];exact(g2 o0 he).2
theorem zWO(L:List zEk):∀v∈L.flatMap zCq,qD v=true:=fun v hv=>by
 obtain⟨x,_,hx⟩:=zhS.1 hv;simp only[zCq,zNX,zgS,zhg,or_false] at hx;rcases hx with rfl|rfl|rfl|rfl|rfl|rfl|rfl|rfl|rfl|rfl <;> rfl
section
variable{B:World}{Γ Δ:List zB}{k:K}{f sd st n:Nat}{sv:zaj}{M:zo}{nd ep rg ct:Int}{E:List jW}
abbrev zHs(out s:Sl)(f sd st:Nat)(sv:zaj)(n:Nat)(M:zo)(nd ep rg ct:Int)(ps:List (Option Addr))(X:List zEk)(Γ:List zB):List zB :=
 SlC zU 10 out (X.flatMap zCq)::Sep.stars (X.map zG2)::blk f (.cells (frL nd ep rg ct s).toArray xK (0,0))::SlC qM 1 s (ps.map Value.pointer)::zGX sd st sv::yM st n M::Γ
theorem zam{out s:Sl}{ps:List (Option Addr)}{X:List zEk}{e:jW}{o:zQH}{X1:Sl→Int→K}{Q:Sl→K}{i:Nat}(hen:e.ord=some o)(hok:zGA rg e)(hX:X.length≤100)(hi:i≤100)
  (h:∀out' x,zOu e x→HG B (zA5 e::zHs out' s f sd st sv n M nd ep rg ct ps (X++[x]) Γ) (X1 out' ((i:Int)+1))) :
  HG B (zA5 e::zHs out s f sd st sv n M nd ep rg ct ps X Γ) (yF.s2 Q X1 (some ⟨sd,0,none⟩) out (some ⟨e.b,0,none⟩) s (s.n:Int) (i:Int)):=by
 obtain⟨b,tag,tx,ord⟩:=e;simp only at hen;subst hen;obtain⟨g1,g2⟩:=hok;obtain⟨g3,g4⟩:=g2 o rfl;simp only at g1 g3;have g5:=zDY g1;have g6:o.t.ops.length=tx.ops.length:=by have:=congrArg List.length g3.2.2.2.2;simpa using this
 have g7:∀x∈o.t.ops,x.1.val.length≤1000000:=fun x hx=>by
  have:x.1∈o.t.ops.map Prod.fst:=zgV.2 ⟨x,hx,rfl⟩;rw[g3.2.2.2.2] at this;obtain⟨y,hy,e2⟩:=zgV.1 this;have:=g5.2.2.2.2 y hy;rw[←e2];omega
 refine yw out fun a1 a2 a3 a4=>?_;rw[zH _ 10 zDB] at a1;unfold yF.s2;refine zNY ?_;refine qc (zHr tag (some o)) ?_;refine zc7 ?_
 repeat refine zT ?_
 refine zTd (g:=tag) (o:=o) (fun w hw=>zKr (t:=o.t) (Γ:=Γ) hw.drops) (fun w hw=>(zO (s:=o.ms) hw).1) ⟨by rw[g3.2.2.1];omega,by rw[g3.2.2.2.1];omega,by omega,g7⟩ g4 fun t' ms' ht'=>?_
 repeat refine zT ?_
 refine zD fun t43=>?_;refine qp (s:=out) (esz:=10) (us:=zCq (tag,⟨0,t',ms',o.mks⟩)) (zBM rfl) (fun v hv=>zWO [((tag,⟨0,t',ms',o.mks⟩):zEk)] v (by simpa using hv)) (by simp only;omega) fun out2 hout2=>?_;refine qJ ?_;rw[show X.flatMap zCq++zCq (tag,⟨0,t',ms',o.mks⟩)=(X++[((tag,⟨0,t',ms',o.mks⟩):zEk)]).flatMap zCq by simp only[zge,zgi,zhn,zgy]];refine zA (Δ:=blk o.b (.cells (zNX tag o).toArray zU (0,0))::SlC zi 3 o.ms (o.mks.flatMap mkL)::txC o.t (blk b (.cells (zG1 ⟨b,tag,tx,some o⟩).toArray xC (0,0))::txO tx::zG2 (tag,⟨0,t',ms',o.mks⟩)::Sep.stars (X.map zG2)::SlC zU 10 out2 ((X++[((tag,⟨0,t',ms',o.mks⟩):zEk)]).flatMap zCq)::blk f (.cells (frL nd ep rg ct s).toArray xK (0,0))::SlC qM 1 s (ps.map Value.pointer)::zGX sd st sv::yM st n M::Γ)) ?_;refine zSC ?_;refine zA (Δ:=zG2 (tag,⟨0,t',ms',o.mks⟩)::Sep.stars (X.map zG2)::blk b (.cells (zG1 ⟨b,tag,tx,some o⟩).toArray xC (0,0))::txO tx::zHr tag (some o)::SlC zU 10 out2 ((X++[((tag,⟨0,t',ms',o.mks⟩):zEk)]).flatMap zCq)::blk f (.cells (frL nd ep rg ct s).toArray xK (0,0))::SlC qM 1 s (ps.map Value.pointer)::zGX sd st sv::yM st n M::Γ) ?_;refine zTc (F:=zG2) ?_;refine zA (Δ:=blk b (.cells (zG1 ⟨b,tag,tx,some o⟩).toArray xC (0,0))::txO tx::zHr tag (some o)::zHs out2 s f sd st sv n M nd ep rg ct ps (X++[((tag,⟨0,t',ms',o.mks⟩):zEk)]) Γ) ?_;refine zFa (e:=⟨b,tag,tx,some o⟩) ?_;refine h out2 (tag,⟨0,t',ms',o.mks⟩) ⟨rfl,?_,o,rfl,rfl⟩;obtain⟨p1,p2,p3,p4,p5⟩:=ht';obtain⟨q1,q2,q3,q4,q5⟩:=g3;exact⟨p1.trans q1,p2.trans q2,p3.trans q3,p4.trans q4,p5.trans q5⟩
theorem zOv{Q:Sl→K}(hE:E.length≤64)
  (h:∀E' out X,F2 (Told n M) E E'→F2 zOu E' X→HG B (SlC zU 10 out (X.flatMap zCq)::Sep.stars (X.map zG2)::qI f nd ep rg ct E'::zGX sd st sv::yM st n M::Γ) (Q out)) :
  HG B (qI f nd ep rg ct E::zGX sd st sv::yM st n M::Γ) (yF.call (some ⟨f,0,none⟩) (some ⟨sd,0,none⟩) Q):=fun w hw=>by
 refine zGs _ _ _ _ ?_;refine hg hw ?_;clear hw w;refine zGY fun s hok=>?_;refine yw s fun a1 a2 a3 a4=>?_;rw[zgL,zgL,zgs] at a1;unfold yF
 repeat refine zT ?_
 refine fun w hw=>hg (show Holds B (Sep.stars (([]:List zEk).map zG2)::_) w from hw.zAA) ?_;clear hw w;refine fun w hw=>hg (show Holds B (SlC zU 10 ⟨none,0,0⟩ (([]:List zEk).flatMap zCq)::_) w from hw.ji _ _) ?_;clear hw w;refine zA (Δ:=Sep.stars (E.map zA5)::zHs ⟨none,0,0⟩ s f sd st sv n M nd ep rg ct (E.map zBd) [] Γ) ?_;refine qH (α:=Sl×Int) (ι:=Nat×List jW×List zEk) (fun x i=>x.2=(i.1:Int)∧i.1≤E.length∧F2 (Told n M) (E.take i.1) i.2.1∧F2 zOu i.2.1 i.2.2) (fun x i=>Sep.stars ((i.2.1++E.drop i.1).map zA5)::zHs x.1 s f sd st sv n M nd ep rg ct (E.map zBd) i.2.2 Γ) (fun x i=>E.length-i.1) (0,[],[]) ⟨rfl,zgW _,.nil,.nil⟩ ?_;rintro k' ⟨out,_⟩ ⟨i,D,X⟩ ⟨rfl,hi,hD,hX⟩ hk';simp only at hi hD hX hk' ⊢;have hDl:=zFM hD;rw[zgR] at hDl;have hXl:=zFM hX;unfold yF.b1;refine zF (fun hb=>?_) fun hb=>?_;rotate_left
 ·have hil:i=E.length:=by simp only[zgF] at hb;omega
  rw[hil,zgQ] at hD;rw[hil,zhx,zgy,←zY2 hD];refine qc (Sep.stars (D.map zA5)) ?_;refine uL s ?_;refine yN f ?_;refine zBz (fun e he=>?_) (zA (h D out X hD hX));have:∀{as' bs':List jW},F2 (Told n M) as' bs'→(∀e∈as',zGA rg e)→∀e∈bs',zGA rg e:=by
   intro as' bs' hf
   induction hf with
   | nil=>intro _ e he;cases he
   | cons h1 _ ih=>
    intro ha e he;rcases zgS.1 he with rfl|he
    ·exact zU5 h1 (ha _ zgN)
    ·exact ih (fun e he=>ha e (zgI _ he)) e he
  exact this hD hok e he
 have hil:i<E.length:=by simp only[zgH] at hb;omega
 have hge:(E.map zBd)[i]?=some (zBd E[i]):=by rw[zgk,zgG hil];rfl
 have htk:E.take (i+1)=E.take i++[E[i]]:=zgJ hil;have hmem:E[i]∈E:=zgX hil;rw[zgj hil];generalize E[i]=e at hge htk hmem;have hoe:=hok e hmem;have tell:∀e' o,e'.ord=some o→e'.b=e.b→zGA rg e'→Told n M e e'→HG B (zA5 e'::Sep.stars ((D++E.drop (i+1)).map zA5)::zHs out s f sd st sv n M nd ep rg ct (E.map zBd) X Γ) (yF.s2 Q (fun out4_1 t13_1=>k' (out4_1,t13_1)) (some ⟨sd,0,none⟩) out (some ⟨e.b,0,none⟩) s (s.n:Int) (i:Int)):=fun e' o he1 he2 he3 he4=>by
  rw[←he2];refine zA (Δ:=zA5 e'::zHs out s f sd st sv n M nd ep rg ct (E.map zBd) X (Sep.stars ((D++E.drop (i+1)).map zA5)::Γ)) ?_;refine zam he1 he3 (by omega) (by omega) fun out' x hx=>?_;refine zA (Δ:=zA5 e'::Sep.stars ((D++E.drop (i+1)).map zA5)::zHs out' s f sd st sv n M nd ep rg ct (E.map zBd) (X++[x]) Γ) ?_;refine zAb ?_;rw[show D++e'::E.drop (i+1)=(D++[e'])++E.drop (i+1) by simp];exact hk' (out',(i:Int)+1) (i+1,D++[e'],X++[x]) ⟨by simp,hil,by rw[htk];exact zMC hD he4,zMC hX hx⟩ (by simp only;omega)
 refine je (c:=Value.pointer) (fun w hw=>(zO (s:=s) hw).1) hge ?_;refine zFB ?_;obtain⟨b,tag,tx,ord⟩:=e;cases ord with
 | some o=>
  refine zNY ?_
  repeat refine zT ?_
  refine zA (Δ:=blk b (.cells (zG1 ⟨b,tag,tx,some o⟩).toArray xC (0,0))::txO tx::zHr tag (some o)::Sep.stars ((D++E.drop (i+1)).map zA5)::zHs out s f sd st sv n M nd ep rg ct (E.map zBd) X Γ) ?_;refine zFa (e:=⟨b,tag,tx,some o⟩) ?_;exact tell ⟨b,tag,tx,some o⟩ o rfl rfl hoe ⟨rfl,rfl,rfl,o,rfl,(hoe.2 o rfl).1,fun h0=>(by cases h0),fun o0 h0=>(by cases h0;rfl)⟩
 | none=>
  have g5:=zDY hoe.1;simp only at g5;have hkl:=zDX (tx.reads++tx.writes);rw[zgK] at hkl;have S3:∀(o7:Nat) (t':TxX) (ms:Sl),zKC t' tx→HG B (blk o7 (.cells (zNX tag ⟨o7,t',ms,zBB n M (vX (tx.reads++tx.writes))⟩).toArray zU (0,0))::SlC zi 3 ms ((zBB n M (vX (tx.reads++tx.writes))).flatMap mkL)::txC t' (blk b (.cells (zG1 ⟨b,tag,tx,none⟩).toArray xC (0,0))::txO tx::Sep.stars ((D++E.drop (i+1)).map zA5)::zHs out s f sd st sv n M nd ep rg ct (E.map zBd) X Γ)) (yF.s3 Q (fun out4_1 t13_1=>k' (out4_1,t13_1)) (some ⟨sd,0,none⟩) out ⟨b,0,none⟩ ⟨o7,0,none⟩ s (s.n:Int) (i:Int)):=fun o7 t' ms ht'=>by
   refine zSC (g:=tag) (o:=⟨o7,t',ms,zBB n M (vX (tx.reads++tx.writes))⟩) ?_;unfold yF.s3
   repeat refine zT ?_
   refine zA (Δ:=blk b (.cells (zG1 ⟨b,tag,tx,some ⟨o7,t',ms,zBB n M (vX (tx.reads++tx.writes))⟩⟩).toArray xC (0,0))::txO tx::zHr tag (some ⟨o7,t',ms,zBB n M (vX (tx.reads++tx.writes))⟩)::Sep.stars ((D++E.drop (i+1)).map zA5)::zHs out s f sd st sv n M nd ep rg ct (E.map zBd) X Γ) ?_;refine zFa (e:=⟨b,tag,tx,some ⟨o7,t',ms,zBB n M (vX (tx.reads++tx.writes))⟩⟩) ?_;have ht:Told n M ⟨b,tag,tx,none⟩ ⟨b,tag,tx,some ⟨o7,t',ms,zBB n M (vX (tx.reads++tx.writes))⟩⟩:=⟨rfl,rfl,rfl,_,rfl,ht',fun _=>rfl,fun o0 h0=>(by cases h0)⟩
   exact tell ⟨b,tag,tx,some ⟨o7,t',ms,zBB n M (vX (tx.reads++tx.writes))⟩⟩ _ rfl rfl (zU5 ht hoe) ht
  refine zNY ?_
  repeat refine zT ?_
  refine zBS ?_ ?_
  ·refine zA (Δ:=zGX sd st sv::yM st n M::blk b (.cells (zG1 ⟨b,tag,tx,none⟩).toArray xC (0,0))::txO tx::Sep.stars ((D++E.drop (i+1)).map zA5)::SlC zU 10 out (X.flatMap zCq)::Sep.stars (X.map zG2)::blk f (.cells (frL nd ep rg ct s).toArray xK (0,0))::SlC qM 1 s ((E.map zBd).map Value.pointer)::Γ) ?_;refine zNW (t:=tx) (fun w hw=>zY0 (Γ:=Γ) hw.drops) ⟨by omega,by omega,by omega,fun x hx=>by have:=g5.2.2.2.2 x hx;omega⟩ (fun x hx=>by have:=g5.2.2.2.1 x hx;omega) fun t' ms ht'=>?_;refine zD fun o7=>?_
   repeat refine zT ?_
   exact zA (S3 o7 t' ms ht')
  ·refine zD fun o7=>?_
   repeat refine zT ?_
   refine zA (Δ:=zGX sd st sv::yM st n M::blk o7 (.cells [.int .i64 0,.int .u64 0,.int .u64 0,.int .i64 0,.int .i64 0,Sl.val ⟨none,0,0⟩,Sl.val ⟨none,0,0⟩,Sl.val ⟨none,0,0⟩,.int .i64 0,Sl.val ⟨none,0,0⟩].toArray zU (0,0))::blk b (.cells (zG1 ⟨b,tag,tx,none⟩).toArray xC (0,0))::txO tx::Sep.stars ((D++E.drop (i+1)).map zA5)::SlC zU 10 out (X.flatMap zCq)::Sep.stars (X.map zG2)::blk f (.cells (frL nd ep rg ct s).toArray xK (0,0))::SlC qM 1 s ((E.map zBd).map Value.pointer)::Γ) ?_;refine zNW (t:=tx) (fun w hw=>zY0 (Γ:=Γ) hw.drops) ⟨by omega,by omega,by omega,fun x hx=>by have:=g5.2.2.2.2 x hx;omega⟩ (fun x hx=>by have:=g5.2.2.2.1 x hx;omega) fun t' ms ht'=>?_
   repeat refine zT ?_
   exact zA (S3 o7 t' ms ht')
end
end
section
open Go Go.Sep Go.Sep.Bt
abbrev fiV(b:Nat):Value:=.func (.func 184) #[] #[.pointer (some ⟨b,0,none⟩)]
abbrev zCI(g:zx)(code:Int)(os:Sl):List Value:=[.int .i64 g.node,.int .u64 g.epoch,.int .u64 g.seq,.int .i64 code,os.val]
abbrev zOw:Array Value:=#[.int .i64 0,.int .u64 0,.int .u64 0,.int .i64 0,Sl.val ⟨none,0,0⟩]
abbrev zNa(g:zx)(code:Int)(os:Sl):List Value:=[.int .i64 g.node,.int .u64 g.epoch,.int .u64 g.seq,.int .i64 g.tr,.int .i64 code,os.val]
theorem zU6{α:Type}{p:α→Bool}{A C:List α}{x:α}(hA:∀y∈A,p y=false)(hx:p x=true):zFH ((A++x::C).findIdx? p)=(A.length:Int):=by
 have:(A++x::C).findIdx? p=some A.length:=by
  rw[List.findIdx?_append,zhN.2 hA];simp[ziE,hx]
 rw[this];rfl
theorem zJZ{α:Type}(p:α→Bool):∀L:List α,(∀y∈L,p y=false)∨∃A x C,L=A++x::C∧(∀y∈A,p y=false)∧p x=true
 | []=>.inl (by simp)
 | x::L=>by
  cases hx:p x with
  | true=>exact .inr ⟨[],x,L,rfl,by simp,hx⟩
  | false=>
   rcases zJZ p L with h|⟨A,y,C,h1,h2,h3⟩
   ·refine .inl fun z hz=>?_;rcases zgS.1 hz with rfl|hz
    ·exact hx
    ·exact h z hz
   ·refine .inr ⟨x::A,y,C,by rw[h1];rfl,fun z hz=>?_,h3⟩;rcases zgS.1 hz with rfl|hz
    ·exact hx
    ·exact h2 z hz
def restart(e:jW):jW:=⟨e.b,⟨e.tag.node,e.tag.epoch,e.tag.seq,e.tag.tr+1⟩,e.tx,none⟩
section
variable{B:World}{Γ Δ:List zB}{k:K}{f sd st n:Nat}{M:zo}{nd ep rg ct:Int}{E:List jW}{g:zx}
theorem zTe{s:Sl}{xs:List UInt8}{Q:Sl→K}(hr:∀w,Holds B Γ w→RdB w s xs)(hl:xs.length≤140737488351232)(h:∀s',HG B (Bytes qO s' xs::Γ) (Q s')):HG B Γ (uG.call s Q):=fun w hw=>by
 refine zFC _ _ _ ?_;have hrw:=hr w hw;have hsn:s.n=xs.length:=by have:=hrw.len;simpa using this.symm
 refine hg hw ?_;clear hw;unfold uG;refine zF (fun hb=>?_) fun hb=>?_
 ·have ha:s.a=none:=by cases hs:s.a with
   | none=>rfl
   | some a=>rw[hs] at hb;cases hb
  have hn:s.n=0:=hrw.nil ha;have hus:xs=[]:=zgg.1 (by omega);refine fun w2 hw2=>h ⟨none,0,0⟩ w2 ?_;rw[hus];exact hw2.ji qO 1
 ·refine zD fun t5=>?_;refine fun w2 hw2=>?_;have h1:Holds B (SlC qO 1 ⟨some ⟨t5,0,none⟩,0,0⟩ []::Γ) w2:=hw2.imp (zAq (vs:=[]) rfl (by simp));refine zHG h1 (by kernel_rfl) (by kernel_rfl) (by':=1) (by kernel_rfl) zIq rfl (hr w2 hw2.tail) (zED _) (by simp only;omega) (by decide) fun s' w' h' _ _=>?_;rw[zg6] at h';exact h s' w' h'
theorem zU7{Q:Int→K}(hE:E.length≤1000)(h:HG B (qI f nd ep rg ct E::Γ) (Q (zFH (E.findIdx? (zAu g))))):HG B (qI f nd ep rg ct E::Γ) (zAP.call (some ⟨f,0,none⟩) (zQ g).toArray Q):=fun w hw=>by
 refine zIi _ _ _ _ ?_;refine hg hw ?_;clear hw w;refine zGY fun s hok=>?_;refine yw s fun a1 a2 a3 a4=>?_;rw[zgL,zgL,zgs] at a1;unfold zAP;refine zD fun b=>?_
 repeat refine zT ?_
 refine fun w hw=>zBo _ _ _ _ ?_;refine hg hw ?_;clear hw w;show HG B _ (zIw Tryz.prog (zVd Value.pointer) s (fiV b) _);refine zIA (vV:=fun e:jW=>.pointer (zBd e)) (L:=E) (zAu g) (by omega) (by omega) (fun i x k hx hk=>?_) (fun e q he hq=>?_) ?_
 ·exact je (c:=Value.pointer) (fun w hw=>(zO (s:=s) hw).1) (by rw[zgk,hx];rfl) hk
 ·obtain⟨A,C,rfl⟩:=zhf he;refine zEa (cs:=[.pointer (some ⟨b,0,none⟩)]) ?_;refine fun w hw=>zGw _ _ _ _ ?_;refine hg hw ?_;clear hw w;unfold uK uK.s1;refine qc (Sep.stars ((A++e::C).map zA5)) ?_;refine zFB ?_;refine zNY ?_;have back:HG B (blk e.b (.cells (zG1 e).toArray xC (0,0))::txO e.tx::zHr e.tag e.ord::Sep.stars ((A++C).map zA5)::blk b (.cells (zQ g).toArray zN (0,0))::blk f (.cells (frL nd ep rg ct s).toArray xK (0,0))::SlC qM 1 s (((A++e::C).map zBd).map Value.pointer)::Γ) (q (zAu g e)):=by
   refine zFa ?_;refine zAb ?_;exact zA hq
  repeat refine zT ?_
  refine zHQ (xs:=zQ e.tag) (ys:=zQ g) (ks:=zJ2) (p:=e.tag=g) zBw ?_;refine zF (fun hb=>?_) fun hb=>?_
  ·have hb':e.tag=g:=by simpa using hb
   repeat refine zT ?_
   rw[show(!(zed e.ord).isNone)=zAu g e by unfold zAu;rw[hb'];cases e.ord <;> simp];exact zA back
  ·have hb':¬e.tag=g:=by simpa using hb
   rw[show zAu g e=false by unfold zAu;simp[hb']] at back;exact zA back
 ·refine qc (Sep.stars (E.map zA5)) ?_;refine uL s ?_;refine yN f ?_;exact zBz hok (zA h)
theorem zOx{A C:List jW}{e:jW}{code:Int}{os:Sl}{at':Int}{Q:Array Value→Bool→K}(hat:at'=(A.length:Int))(hE:(A++e::C).length≤1000)(h:HG B (qI f nd ep rg ct (A++C)::Γ) (Q (zCI e.tag code os).toArray true)):
  HG B (qI f nd ep rg ct (A++e::C)::Γ) (jc.call (some ⟨f,0,none⟩) at' #[.int .i64 code,os.val] Q):=fun w hw=>by
 subst hat;refine zGv _ _ _ _ _ ?_;refine hg hw ?_;clear hw w;refine zGY fun s hok=>?_;refine yw s fun a1 a2 a3 a4=>?_;rw[zgL,zgL,zgs] at a1;have hlen:(A++e::C).length=A.length+(C.length+1):=by simp
 unfold jc;refine zD fun r5=>?_;refine zD fun t6=>?_
 repeat refine zT ?_
 refine je (c:=Value.pointer) (L:=(A++e::C).map zBd) (j:=A.length) (x:=zBd e) (fun w hw=>(zO (s:=s) hw).1) (by simp) ?_;refine qc (Sep.stars ((A++e::C).map zA5)) ?_;refine zFB ?_;refine zNY ?_
 repeat refine zT ?_
 refine zD fun id8=>?_
 repeat refine zT ?_
 refine qJ ?_;refine fun w hw=>zB8 _ _ _ _ _ ?_;refine hg hw ?_;clear hw w;refine(show ∀(Γ':List zB) (Q':Sl→K),HG B Γ' (zZ4 Tryz.prog zI5 0 1 s (A.length:Int) ((A.length:Int)+1) Q')→HG B Γ' (xG s (A.length:Int) ((A.length:Int)+1) Q') from fun _ _ h=>h) _ _ ?_;refine zbS (s:=s) (E:=qM) (i:=A.length) (j:=A.length+1) (by omega) (by omega) (by omega) (by intro v hv;obtain⟨y,_,rfl⟩:=zgV.1 hv;rfl) (fun s' hs'=>?_) (by kernel_rfl);rw[show(((A++e::C).map zBd).map Value.pointer).take (A.length*1)++(((A++e::C).map zBd).map Value.pointer).drop ((A.length+1)*1)=((A++C).map zBd).map Value.pointer by
  rw[zgs,zgs,←ziI,←ziI,←ziJ,←ziJ,zhU,show A++e::C=(A++[e])++C by simp,zhi (by simp)];simp]
 repeat refine zT ?_
 refine qc (Sep.stars ((A++C).map zA5)) ?_;refine uL s' ?_;refine yN f ?_;refine zBz (fun x hx=>hok x ?_) (zA h);rcases zgP.1 hx with hx|hx
 ·exact zhF _ hx
 ·exact zg3 _ (zgI _ hx)
theorem zan{Q:Array Value→Bool→K}(hE:E.length≤1000)(hno:(∀e∈E,zAu g e=false)→HG B (qI f nd ep rg ct E::Γ) (Q zOw false))
  (hyes:∀A e C,E=A++e::C→zAu g e=true→(∀y∈A,zAu g y=false)→HG B (qI f nd ep rg ct (A++C)::Γ) (Q (zCI e.tag 140 ⟨none,0,0⟩).toArray true)) :
  HG B (qI f nd ep rg ct E::Γ) (zBC.call (some ⟨f,0,none⟩) (zQ g).toArray Q):=fun w hw=>by
 refine zIh _ _ _ _ ?_;refine hg hw ?_;clear hw w;unfold zBC;refine zD fun tag3=>?_;refine zD fun t4=>?_
 repeat refine zT ?_
 refine yN f ?_;refine zU7 hE ?_;rcases zJZ (zAu g) E with h|⟨A,e,C,rfl,hA,he⟩
 ·rw[show E.findIdx? (zAu g)=none from zhN.2 h];refine s_t ?_
  repeat refine zT ?_
  exact zA (hno h)
 ·rw[zU6 hA he];refine s_f ?_ (by simp);refine zOx rfl hE ?_
  repeat refine zT ?_
  exact zA (hyes A e C rfl he hA)
theorem zSD{s:Sl}{L:OX}{Q:Sl→K}(hr:∀w,Holds B Γ w→RdC w s 2 (L.flatMap oF))(hl:L.length≤20000000)(h:∀s',HG B (SlC qA 2 s' (L.flatMap oF)::Γ) (Q s')):HG B Γ (vB.call s Q):=fun w hw=>by
 refine zDc _ _ _ ?_;refine hg hw ?_;clear hw w;unfold vB;refine zEv (us:=L.flatMap oF) hr (fun v hv=>?_) (by rw[zH _ 2 zDr];omega) (by omega) fun s' _=>h s';obtain⟨x,_,hx⟩:=zhS.1 hv;simp only[oF,zgS,zhg,or_false] at hx;rcases hx with rfl|rfl <;> rfl
theorem zbd{A C:List jW}{e:jW}{code:Int}{os:Sl}{O:OX}{r8 t4:Nat}{zs:List Value}{Q:Array Value→Bool→K}(hz:zs.length=5)(hE:(A++e::C).length≤1000)(hO:O.length≤1000000)(hr:∀w,Holds B Γ w→RdC w os 2 (O.flatMap oF))(hv:∀x∈O,∀w,Holds B Γ w→RdB w x.2 x.1.2)(hvl:∀x∈O,x.1.2.length≤140737488351232)
  (h:∀(os':Sl) (O':OX),O'.map Prod.fst=O.map Prod.fst→HG B (SlC qA 2 os' (O'.flatMap oF)::Sep.stars (O'.map oB)::qI f nd ep rg ct (A++C)::Γ) (Q (zCI e.tag code os').toArray true)) :
  HG B (blk r8 (.cells [.int .i64 code,os.val].toArray qR (0,0))::blk t4 (.cells zs.toArray uU (0,0))::qI f nd ep rg ct (A++e::C)::Γ) (yI.s1 Q ⟨f,0,none⟩ ⟨t4,0,none⟩ (A.length:Int) ⟨r8,0,none⟩):=by
 unfold yI.s1
 repeat refine zT ?_
 refine zSD (L:=O) (fun w hw=>hr w hw.drops) (by omega) fun o2=>?_
 repeat refine zT ?_
 refine fun w hw=>hg (show Holds B (Sep.stars (([]:OX).map oB)::_) w from hw.zAA) ?_;clear hw w;refine yw o2 fun a1 a2 a3 a4=>?_;rw[zH _ 2 zDr] at a1;refine zA (Δ:=SlC qA 2 o2 (O.flatMap oF)::Sep.stars (([]:OX).map oB)::blk r8 (.cells [.int .i64 code,o2.val].toArray qR (0,0))::blk t4 (.cells zs.toArray uU (0,0))::qI f nd ep rg ct (A++e::C)::Γ) ?_;refine qH (α:=Int) (ι:=Nat×OX) (fun x i=>x=(i.1:Int)∧i.1≤O.length∧i.2.map Prod.fst=O.map Prod.fst∧i.2.drop i.1=O.drop i.1)
  (fun x i=>SlC qA 2 o2 (i.2.flatMap oF)::Sep.stars ((i.2.take i.1).map oB)::blk r8 (.cells [.int .i64 code,o2.val].toArray qR (0,0))::blk t4 (.cells zs.toArray uU (0,0))::qI f nd ep rg ct (A++e::C)::Γ)
  (fun x i=>O.length-i.1) (0,O) ⟨rfl,zgW _,rfl,rfl⟩ ?_
 rintro k' _ ⟨i,L⟩ ⟨rfl,hi,hm,hd⟩ hk';simp only at hi hm hd hk' ⊢;have hLl:L.length=O.length:=by have:=congrArg List.length hm;simpa using this
 unfold yI.b2;refine zF (fun hb=>?_) fun hb=>?_
 ·have hil:i<O.length:=by simp only[zgH] at hb;omega
  have hge:L[i]?=some O[i]:=by
   have:=congrArg (·[0]?) hd;simp only[zgt,zho] at this;rw[this,zgG hil]
  have hmem:O[i]∈O:=zgX hil;generalize O[i]=x at hge hmem;have hvx:=hvl x hmem;refine uT oF zDr (fun w hw=>(zO (s:=o2) hw).1) hge ?_;refine zD fun o10=>?_;refine yX (b:=o10) (l':=[.bool x.1.1,x.2.val]) ?_
  repeat refine zT ?_
  refine zTe (xs:=x.1.2) (fun w hw=>hv x hmem w hw.drops) hvx fun vs=>?_
  repeat refine zT ?_
  refine zBk (s:=o2) (i:=i) ?_;refine zFV (s:=o2) ?_ (by rw[zH _ 2 zDr];omega);rw[zFk (y:=((x.1,vs):(Bool×List UInt8)×Sl)) zDr hge (by omega) rfl];refine qJ ?_;have hA:(L.set i (x.1,vs)).map Prod.fst=O.map Prod.fst:=by
   rw[←hm,zh8];refine zhV fun j=>?_;rw[List.getElem?_set];split
   ·rename_i hij;subst hij;split
    ·simp[hge]
    ·rename_i hj;simp only[zgL] at hj;omega
   ·rfl
  have hB:(L.set i (x.1,vs)).drop (i+1)=O.drop (i+1):=by
   rw[ziB (by omega),←zgo,hd,zgo]
  have h3:=hk' ((i:Int)+1) (i+1,L.set i (x.1,vs)) ⟨by simp,hil,hA,hB⟩ (by simp only;omega);have ht:(L.set i (x.1,vs)).take (i+1)=L.take i++[((x.1,vs):(Bool×List UInt8)×Sl)]:=by
   have hx:(L.set i (x.1,vs))[i]?=some (x.1,vs):=by rw[zhO (by omega)]
   rw[List.take_add_one,hx,List.take_set_of_le (zgu _)];rfl
  simp only at h3;rw[ht] at h3;have h4:=zTc (F:=oB) (A:=L.take i) (x:=((x.1,vs):(Bool×List UInt8)×Sl)) (Γ:=SlC qA 2 o2 ((L.set i (x.1,vs)).flatMap oF)::blk r8 (.cells [.int .i64 code,o2.val].toArray qR (0,0))::blk t4 (.cells zs.toArray uU (0,0))::qI f nd ep rg ct (A++e::C)::Γ) (zA h3);exact zA h4
 ·have hil:i=O.length:=by simp only[zgF] at hb;omega
  rw[hil,←hLl,zgQ]
  repeat refine zT ?_
  refine yN f ?_;refine zOx rfl hE ?_;refine yX (b:=t4) (l':=zCI e.tag code o2) ?_ hz
  repeat refine zT ?_
  exact zA (h o2 L hm)
theorem zOy{code:Int}{os:Sl}{O:OX}{Q:Array Value→Bool→K}(hE:E.length≤1000)(hO:O.length≤1000000)(hr:∀w,Holds B Γ w→RdC w os 2 (O.flatMap oF))(hv:∀x∈O,∀w,Holds B Γ w→RdB w x.2 x.1.2)(hvl:∀x∈O,x.1.2.length≤140737488351232)(htrs:∀e∈E,0≤e.tag.tr∧e.tag.tr≤2)
  (hno:(∀e∈E,zAu g e=false)→HG B (qI f nd ep rg ct E::Γ) (Q zOw false))
  (hst:∀A e C,E=A++e::C→zAu g e=true→(∀y∈A,zAu g y=false)→code=112→e.tag.tr<2→HG B (qI f nd ep rg ct (A++restart e::C)::Γ) (Q zOw false))
  (hyes:∀A e C,E=A++e::C→zAu g e=true→(∀y∈A,zAu g y=false)→¬(code=112∧e.tag.tr<2)→∀(os':Sl) (O':OX),(code=112→O'=[])→(code≠112→O'.map Prod.fst=O.map Prod.fst)→HG B (SlC qA 2 os' (O'.flatMap oF)::Sep.stars (O'.map oB)::qI f nd ep rg ct (A++C)::Γ) (Q (zCI e.tag (if code=112 then 141 else code) os').toArray true)) :
  HG B (qI f nd ep rg ct E::Γ) (yI.call (some ⟨f,0,none⟩) (zNa g code os).toArray Q):=fun w hw=>by
 refine zGu _ _ _ _ ?_;refine hg hw ?_;clear hw w;unfold yI;refine zD fun d3=>?_;refine zD fun t4=>?_
 repeat refine zT ?_
 refine yN f ?_;refine zU7 hE ?_;rcases zJZ (zAu g) E with h|⟨A,e,C,rfl,hA,he⟩
 ·rw[show E.findIdx? (zAu g)=none from zhN.2 h];refine s_t ?_
  repeat refine zT ?_
  exact zA (hno h)
 rw[zU6 hA he];refine s_f ?_ (by simp);have het:e.tag=g:=by
  unfold zAu at he;simp only[zgp,zgH] at he;exact he.1
 refine zGY fun s hok=>?_
 repeat refine zT ?_
 refine uY (fun x:Option Addr=>[Value.pointer x]) (L:=(A++e::C).map zBd) (j:=A.length) (x:=zBd e) (fun _=>rfl) (by omega) (fun w hw=>by rw[zE7];exact(zO (s:=s) hw).1) (by simp) (fun t23 ht23=>?_) rfl;refine zaK (cs:=[Value.pointer (zBd e)]) (x:=zBd e) (fun w hw=>ht23 w (by rw[zE7];exact(zO (s:=s) hw).1)) rfl ?_
 repeat refine zT ?_
 refine zD fun r8=>?_
 repeat refine zT ?_
 have S1:∀(c2:Int) (os2:Sl) (O2:OX),¬(code=112∧e.tag.tr<2)→c2=(if code=112 then 141 else code)→(code=112→O2=[]∧os2=⟨none,0,0⟩)→(code≠112→O2=O∧os2=os)→HG B (blk r8 (.cells [.int .i64 c2,os2.val].toArray qR (0,0))::blk f (.cells (frL nd ep rg ct s).toArray xK (0,0))::SlC qM 1 s (((A++e::C).map zBd).map Value.pointer)::Sep.stars ((A++e::C).map zA5)::blk t4 (.cells [.int .i64 0,.int .u64 0,.int .u64 0,.int .i64 0,Sl.val ⟨none,0,0⟩].toArray uU (0,0))::Γ) (yI.s1 Q ⟨f,0,none⟩ ⟨t4,0,none⟩ (A.length:Int) ⟨r8,0,none⟩):=fun c2 os2 O2 hn hc2 h1 h2=>by
  refine qc (Sep.stars ((A++e::C).map zA5)) ?_;refine uL s ?_;refine yN f ?_;refine zBz hok ?_;refine zA (Δ:=blk r8 (.cells [.int .i64 c2,os2.val].toArray qR (0,0))::blk t4 (.cells [.int .i64 0,.int .u64 0,.int .u64 0,.int .i64 0,Sl.val ⟨none,0,0⟩].toArray uU (0,0))::qI f nd ep rg ct (A++e::C)::Γ) ?_;by_cases hc:code=112
  ·obtain⟨rfl,rfl⟩:=h1 hc;refine zbd (O:=[]) rfl hE (by simp) (fun w hw=>RdC.none') (by simp) (by simp) fun os' O' hO'=>?_;rw[hc2];exact hyes A e C rfl he hA hn os' O' (fun _=>by simpa using hO') (fun h=>absurd hc h)
  ·obtain⟨rfl,rfl⟩:=h2 hc;refine zbd (O:=O2) rfl hE hO hr hv hvl fun os' O' hO'=>?_;rw[hc2];exact hyes A e C rfl he hA hn os' O' (fun h=>absurd h hc) (fun _=>hO')
 refine zF (fun hb=>?_) fun hb=>?_
 ·have hc:code=112:=by simpa using hb
  refine qc (Sep.stars ((A++e::C).map zA5)) ?_;refine zFB ?_;refine zNY ?_
  repeat refine zT ?_
  unfold yI.s3;by_cases htr:e.tag.tr<2
  ·rw[show decide (e.tag.tr<2)=true by simpa using htr];refine s_t ?_
   repeat refine zT ?_
   refine zAw (e':=e.tag.tr+1) (by have:=htrs e (by simp);rw[wrap64 (by omega) (by omega)]) ?_
   repeat refine zT ?_
   refine zY1 (g:=⟨e.tag.node,e.tag.epoch,e.tag.seq,e.tag.tr+1⟩) ?_;refine zA (Δ:=blk e.b (.cells (zG1 ⟨e.b,⟨e.tag.node,e.tag.epoch,e.tag.seq,e.tag.tr+1⟩,e.tx,none⟩).toArray xC (0,0))::txO e.tx::zHr ⟨e.tag.node,e.tag.epoch,e.tag.seq,e.tag.tr+1⟩ none::Sep.stars ((A++C).map zA5)::blk f (.cells (frL nd ep rg ct s).toArray xK (0,0))::SlC qM 1 s (((A++e::C).map zBd).map Value.pointer)::Γ) ?_;refine zFa (e:=restart e) ?_;refine zAb ?_;rw[show((A++e::C).map zBd)=((A++restart e::C).map zBd) by simp[restart]];refine qc (Sep.stars ((A++restart e::C).map zA5)) ?_;refine uL s ?_;refine yN f ?_;refine zBz (fun x hx=>?_) (hst A e C rfl he hA hc htr);rcases zgP.1 hx with hx|hx
   ·exact hok x (zhF _ hx)
   ·rcases zgS.1 hx with rfl|hx
    ·exact⟨(hok e (by simp)).1,fun o ho=>by cases ho⟩
    ·exact hok x (zg3 _ (zgI _ hx))
  ·rw[show decide (e.tag.tr<2)=false by simpa using htr];refine s_f ?_
   repeat refine zT ?_
   refine s_t ?_
   repeat refine zT ?_
   refine zA (Δ:=blk e.b (.cells (zG1 e).toArray xC (0,0))::txO e.tx::zHr e.tag e.ord::Sep.stars ((A++C).map zA5)::blk r8 (.cells [.int .i64 141,Sl.val ⟨none,0,0⟩].toArray qR (0,0))::blk f (.cells (frL nd ep rg ct s).toArray xK (0,0))::SlC qM 1 s (((A++e::C).map zBd).map Value.pointer)::blk t4 (.cells [.int .i64 0,.int .u64 0,.int .u64 0,.int .i64 0,Sl.val ⟨none,0,0⟩].toArray uU (0,0))::Γ) ?_;refine zFa ?_;refine zAb ?_;exact zA (S1 141 ⟨none,0,0⟩ [] (fun h=>htr h.2) (by rw[if_pos hc]) (fun _=>⟨rfl,rfl⟩) (fun h=>absurd hc h))
 ·have hc:¬code=112:=by simpa using hb
  unfold yI.s3;refine s_f ?_
  repeat refine zT ?_
  refine s_f ?_ (by simpa using hc);exact zA (S1 code os O (fun h=>hc h.1) (by rw[if_neg hc]) (fun h=>absurd h hc) (fun _=>⟨rfl,rfl⟩))
end
end
section
open Go Go.Sep Go.Sep.Bt
abbrev idF(g:zx):List Value:=[.int .i64 g.node,.int .u64 g.epoch,.int .u64 g.seq]
abbrev idK:List Ck:=[.int .i64,.int .u64,.int .u64]
theorem zao{B:World}{Γ:List zB}{α:Type}(f:α→List Value){esz m:Nat}{L:List α}{s:Sl}{j:Nat}{jj:Int}{x:α}{k:Array Value→K}{us:List Value}(hf:∀x,(f x).length=esz)(hm:m≤esz)(he:0<esz)(hr:∀w,Holds B Γ w→RdC w s esz (L.flatMap f))(hx:L[j]?=some x)(h:HG B Γ (k us.toArray))(hu:(f x).take m=us:=by rfl)(hj:jj=(j:Int):=by first|rfl|omega):
  HG B Γ (Idx s jj esz fun t=>LdN t m k) :=
 uY f hf he hr hx (fun t ht w hw=>⟨us.toArray,by rw[←hu];simp[hf];omega,fun i hi=>by
  have hl:us.length=min m esz:=by rw[←hu,zgR,hf]
  simp only[zg7] at hi;have:=ht w (hr w hw) i (by simp only[zg7,hf];omega);rw[this];have e:(f x)[i]?=us[i]?:=by rw[←hu,zhY,if_pos (by omega)]
  simpa using e,h w hw⟩) hj
theorem zY3{α β:Type}{R:α→β→Prop}{a:α}{l:List β}(h:F2 R [a] l):∃b,l=[b]∧R a b:=by
 cases h with
 | cons h1 h2=>
  cases h2
  exact⟨_,rfl,h1⟩
section
variable{B:World}{Γ Δ:List zB}
theorem zY4{q:Bool→K}(h:HG B Γ (q true)):HG B Γ (yY.call q):=fun w hw=>by
 refine zLl _ _ ?_;refine hg hw ?_;clear hw w;unfold yY;refine zLS fun f=>?_;refine zSB (n:=1) (by omega) (by omega) fun sd st sv=>?_;refine s_f ?_;unfold yY.s1;refine s_f ?_;refine zD fun t23=>?_;refine yN f ?_;have hrt:∀s,qC 1 ⟨1,[],[[97]],[],0,⟨none,0,0⟩,s,⟨none,0,0⟩⟩=true:=fun s=>by
  unfold qC;rw[if_neg (by simp[zAt]),if_neg (by simp[zGQ]),if_neg (by simp),if_neg (by simp)];rfl
 refine zWN (t:=⟨1,[],[[97]],[],0,⟨none,0,0⟩,⟨some ⟨t23,0,none⟩,1,1⟩,⟨none,0,0⟩⟩) (fun w hw=>⟨RdC.none',?_,RdC.none',by simp⟩) (by simp) (by omega) (fun hb=>?_) (fun hb=>by simp at hb) fun _ _ b t' ht'=>?_
 ·exact RdC.zGF (E:=yO) (b:=t23) (vs:=[qE [97]]) (cs:=#[qE [97]]) hw (by simp) rfl rfl 1
 ·rw[hrt] at hb;cases hb
 refine zD fun id4=>?_
 repeat refine zT ?_
 refine s_f ?_ (by simp);refine yC (b:=id4) (l':=[.int .i64 2,.int .u64 7,.int .u64 (0+1)]) ?_;refine zMe (xs:=[.int .i64 2,.int .u64 7,.int .u64 (0+1)]) (ys:=[.int .i64 2,.int .u64 7,.int .u64 1]) (ks:=idK) (p:=True) (by simp) ?_;unfold yY.s2;refine s_f ?_ (by simp);refine zA (Δ:=qI f 2 7 1 (0+1) ([]++[⟨b,⟨2,7,0+1,0⟩,t',none⟩])::zGX sd st sv::yM st 1 []::Γ) ?_;refine qH (α:=Int) (ι:=Nat×List jW) (fun x i=>x=(i.1:Int)∧i.1≤3∧(i.1<3→∃e,i.2=[e]∧e.tag=⟨2,7,1,(i.1:Int)⟩)∧(i.1=3→i.2=[])) (fun x i=>qI f 2 7 1 (0+1) i.2::zGX sd st sv::yM st 1 []::Γ) (fun x i=>3-i.1) (0,[⟨b,⟨2,7,0+1,0⟩,t',none⟩]) ⟨rfl,by simp,fun _=>⟨_,rfl,by simp⟩,fun h0=>by simp at h0⟩ ?_;rintro k' _ ⟨i,E⟩ ⟨rfl,hi,hE1,hE3⟩ hk';simp only at hi hE1 hE3 hk' ⊢;unfold yY.b3;refine zF (fun hb=>?_) fun hb=>?_;rotate_left
 ·have hi3:i=3:=by simp only[zgF] at hb;omega
  rw[hE3 hi3];refine zU4 (by simp) fun s hs=>?_;rw[show decide ((s.n:Int)=0)=true by simp;simpa using hs];exact zA h
 have hi3:i<3:=by simp only[zgH] at hb;omega
 obtain⟨e,rfl,het⟩:=hE1 hi3;refine zOv (by simp) fun E' out X hT hX=>?_;obtain⟨e',rfl,hT1⟩:=zY3 hT;obtain⟨x,rfl,hX1⟩:=zY3 hX;obtain⟨t1,t2,t3,o,t4,t5,t6,t7⟩:=hT1;obtain⟨x1,x2,x3⟩:=hX1;refine yw out fun a1 a2 a3 a4=>?_;rw[zH _ 10 zDB] at a1;simp only[zgO,zgl] at a1;have hon:out.n=1:=by omega
 have hxt:x.1=⟨2,7,1,(i:Int)⟩:=by rw[x1,t2,het]
 have het':e'.tag=⟨2,7,1,(i:Int)⟩:=by rw[t2,het]
 refine s_f ?_ (by simp;omega);refine zCU zCq (off:=3) (L:=[x]) (j:=0) (c:=Value.int .i64) (x:=x) (v:=x.1.tr) zDB (fun w hw=>(zO (s:=out) hw).1) rfl rfl ?_;rw[hxt];unfold yY.s4;refine s_f ?_ (by simp);refine zao zCq (m:=4) (L:=[x]) (j:=0) (x:=x) (us:=zQ x.1) zDB (by omega) (by omega) (fun w hw=>(zO (s:=out) hw).1) rfl ?_;rw[hxt]
 repeat refine zT ?_
 refine yN f ?_;have htry:zAu ⟨2,7,1,(i:Int)⟩ e'=true:=by unfold zAu;rw[het',t4];simp
 refine zOy (g:=⟨2,7,1,(i:Int)⟩) (code:=112) (os:=⟨none,0,0⟩) (O:=[]) (by simp) (by simp) (fun w hw=>RdC.none') (by simp) (by simp) (fun y hy=>?_) (fun hno=>?_) (fun A y C hA hy _ _ htr=>?_) fun A y C hA hy _ hno os' O' _ _=>?_
 ·rw[zgM.1 hy,het'];simp only;omega
 ·have:=hno e' (by simp);rw[htry] at this;cases this
 ·have hAe:A=[]∧y=e'∧C=[]:=by
   cases A with
   | nil=>simp at hA;exact⟨rfl,hA.1.symm,hA.2⟩
   | cons a A=>simp at hA
  obtain⟨rfl,rfl,rfl⟩:=hAe;rw[het'] at htr;simp only at htr;refine zD fun r8=>?_;refine yX (b:=r8) (l':=[.int .i64 0,.int .u64 0,.int .u64 0,.int .i64 0,Sl.val ⟨none,0,0⟩]) ?_;refine s_f ?_ (by simp;omega)
  repeat refine zT ?_
  unfold yY.s5
  repeat refine zT ?_
  refine qJ ?_;have hfin:=hk' ((i:Int)+1) (i+1,[restart y]) ⟨by simp,hi3,fun _=>⟨_,rfl,by simp[restart,het']⟩,fun h3=>by omega⟩ (by simp only;omega);rw[zg6];exact zA hfin
 ·have hAe:A=[]∧y=e'∧C=[]:=by
   cases A with
   | nil=>simp at hA;exact⟨rfl,hA.1.symm,hA.2⟩
   | cons a A=>simp at hA
  obtain⟨rfl,rfl,rfl⟩:=hAe;rw[het'] at hno;simp only[true_and] at hno;have hi2:i=2:=by omega
  subst hi2;refine zD fun r8=>?_;refine yX (b:=r8) (l':=zCI y.tag 141 os') ?_;refine s_f ?_ (by simp)
  repeat refine zT ?_
  unfold yY.s5;refine s_f ?_ (by simp);refine qJ ?_;have hfin:=hk' (((2:Nat):Int)+1) (3,[]) ⟨by simp,by simp,fun h3=>by simp at h3,fun _=>rfl⟩ (by simp);rw[zg6];exact zA hfin
end
end
section
open Go Go.Sep Go.Sep.Bt
section
variable{B:World}{Γ Δ:List zB}
end
end
section
open Go Go.Sep Go.Sep.Bt
theorem zSE{α β:Type}{R:α→β→Prop}{l:List α}{m:List β}(h:F2 R l m):∀{j:Nat} {a:α},l[j]?=some a→∃b,m[j]?=some b∧R a b:=by
 induction h with
 | nil=>intro j a h;simp at h
 | cons h1 _ ih=>
  intro j a ha;cases j with
  | zero=>simp at ha;subst ha;exact⟨_,rfl,h1⟩
  | succ j=>simpa using ih (by simpa using ha)
section
variable{B:World}{Γ Δ:List zB}{q:Bool→K}{f sd n T:Nat}{S:zCg}{nd ep rg ct:Int}{E:List jW}
theorem zTf{Q:Sl→K}(hE:E.length≤64)
  (h:∀E' out X,F2 (Told n S.M) E E'→F2 zOu E' X→HG B (SlC zU 10 out (X.flatMap zCq)::Sep.stars (X.map zG2)::qI f nd ep rg ct E'::zCh sd n T S::Γ) (Q out)) :
  HG B (qI f nd ep rg ct E::zCh sd n T S::Γ) (yF.call (some ⟨f,0,none⟩) (some ⟨sd,0,none⟩) Q):=by
 refine zGG ?_;refine zRp fun st l a b c F J ho=>?_;show HG B (zGX sd st ⟨some ⟨l,0,none⟩,a,b,c⟩::vL l S.G.1 S.G.2::yM st n S.M::SlC uw 1 c ((J.map zD4).map Value.pointer)::Sep.stars (J.map zGU)::SlC xD 1 a ((F.map zIc).map Value.pointer)::Sep.stars (F.map (zGV T))::SlI b S.fed::qI f nd ep rg ct E::Γ) _;refine zA (Δ:=qI f nd ep rg ct E::zGX sd st ⟨some ⟨l,0,none⟩,a,b,c⟩::yM st n S.M::vL l S.G.1 S.G.2::SlC uw 1 c ((J.map zD4).map Value.pointer)::Sep.stars (J.map zGU)::SlC xD 1 a ((F.map zIc).map Value.pointer)::Sep.stars (F.map (zGV T))::SlI b S.fed::Γ) ?_;refine zOv hE fun E' out X hT hX=>?_;refine zA (Δ:=zGX sd st ⟨some ⟨l,0,none⟩,a,b,c⟩::vL l S.G.1 S.G.2::yM st n S.M::SlC uw 1 c ((J.map zD4).map Value.pointer)::Sep.stars (J.map zGU)::SlC xD 1 a ((F.map zIc).map Value.pointer)::Sep.stars (F.map (zGV T))::SlI b S.fed::SlC zU 10 out (X.flatMap zCq)::Sep.stars (X.map zG2)::qI f nd ep rg ct E'::Γ) ?_;show HG B (zFQ sd st l n T S a b c F J (SlC zU 10 out (X.flatMap zCq)::Sep.stars (X.map zG2)::qI f nd ep rg ct E'::Γ)) _;refine zFX ho ?_;exact zA (h E' out X hT hX)
theorem zY5{k:K}(h:(∀e∈E,zGA rg e)→HG B (qI f nd ep rg ct E::Γ) k):HG B (qI f nd ep rg ct E::Γ) k:=zGY fun s hok=>zBz hok (h hok)
theorem zY6{k:K}(h:(∀x∈S.M,x.2.ok)→HG B (zCh sd n T S::Γ) k):HG B (zCh sd n T S::Γ) k:=zRp fun st l a b c F J ho=>by
 refine yN st ?_;refine zVr fun hok=>?_;refine uL b ?_;refine qc (Sep.stars (F.map (zGV T))) ?_;refine uL a ?_;refine qc (Sep.stars (J.map zGU)) ?_;refine uL c ?_;refine yN st ?_;refine yN l ?_;refine yN sd ?_;exact zFX ho (h hok)
theorem zY7{M:zo}(h:∀x∈M,x.2.ok)(k:ByteArray):0≤(yt n M k).cnt∧(yt n M k).cnt<18446744073709551616:=by
 unfold yt;cases hg:getM M k with
 | none=>simp
 | some r=>
  have:=h _ (zMb hg);simp only[zhP];obtain⟨h1,h2,_⟩:=this;simp only at h1 h2;omega
theorem zc8{X:List zEk}{x:zEk}{w:World}(hx:x∈X)(hw:Holds B (Sep.stars (X.map zG2)::Γ) w):zAn w x.2.t∧RdC w x.2.ms 3 (x.2.mks.flatMap mkL):=by
 obtain⟨Δ,hd⟩:=zEP (F:=zG2) hx hw;have h1:Holds B (SlC zi 3 x.2.ms (x.2.mks.flatMap mkL)::txC x.2.t Δ) w:=(Holds.flat (Δ:=SlC zi 3 x.2.ms (x.2.mks.flatMap mkL)::txC x.2.t [])).1 hd;exact⟨zKr h1.tail,(zO (s:=x.2.ms) h1).1⟩
end
end
section
open Go Go.Sep Go.Sep.Bt
section
variable{B:World}{Γ Δ:List zB}{k:K}{st sd n:Nat}{M:zo}{P:Pool}
theorem zTg{t:TxX}{Q:Sl→K}(hr:∀w,Holds B Γ w→zAn w t)(hl:t.reads.length≤1000∧t.writes.length≤1000)(hk:∀x∈t.reads++t.writes,x.length≤1000)(hM:M.length<100000000)
  (h:∀s,HG B (SlC zi 3 s ((zBB n M (vX (t.reads++t.writes))).flatMap mkL)::jC sd n M P::Γ) (Q s)):HG B (jC sd n M P::Γ) (zA6.call (some ⟨sd,0,none⟩) (txL t).toArray Q):=fun w hw=>by
 refine zM7 _ _ _ _ ?_;refine Sep.hg hw ?_;clear hw w;have hks:∀x∈vX (t.reads++t.writes),x.length≤1000:=fun x hx=>hk x (zDW.1 hx);have hkl:=zDX (t.reads++t.writes);rw[zgK] at hkl;unfold zA6;refine zD fun t3=>?_;refine zD fun t9=>?_
 repeat refine zT ?_
 refine zKl (fun w hw=>(hr w hw.drops).1) (fun w hw=>(hr w hw.drops).2.1) (by omega) (by omega) fun ks=>?_;generalize vX (t.reads++t.writes)=K at hks hkl h ⊢;refine yN t9 ?_;refine zBg (A':=SlC zi 3 ⟨some ⟨t9,0,none⟩,0,0⟩ (([]:List MkX).flatMap mkL)) (zAq (vs:=[]) rfl (by simp)) ?_;refine yw ks fun a1 a2 a3 a4=>?_;rw[zgL,zgs] at a1;refine zA (Δ:=SlC zi 3 ⟨some ⟨t9,0,none⟩,0,0⟩ (([]:List MkX).flatMap mkL)::SlS ks K::jC sd n M P::Γ) ?_;refine qH (α:=Sl×Int) (ι:=Nat) (fun x i=>x.2=(i:Int)∧i≤K.length) (fun x i=>SlC zi 3 x.1 ((zBB n M (K.take i)).flatMap mkL)::SlS ks K::jC sd n M P::Γ) (fun x i=>K.length-i) 0 ⟨rfl,zgW _⟩ ?_;rintro k' ⟨o,_⟩ i ⟨rfl,hi⟩ hk';simp only at hi hk' ⊢;refine yw o fun b1 b2 b3 b4=>?_;rw[zH _ 3 jB,zBB,zgL,zgR] at b1;unfold zA6.b1;refine zF (fun hb=>?_) fun hb=>?_
 ·have hil:i<K.length:=by simp only[zgH] at hb;omega
  have hge:K[i]?=some K[i]:=zgG hil;have hmem:K[i]∈K:=zgX hil;have htk:K.take (i+1)=K.take i++[K[i]]:=zgJ hil;generalize K[i]=x at hge hmem htk;have hxl:=hks x hmem;have hsz:(bs x).size=x.length:=rfl;refine u7 (L:=K) (fun w hw=>(zO (s:=ks) hw).1) hge ?_;refine yN sd ?_;refine zKB (by omega) hM fun sl hok hv=>?_;refine zD fun r7=>?_;refine yX (b:=r7) (l':=zDn (yt n M (bs x)) sl) ?_
  repeat refine zT ?_
  refine u7 (L:=K) (fun w hw=>(zO (s:=ks) hw).1) hge ?_
  repeat refine zT ?_
  refine zDI (s:=o) (m:=1) (us:=[.string (bs x),.int .i64 (yt n M (bs x)).home,.int .u64 (yt n M (bs x)).cnt]) (fun o2 ho2=>?_);refine qJ ?_;rw[show(zBB n M (K.take i)).flatMap mkL++[.string (bs x),.int .i64 (yt n M (bs x)).home,.int .u64 (yt n M (bs x)).cnt]=(zBB n M (K.take (i+1))).flatMap mkL by rw[htk];simp[zBB]];exact zA (hk' (o2,(i:Int)+1) (i+1) ⟨by simp,hil⟩ (by omega))
 ·have hil:i=K.length:=by simp only[zgF] at hb;omega
  rw[hil,zgQ];exact zA (h o)
end
end
section
open Go Go.Sep Go.Sep.Bt
structure DEn where
 tag:zx
 tx:TxX
 o:OrG
 told:Bool
abbrev deF(d:DEn):List Value:=zQ d.tag++(txL d.tx++(zDA d.o++[.bool d.told]))
theorem jk(d:DEn):(deF d).length=20:=rfl
abbrev dfL(nd ct:Int)(s:Sl):List Value:=[.int .i64 nd,.int .i64 2,.int .u64 3,.int .u64 ct,s.val]
abbrev dfB(m:Nat)(nd ct:Int)(s:Sl)(D:List DEn)(Γ:List zB):List zB:=blk m (.cells (dfL nd ct s).toArray zAf (0,0))::SlC zBY 20 s (D.flatMap deF)::Γ
def zBQ(g:zx)(d:DEn):Bool:=decide (d.tag=g)&&d.told
def zHt(d:DEn):DEn:=⟨⟨d.tag.node,d.tag.epoch,d.tag.seq,d.tag.tr+1⟩,d.tx,d.o,false⟩
abbrev zDZ:=List (Sl×List MkX)
abbrev zCw(L:zDZ):zB:=Sep.stars (L.map fun p=>SlC zi 3 p.1 (p.2.flatMap mkL))
def zLT(n:Nat)(M:zo)(L:zDZ)(d d':DEn):Prop:=(d.told=true∧d'=d)∨(d.told=false∧∃ms,d'=⟨d.tag,d.tx,⟨d.tag,d.tx,ms,zBB n M (vX (d.tx.reads++d.tx.writes))⟩,true⟩∧(ms,zBB n M (vX (d.tx.reads++d.tx.writes)))∈L)
theorem zLT.mono{n:Nat}{M:zo}{L L':zDZ}{d d':DEn}(h:zLT n M L d d')(hL:∀p∈L,p∈L'):zLT n M L' d d':=h.imp id fun⟨h1,ms,h2,h3⟩=>⟨h1,ms,h2,hL _ h3⟩
theorem zU8{α β:Type}{R S:α→β→Prop}{l:List α}{m:List β}(h:F2 R l m)(hRS:∀a b,R a b→S a b):F2 S l m:=by
 induction h with
 | nil=>exact .nil
 | cons h1 _ ih=>exact .cons (hRS _ _ h1) ih
theorem zaq{α:Type}{f:α→List Value}{e:Nat}(hf:∀x,(f x).length=e)(A C:List α)(x y:α){o:Nat}{us:List Value}(ho:o+us.length≤e)(h:(f x).take o++us++(f x).drop (o+us.length)=f y):zDl ((A++x::C).flatMap f) (A.length*e+o) us=(A++y::C).flatMap f:=by
 have hl:=zH f e hf A;have hx:=hf x;have hxs:f x=(f x).take o++(((f x).drop o).take us.length++(f x).drop (o+us.length)):=by
  rw[←zgo,zgz,zgz]
 rw[zge,zgi,zge,zgi,←h];have e2:A.flatMap f++(f x++C.flatMap f)=(A.flatMap f++(f x).take o)++(((f x).drop o).take us.length++((f x).drop (o+us.length)++C.flatMap f)):=by
  conv=>lhs;rw[hxs]
  simp
 rw[e2,zEE]
 ·simp
 ·rw[zgK,hl,zgR];omega
 ·rw[zgR,zhB];omega
section
variable{B:World}{Γ Δ:List zB}{k:K}{m n st:Nat}{nd ct:Int}{s:Sl}{D:List DEn}{g:zx}{M:zo}{P:Pool}{L:zDZ}
theorem zWP(h:s.n=D.length→s.n≤s.c→(∀a,s.a=some a→a.spot=none)→HG B (dfB m nd ct s D Γ) k):HG B (dfB m nd ct s D Γ) k:=by
 refine uL s ?_;refine yw s fun a1 a2 a3 a4=>?_;rw[zH deF 20 jk] at a1;refine zA (Δ:=dfB m nd ct s D Γ) ?_;exact h (zgb (by omega) a1).symm a2 a3
theorem zNb(L:List DEn):∀u∈L.flatMap deF,qD u=true:=fun u hu=>by
 obtain⟨y,_,hy⟩:=zhS.1 hu;have:(deF y).all qD=true:=rfl;exact zg2.1 this u hy
theorem zOz{Q:Int→K}(hD:D.length≤1000)(hno:(∀d∈D,zBQ g d=false)→HG B (dfB m nd ct s D Γ) (Q (-1)))(hyes:∀A d C,D=A++d::C→zBQ g d=true→(∀y∈A,zBQ g y=false)→HG B (dfB m nd ct s D Γ) (Q (A.length:Int))):
  HG B (dfB m nd ct s D Γ) (ql.call (some ⟨m,0,none⟩) (zQ g).toArray Q):=by
 refine fun w hw=>zIk _ _ _ _ ?_;refine hg hw ?_;clear hw w;refine zWP fun c1 c2 c3=>?_;unfold ql;refine zD fun t3=>?_;have key:∀{Ψ:List zB} {q:K},[Drops Ψ (dfB m nd ct s D Γ)]→HG B (dfB m nd ct s D Γ) q→HG B Ψ q:=fun {Ψ q} _ h=>zA h;refine qH (α:=Int) (ι:=Nat) (fun x i=>x=(i:Int)∧i≤D.length∧∀y∈D.take i,zBQ g y=false) (fun x i=>blk t3 (.cells (zQ g).toArray zN (0,0))::dfB m nd ct s D Γ) (fun x i=>D.length-i) 0 ⟨rfl,zgW _,by simp⟩ ?_;rintro k' _ i ⟨rfl,hi,hn⟩ hk';unfold ql.b1;refine uf ?_;refine zh (b:=m) (off:=4) (l:=dfL nd ct s) (x:=s) ?_;refine zF (fun hb=>?_) fun hb=>?_;rotate_left
 ·have hil:i=D.length:=by simp only[zgF] at hb;omega
  rw[hil,zgQ] at hn;exact key (hno hn)
 have hil:i<D.length:=by simp only[zgH] at hb;omega
 have hge:D[i]?=some D[i]:=zgG hil;have htk:D.take (i+1)=D.take i++[D[i]]:=zgJ hil;have hsp:D=D.take i++D[i]::D.drop (i+1):=by
  have:=(zgz i D).symm;rwa[zgj hil] at this
 generalize D[i]=d at hge htk hsp;have S2:∀b,zBQ g d=b→HG B (blk t3 (.cells (zQ g).toArray zN (0,0))::dfB m nd ct s D Γ) (ql.s2 Q k' ⟨m,0,none⟩ ⟨t3,0,none⟩ (i:Int) b):=fun b hb=>by
  unfold ql.s2;cases b
  ·refine s_f ?_ (by rfl);refine qJ ?_;refine hk' _ (i+1) ⟨by simp,hil,fun y hy=>?_⟩ (by omega);rw[htk] at hy;rcases zgP.1 hy with hy|hy
   ·exact hn y hy
   ·simp only[zgM] at hy;subst hy;exact hb
  ·refine s_t ?_ (by rfl);have:=hyes _ d _ hsp hb hn;rw[zgR,zh6 (by omega)] at this;exact key this
 refine xg ?_;refine zh (b:=m) (off:=4) (l:=dfL nd ct s) (x:=s) ?_;refine uY deF jk (by omega) (fun w hw=>(zO (s:=s) hw).1) hge fun t ht=>?_;refine zBc (cs:=deF d) (us:=zQ d.tag) (fun w hw=>ht w (zO (s:=s) hw).1) (by rw[jk];omega) ?_;refine yC (b:=t3) (l:=zQ g) (l':=zQ g) ?_;refine zHQ (xs:=zQ d.tag) (ys:=zQ g) (ks:=zJ2) zBw ?_;refine zF (fun h5=>?_) fun h5=>S2 false (by unfold zBQ;rw[h5];rfl);refine zh (b:=m) (off:=4) (l:=dfL nd ct s) (x:=s) ?_;refine zCU deF (off:=19) (c:=Value.bool) (v:=d.told) jk (fun w hw=>(zO (s:=s) hw).1) hge rfl ?_;exact S2 d.told (by unfold zBQ;rw[h5];rfl)
theorem zO0{A C:List DEn}{d:DEn}(hD:(A++d::C).length≤1000)(h:∀s',HG B (dfB m nd ct s' (A++C) Γ) k):HG B (dfB m nd ct s (A++d::C) Γ) (zAQ.call (some ⟨m,0,none⟩) (A.length:Int) k):=by
 refine fun w hw=>zIl _ _ _ _ ?_;refine hg hw ?_;clear hw w;refine zWP fun c1 c2 c3=>?_;have hlen:(A++d::C).length=A.length+(C.length+1):=by simp
 unfold zAQ;refine xg ?_;refine zBl [blk m (.cells (dfL nd ct s).toArray zAf (0,0))] ?_;refine uf ?_;refine qJ ?_;refine jK (b:=m) (off:=4) (l:=dfL nd ct s) (x:=s) ?_;refine zAl (s:=s) (lo:=0) (hi:=A.length) (mx:=s.c) ?_;rw[zKZ c3];refine jK (b:=m) (off:=4) (l:=dfL nd ct s) (x:=s) ?_;refine zAl (s:=s) (lo:=A.length+1) (hi:=s.n) (mx:=s.c) ?_;refine zD fun t5=>?_;refine vS ?_;refine zCi (esz:=20) ?_;refine qp (s:=⟨some ⟨t5,0,none⟩,0,0⟩) (esz:=20) (us:=A.flatMap deF) (fun w hw=>?_) (zNb A) (by simp only;omega) fun j2 hj2=>?_
 ·have h1:=((zO (s:=s) hw).1).take (m:=A.length) (c:=s.c-0) (by omega);rw[zFI jk,zhU] at h1;exact h1
 refine vS ?_;refine qp (s:=j2) (esz:=20) (us:=C.flatMap deF) (fun w hw=>?_) (zNb C) (by simp only at hj2 ⊢;omega) fun j3 hj3=>?_
 ·have h1:=((zO (s:=s) hw).1).drop (l:=A.length+1) (by omega) c2 c3;have e:((A++d::C).flatMap deF).drop ((A.length+1)*20)=C.flatMap deF:=by
   rw[show A++d::C=(A++[d])++C by simp,zge];exact zhi (by rw[zH deF 20 jk];simp)
  rw[e] at h1;exact h1
 rw[show[]++A.flatMap deF++C.flatMap deF=(A++C).flatMap deF by simp];refine zCN (b:=m) (off:=4) (l:=dfL nd ct s) (l':=dfL nd ct j3) ?_ rfl rfl;exact zA (h j3)
theorem zO1{Q:Array Value→Bool→K}(hD:D.length≤1000)(hno:(∀d∈D,zBQ g d=false)→HG B (dfB m nd ct s D Γ) (Q zOw false))
  (hyes:∀A d C,D=A++d::C→zBQ g d=true→(∀y∈A,zBQ g y=false)→∀s',HG B (dfB m nd ct s' (A++C) Γ) (Q (zCI d.tag 140 ⟨none,0,0⟩).toArray true)) :
  HG B (dfB m nd ct s D Γ) (zBD.call (some ⟨m,0,none⟩) (zQ g).toArray Q):=by
 refine fun w hw=>zIj _ _ _ _ ?_;refine hg hw ?_;clear hw w;unfold zBD;refine zD fun t3=>?_;refine zD fun t4=>?_;refine yC (b:=t3) (l:=zQ g) (l':=zQ g) ?_;refine zCo (zOz (m:=m) (nd:=nd) (ct:=ct) (s:=s) (D:=D) hD (fun hn=>?_) fun A d C hE hd hA=>?_)
 ·refine s_t ?_ (by rfl);refine yX (b:=t4) (l':=[.int .i64 0,.int .u64 0,.int .u64 0,.int .i64 0,Sl.val ⟨none,0,0⟩]) ?_;refine yC (b:=t4) (l:=[.int .i64 0,.int .u64 0,.int .u64 0,.int .i64 0,Sl.val ⟨none,0,0⟩]) (l':=[.int .i64 0,.int .u64 0,.int .u64 0,.int .i64 0,Sl.val ⟨none,0,0⟩]) ?_;exact zA (hno hn)
 ·subst hE;refine s_f ?_ (by simp);refine uf ?_;refine zh (b:=m) (off:=4) (l:=dfL nd ct s) (x:=s) ?_;refine uY deF jk (by omega) (fun w hw=>(zO (s:=s) hw).1) (by simp:(A++d::C)[A.length]?=some d) fun t ht=>?_;refine zBc (cs:=deF d) (us:=[.int .i64 d.tag.node,.int .u64 d.tag.epoch,.int .u64 d.tag.seq]) (fun w hw=>ht w (zO (s:=s) hw).1) (by rw[jk];omega) ?_;refine zD fun id7=>?_;refine yX (b:=id7) (l':=[.int .i64 d.tag.node,.int .u64 d.tag.epoch,.int .u64 d.tag.seq]) ?_;refine zCo (zO0 (m:=m) (nd:=nd) (ct:=ct) (s:=s) hD fun s'=>?_);refine yC (b:=id7) (l:=[.int .i64 d.tag.node,.int .u64 d.tag.epoch,.int .u64 d.tag.seq]) (l':=[.int .i64 d.tag.node,.int .u64 d.tag.epoch,.int .u64 d.tag.seq]) ?_;refine zCv (cs:=zCI d.tag 140 ⟨none,0,0⟩) ?_;refine yX (b:=t4) (l':=zCI d.tag 140 ⟨none,0,0⟩) ?_;refine yC (b:=t4) (l:=zCI d.tag 140 ⟨none,0,0⟩) (l':=zCI d.tag 140 ⟨none,0,0⟩) ?_;exact zA (hyes A d C rfl hd hA s')
theorem zHu{code:Int}{os:Sl}{Q:Array Value→Bool→K}(hD:D.length≤1000)(htr:∀d∈D,0≤d.tag.tr∧d.tag.tr≤2)(hno:(∀d∈D,zBQ g d=false)→HG B (dfB m nd ct s D Γ) (Q zOw false))
  (hst:∀A d C,D=A++d::C→zBQ g d=true→(∀y∈A,zBQ g y=false)→code=112→d.tag.tr<2→HG B (dfB m nd ct s (A++zHt d::C) Γ) (Q zOw false))
  (hyes:∀A d C,D=A++d::C→zBQ g d=true→(∀y∈A,zBQ g y=false)→¬(code=112∧d.tag.tr<2)→∀s',HG B (dfB m nd ct s' (A++C) Γ) (Q (zCI d.tag (if code=112 then 141 else code) (if code=112 then⟨none,0,0⟩ else os)).toArray true)) :
  HG B (dfB m nd ct s D Γ) (xE.call (some ⟨m,0,none⟩) (zNa g code os).toArray Q):=by
 refine fun w hw=>zGy _ _ _ _ ?_;refine hg hw ?_;clear hw w;unfold xE;refine zD fun d3=>?_;refine zD fun t4=>?_;refine yC (b:=d3) (l:=zNa g code os) (l':=zQ g) ?_;refine zCo (zOz (m:=m) (nd:=nd) (ct:=ct) (s:=s) (D:=D) hD (fun hn=>?_) fun A d C hE hd hA=>?_)
 ·refine s_t ?_ (by rfl);refine yX (b:=t4) (l':=[.int .i64 0,.int .u64 0,.int .u64 0,.int .i64 0,Sl.val ⟨none,0,0⟩]) ?_;refine yC (b:=t4) (l:=[.int .i64 0,.int .u64 0,.int .u64 0,.int .i64 0,Sl.val ⟨none,0,0⟩]) (l':=[.int .i64 0,.int .u64 0,.int .u64 0,.int .i64 0,Sl.val ⟨none,0,0⟩]) ?_;exact zA (hno hn)
 subst hE;have htd:=htr d (by simp);have hge:(A++d::C)[A.length]?=some d:=by simp
 have hlen:(A++d::C).length=A.length+(C.length+1):=by simp
 refine s_f ?_ (by simp);refine zWP fun c1 c2 c3=>?_;refine uf ?_;refine zh (b:=m) (off:=4) (l:=dfL nd ct s) (x:=s) ?_;refine uT deF jk (fun w hw=>(zO (s:=s) hw).1) hge ?_;refine zD fun e7=>?_;refine yX (b:=e7) (l':=deF d) ?_;refine zh (b:=d3) (off:=4) (l:=zNa g code os) (x:=code) ?_;have S1f:¬(code=112∧d.tag.tr<2)→HG B (blk e7 (.cells (deF d).toArray zBY (0,0))::dfB m nd ct s (A++d::C) (blk t4 (.cells [.int .i64 0,.int .u64 0,.int .u64 0,.int .i64 0,Sl.val ⟨none,0,0⟩].toArray uU (0,0))::blk d3 (.cells (zNa g code os).toArray zu (0,0))::Γ)) (xE.s1 Q ⟨m,0,none⟩ ⟨d3,0,none⟩ ⟨t4,0,none⟩ (A.length:Int) ⟨e7,0,none⟩ false):=fun hn=>by
  unfold xE.s1;refine s_f ?_ (by rfl);refine zCo (zO0 (m:=m) (nd:=nd) (ct:=ct) (s:=s) hD fun s'=>?_);refine zh (b:=d3) (off:=4) (l:=zNa g code os) (x:=code) ?_;have hh:=hyes A d C rfl hd hA hn s';refine zF (fun h1=>?_) fun h1=>?_
  ·have h1:code=112:=by simpa using h1
   rw[if_pos h1,if_pos h1] at hh;refine yC (b:=e7) (l:=deF d) (l':=[.int .i64 d.tag.node,.int .u64 d.tag.epoch,.int .u64 d.tag.seq]) ?_;refine zCv (cs:=zCI d.tag 141 ⟨none,0,0⟩) ?_;refine yX (b:=t4) (l':=zCI d.tag 141 ⟨none,0,0⟩) ?_;refine yC (b:=t4) (l:=zCI d.tag 141 ⟨none,0,0⟩) (l':=zCI d.tag 141 ⟨none,0,0⟩) ?_;exact zA hh
  ·have h1:code≠112:=by simpa using h1
   rw[if_neg h1,if_neg h1] at hh;refine yC (b:=e7) (l:=deF d) (l':=[.int .i64 d.tag.node,.int .u64 d.tag.epoch,.int .u64 d.tag.seq]) ?_;refine yC (b:=d3) (off:=4) (l:=zNa g code os) (l':=[.int .i64 code,os.val]) ?_;refine zCv (cs:=zCI d.tag code os) ?_;refine yX (b:=t4) (l':=zCI d.tag code os) ?_;refine yC (b:=t4) (l:=zCI d.tag code os) (l':=zCI d.tag code os) ?_;exact zA hh
 refine zF (fun h1=>?_) fun h1=>zA (S1f fun hh=>by simp[hh.1] at h1);have h1:code=112:=by simpa using h1
 refine zh (b:=e7) (off:=3) (l:=deF d) (x:=d.tag.tr) ?_;by_cases h2:d.tag.tr<2;rotate_left
 ·rw[zgU h2];exact zA (S1f fun hh=>h2 hh.2)
 rw[zga h2];unfold xE.s1;refine s_t ?_ (by rfl);refine zh (b:=m) (off:=4) (l:=dfL nd ct s) (x:=s) ?_;refine zCU deF (off:=3) (c:=Value.int .i64) (v:=d.tag.tr) jk (fun w hw=>(zO (s:=s) hw).1) hge rfl ?_;refine zAw (e':=d.tag.tr+1) (wrap64 (by omega) (by omega)) ?_;refine zBk (s:=s) (i:=A.length) ?_ (by rfl) (by omega);refine zFV (s:=s) (i:=A.length) (off:=3) ?_ (by rw[zH deF 20 jk];omega);rw[set_mid jk A C d ⟨⟨d.tag.node,d.tag.epoch,d.tag.seq,d.tag.tr+1⟩,d.tx,d.o,d.told⟩ (by omega) rfl];refine zh (b:=m) (off:=4) (l:=dfL nd ct s) (x:=s) ?_;refine zBk (s:=s) (i:=A.length) ?_ (by rfl) (by omega);refine zFV (s:=s) (i:=A.length) (off:=19) ?_ (by rw[zH deF 20 jk];simp only[zgK,zgO];omega);rw[set_mid jk A C ⟨⟨d.tag.node,d.tag.epoch,d.tag.seq,d.tag.tr+1⟩,d.tx,d.o,d.told⟩ (zHt d) (by omega) rfl];refine yX (b:=t4) (l':=[.int .i64 0,.int .u64 0,.int .u64 0,.int .i64 0,Sl.val ⟨none,0,0⟩]) ?_;refine yC (b:=t4) (l:=[.int .i64 0,.int .u64 0,.int .u64 0,.int .i64 0,Sl.val ⟨none,0,0⟩]) (l':=[.int .i64 0,.int .u64 0,.int .u64 0,.int .i64 0,Sl.val ⟨none,0,0⟩]) ?_;exact zA (hst A d C rfl hd hA h1 h2)
abbrev oZ:OrG:=⟨⟨0,0,0,0⟩,⟨0,[],[],[],0,⟨none,0,0⟩,⟨none,0,0⟩,⟨none,0,0⟩⟩,⟨none,0,0⟩,[]⟩
abbrev deZ:List Value:=[.int .i64 0,.int .u64 0,.int .u64 0,.int .i64 0,.int .i64 0,Sl.val ⟨none,0,0⟩,Sl.val ⟨none,0,0⟩,Sl.val ⟨none,0,0⟩,.int .i64 0,.int .i64 0,.int .u64 0,.int .u64 0,.int .i64 0,.int .i64 0,Sl.val ⟨none,0,0⟩,Sl.val ⟨none,0,0⟩,Sl.val ⟨none,0,0⟩,.int .i64 0,Sl.val ⟨none,0,0⟩,.bool false]
theorem zHv{t:TxX}{Q:Array Value→Int→K}(hr:∀w,Holds B Γ w→zAn w t)(hl:t.reads.length<10000000∧t.writes.length<10000000∧t.ops.length<10000000)(hc:0≤ct∧ct≤1000000)(hD:D.length≤1000)
  (hbad:qC 2 t=false→HG B (dfB m nd ct s D Γ) (Q #[.int .i64 0,.int .u64 0,.int .u64 0] 1))
  (hfull:qC 2 t=true→64≤D.length→HG B (dfB m nd ct s D Γ) (Q #[.int .i64 0,.int .u64 0,.int .u64 0] 2))
  (hok:qC 2 t=true→D.length<64→∀s',HG B (dfB m nd (ct+1) s' (D++[⟨⟨nd,3,ct+1,0⟩,t,oZ,false⟩]) Γ) (Q #[.int .i64 nd,.int .u64 3,.int .u64 (ct+1)] 0)) :
  HG B (dfB m nd ct s D Γ) (xQ.call (some ⟨m,0,none⟩) (txL t).toArray Q):=by
 refine fun w hw=>zGz _ _ _ _ ?_;refine hg hw ?_;clear hw w;refine zWP fun c1 c2 c3=>?_;unfold xQ;refine zD fun t3=>?_;refine zD fun t4=>?_;refine xg ?_;refine uf ?_;refine yC (b:=t3) (l:=txL t) (l':=txL t) ?_;refine zh (b:=m) (off:=1) (l:=dfL nd ct s) (x:=2) ?_;refine zM0 (fun w hw=>hr w (hw.drops (Δ:=Γ))) hl ?_;cases hrt:qC 2 t with
 | false=>
  refine s_t ?_ (by rfl);refine yX (b:=t4) (l':=[.int .i64 0,.int .u64 0,.int .u64 0]) ?_;refine yC (b:=t4) (l:=[.int .i64 0,.int .u64 0,.int .u64 0]) (l':=[.int .i64 0,.int .u64 0,.int .u64 0]) ?_;exact zA (hbad hrt)
 | true=>
  refine s_f ?_ (by rfl);refine zh (b:=m) (off:=4) (l:=dfL nd ct s) (x:=s) ?_;refine zF (fun h1=>?_) fun h1=>?_
  ·have h1:64≤D.length:=by simp only[zgH] at h1;omega
   refine yX (b:=t4) (l':=[.int .i64 0,.int .u64 0,.int .u64 0]) ?_;refine yC (b:=t4) (l:=[.int .i64 0,.int .u64 0,.int .u64 0]) (l':=[.int .i64 0,.int .u64 0,.int .u64 0]) ?_;exact zA (hfull hrt h1)
  have h1:D.length<64:=by simp only[zgF] at h1;omega
  refine zh (b:=m) (off:=3) (l:=dfL nd ct s) (x:=ct) ?_;refine zAw (e':=ct+1) (zCk (by omega) (by omega)) ?_;refine zCN (b:=m) (off:=3) (l:=dfL nd ct s) (l':=dfL nd (ct+1) s) ?_;refine xg ?_;refine zBl [blk m (.cells (dfL nd (ct+1) s).toArray zAf (0,0))] ?_;refine jK (b:=m) (off:=0) (l:=dfL nd (ct+1) s) (x:=nd) ?_;refine jK (b:=m) (off:=2) (l:=dfL nd (ct+1) s) (x:=3) ?_;refine jK (b:=m) (off:=3) (l:=dfL nd (ct+1) s) (x:=ct+1) ?_;refine zD fun id6=>?_;refine vS ?_;refine yX (b:=id6) (l':=[.int .i64 nd,.int .u64 3,.int .u64 (ct+1)]) ?_;refine xg ?_;refine zBl [blk id6 (.cells [.int .i64 nd,.int .u64 3,.int .u64 (ct+1)].toArray zBq (0,0)),blk t3 (.cells (txL t).toArray zn (0,0)),blk m (.cells (dfL nd (ct+1) s).toArray zAf (0,0))] ?_;refine jK (b:=m) (off:=4) (l:=dfL nd (ct+1) s) (x:=s) ?_;refine jq (b:=id6) (l:=[.int .i64 nd,.int .u64 3,.int .u64 (ct+1)]) (l':=[.int .i64 nd,.int .u64 3,.int .u64 (ct+1)]) ?_;refine zCv (cs:=zQ ⟨nd,3,ct+1,0⟩) ?_;refine jq (b:=t3) (l:=txL t) (l':=txL t) ?_;refine zCv (cs:=deF ⟨⟨nd,3,ct+1,0⟩,t,oZ,false⟩) ?_ (by kernel_rfl);refine zJU (z:=deZ) (us:=deF ⟨⟨nd,3,ct+1,0⟩,t,oZ,false⟩) (vs:=D.flatMap deF) (fun w hw=>hw.drops) (fun w hw=>(zO (s:=s) hw).1) (zNb D) (by omega) fun s' hs'=>?_;rw[show D.flatMap deF++deF ⟨⟨nd,3,ct+1,0⟩,t,oZ,false⟩=(D++([⟨⟨nd,3,ct+1,0⟩,t,oZ,false⟩]:List DEn)).flatMap deF by rw[zge];rfl];refine zCN (b:=m) (off:=4) (l:=dfL nd (ct+1) s) (l':=dfL nd (ct+1) s') ?_ rfl rfl;unfold xQ.s1;refine yC (b:=id6) (l:=[.int .i64 nd,.int .u64 3,.int .u64 (ct+1)]) (l':=[.int .i64 nd,.int .u64 3,.int .u64 (ct+1)]) ?_;refine yX (b:=t4) (l':=[.int .i64 nd,.int .u64 3,.int .u64 (ct+1)]) ?_;refine yC (b:=t4) (l:=[.int .i64 nd,.int .u64 3,.int .u64 (ct+1)]) (l':=[.int .i64 nd,.int .u64 3,.int .u64 (ct+1)]) ?_;exact zA (hok hrt h1 s')
theorem zSF{Q:Sl→K}(hD:D.length≤64)(hrd:∀w,Holds B Γ w→∀d∈D,zAn w d.tx)(hrt:∀d∈D,qC 2 d.tx=true)(hM:M.length<100000000)
  (h:∀D' out L',F2 (zLT n M L') D D'→(∀p∈L,p∈L')→HG B (SlC zU 10 out (D'.flatMap fun d=>zDA d.o)::zCw L'::dfB m nd ct s D' (jC st n M P::Γ)) (Q out)) :
  HG B (zCw L::dfB m nd ct s D (jC st n M P::Γ)) (qN.call (some ⟨m,0,none⟩) (some ⟨st,0,none⟩) Q):=by
 refine fun w hw=>zGx _ _ _ _ ?_;refine hg hw ?_;clear hw w;unfold qN;refine zD fun t8=>?_;refine zCi (esz:=10) ?_;refine qH (α:=Sl×Int) (ι:=List DEn×List DEn×List DEn×zDZ) (fun x i=>D=i.1++i.2.2.1∧F2 (zLT n M i.2.2.2) i.1 i.2.1∧(∀p∈L,p∈i.2.2.2)∧x.2=(i.1.length:Int)) (fun x i=>SlC zU 10 x.1 (i.2.1.flatMap fun d=>zDA d.o)::zCw i.2.2.2::dfB m nd ct s (i.2.1++i.2.2.1) (jC st n M P::Γ)) (fun x i=>i.2.2.1.length) ([],[],D,L) ⟨rfl,.nil,fun _ h=>h,rfl⟩ ?_;rintro k' ⟨out,_⟩ ⟨A,A',C,L1⟩ ⟨hAC,hF,hL1,rfl⟩ hk';simp only at hAC hF hL1 hk' ⊢;have hAl:=zFM hF;have hlen:(A'++C).length=A.length+C.length:=by rw[zgK,←hAl]
 have hDl:D.length=A.length+C.length:=by rw[hAC,zgK]
 refine yN m ?_;refine uL s ?_;refine zA (Δ:=dfB m nd ct s (A'++C) (SlC zU 10 out (A'.flatMap fun d=>zDA d.o)::zCw L1::jC st n M P::Γ)) ?_;refine zWP fun c1 c2 c3=>?_;refine yw out fun o1 o2 o3 o4=>?_;rw[zH (fun d:DEn=>zDA d.o) 10 (fun _=>rfl)] at o1;have hon:out.n=A'.length:=(zgb (by omega) o1).symm;unfold qN.b1;refine uf ?_;refine zh (b:=m) (off:=4) (l:=dfL nd ct s) (x:=s) ?_;cases C with
 | nil=>
  refine s_f ?_ (by rw[c1,hlen];simp);rw[zgy] at hAC ⊢;subst hAC;exact zA (h A' out L1 hF hL1)
 | cons d C=>
  refine s_t ?_ (by rw[c1,hlen];simp;omega);have hdm:d∈D:=by rw[hAC];simp
  have hge:(A'++d::C)[A.length]?=some d:=by rw[hAl];simp
  simp only[zgO] at hlen hDl hk';obtain⟨z1,z2,z3,z4,z5⟩:=zDY (hrt d hdm);have S2:∀(d':DEn) (L2:zDZ) {Ψ:List zB},[Drops Ψ (dfB m nd ct s (A'++d'::C) (SlC zU 10 out (A'.flatMap fun d=>zDA d.o)::zCw L2::jC st n M P::Γ))]→zLT n M L2 d d'→(∀p∈L1,p∈L2)→HG B Ψ (qN.s2 Q (fun y1 y2=>k' (y1,y2)) ⟨m,0,none⟩ (some ⟨st,0,none⟩) out (A.length:Int)):=fun d' L2 Ψ _ hT hL2=>by
   refine zA (Δ:=dfB m nd ct s (A'++d'::C) (SlC zU 10 out (A'.flatMap fun d=>zDA d.o)::zCw L2::jC st n M P::Γ)) ?_;unfold qN.s2;refine zh (b:=m) (off:=4) (l:=dfL nd ct s) (x:=s) ?_;have hge2:(A'++d'::C)[A.length]?=some d':=by rw[hAl];simp
   refine uY deF jk (by omega) (fun w hw=>(zO (s:=s) hw).1) hge2 fun t ht=>?_;refine zQC (cs:=deF d') (us:=zDA d'.o) (fun w hw=>ht w (zO (s:=s) hw).1) (by rw[jk];omega) ?_;refine zBh (zero:=[.int .i64 0,.int .u64 0,.int .u64 0,.int .i64 0,.int .i64 0,Sl.val ⟨none,0,0⟩,Sl.val ⟨none,0,0⟩,Sl.val ⟨none,0,0⟩,.int .i64 0,Sl.val ⟨none,0,0⟩]) (cs:=zDA d'.o) ?_;refine zDI (m:=1) (s:=out) (us:=zDA d'.o) (fun s2 hs2=>?_) (by omega);refine qJ ?_;rw[show(A'.flatMap fun d=>zDA d.o)++zDA d'.o=(A'++[d']).flatMap fun d=>zDA d.o by rw[zge];simp,show A'++d'::C=(A'++[d'])++C by simp];refine zA (hk' (s2,(A.length:Int)+1) (A++[d],A'++[d'],C,L2) ⟨by rw[hAC];simp,zMC (zU8 hF fun _ _ h=>h.mono hL2) hT,fun p hp=>hL2 p (hL1 p hp),by simp⟩ (by simp))
  refine zh (b:=m) (off:=4) (l:=dfL nd ct s) (x:=s) ?_;refine zCU deF (off:=19) (c:=Value.bool) (v:=d.told) jk (fun w hw=>(zO (s:=s) hw).1) hge rfl ?_;cases htd:d.told with
  | true=>
   refine s_f ?_ (by rfl);exact S2 d L1 (.inl ⟨htd,rfl⟩) fun _ h=>h
  | false=>
   refine s_t ?_ (by rfl);refine zh (b:=m) (off:=4) (l:=dfL nd ct s) (x:=s) ?_;refine uT deF jk (fun w hw=>(zO (s:=s) hw).1) hge ?_;refine zD fun e7=>?_;refine yX (b:=e7) (l':=deF d) ?_;refine xg ?_;refine zBl [blk e7 (.cells (deF d).toArray zBY (0,0)),blk m (.cells (dfL nd ct s).toArray zAf (0,0))] ?_;refine jK (b:=m) (off:=4) (l:=dfL nd ct s) (x:=s) ?_;refine jq (b:=e7) (l:=deF d) (l':=zQ d.tag) ?_;refine jq (b:=e7) (off:=4) (l:=deF d) (l':=txL d.tx) ?_;refine jq (b:=e7) (off:=4) (l:=deF d) (l':=txL d.tx) ?_;refine zCo (zTg (sd:=st) (n:=n) (M:=M) (P:=P) (t:=d.tx) (fun w hw=>hrd w (hw.drops (Δ:=Γ)) d hdm) (by omega) (fun x hx=>by have:=z4 x hx;omega) hM fun ms=>?_);refine vS ?_;refine zCv (cs:=orV d.tag d.tx ms) ?_ (by kernel_rfl);refine zBk (s:=s) (i:=A'.length) ?_ (by rw[hAl]) (by omega);refine zPb (s:=s) (i:=A'.length) (off:=9) (us:=orV d.tag d.tx ms) ?_ rfl (by rw[zH deF 20 jk];omega);generalize hmk:zBB n M (vX (d.tx.reads++d.tx.writes))=mks;rw[zaq jk A' C d ⟨d.tag,d.tx,⟨d.tag,d.tx,ms,mks⟩,d.told⟩ (by show 9+10≤20;omega) rfl];refine zh (b:=m) (off:=4) (l:=dfL nd ct s) (x:=s) ?_;refine zBk (s:=s) (i:=A'.length) ?_ (by rw[hAl]) (by omega);refine zFV (s:=s) (i:=A'.length) (off:=19) ?_ (by rw[zH deF 20 jk];simp only[zgK,zgO];omega);rw[set_mid jk A' C ⟨d.tag,d.tx,⟨d.tag,d.tx,ms,mks⟩,d.told⟩ ⟨d.tag,d.tx,⟨d.tag,d.tx,ms,mks⟩,true⟩ (by omega) rfl];refine zCo (zIJ (F:=fun p:Sl×List MkX=>SlC zi 3 p.1 (p.2.flatMap mkL)) (A:=L1) (x:=(ms,mks)) ?_);exact S2 ⟨d.tag,d.tx,⟨d.tag,d.tx,ms,mks⟩,true⟩ (L1++[(ms,mks)]) (.inr ⟨htd,ms,by rw[hmk],by rw[hmk];simp⟩) fun p hp=>zhF _ hp
end
end
section
open Go Go.Sep
set_option maxHeartbeats 4000000
attribute [local irreducible] G Gp Cx Tx Ex Sx Dx Ox Ax Lx Rx Fx Bx Bj Al Do Ld LdN St StN New zI Ar DoU Rd Rd2 Pu Cd Ite Fv vZ zAe uZ yH jm zCj zCt zCx Ext Dead Dr yV Sv LdS xJ RdS zDD Nn Idx zBW zCs Fld Bld Slc zDE Cat All zq jE jY zAp
instance:CB Tryz.prog 13:=⟨by kernel_rfl⟩
instance:CB Tryz.prog 14:=⟨by kernel_rfl⟩
instance:CB Tryz.prog 15:=⟨by kernel_rfl⟩
instance:CB Tryz.prog 16:=⟨by kernel_rfl⟩
instance:CB Tryz.prog 7:=⟨by kernel_rfl⟩
instance:CB Tryz.prog 8:=⟨by kernel_rfl⟩
instance:FT Tryz.prog 51 1 1 1:=⟨by kernel_rfl⟩
instance:FT Tryz.prog 51 4 8 4:=⟨by kernel_rfl⟩
instance:PLT Tryz.prog 31 [(0,1),(1,1),(2,1),(3,1),(4,1)]:=⟨_,Tryz.underlying31,by kernel_rfl⟩
instance:ZT Tryz.prog 31 (.agg #[(.int .i64 0),(.int .i64 0),(.int .u64 0),(.int .u64 0),(Sl.val ⟨none,0,0⟩)]):=⟨Tryz.t31,by kernel_rfl,by kernel_rfl⟩
def zV.b5(Q:Bool→K)(l:Sl→Int→K)(m:Int→K)(s:Pt)(n:Addr)(t u:Pt)(o p v:Sl)(x q r a:Int): K :=
 Ite (decide (a<r))
  (Dr<|
  Idx p a 3 fun d=>
  LdN d 3 fun b=>
  Ld (n.add 4) Sl.val fun f=>
  Idx f a 20 fun g=>
  LdN g 3 fun c=>
  Pu Tryz.prog (do eqGuard .neq 44 (.tmp 112) (.tmp 121) (.agg b) (.agg c);binOp .neq 44 (.agg b) (.agg c):Sem Value) Value.bool fun i=>
  Ite i
   (Q false)
   (Ar (IntKind.wrap .i64 (a+1)) fun j=>
   m j))
  (Ar (IntKind.wrap .i64 (q+1)) fun k=>
  l o k)
def zV.s4(Q:Bool→K)(f:Sl→Int→K)(b:Pt)(c:Addr)(g i:Pt)(j k:Sl)(l m:Int): K :=
 vk.call b fun a=>
 Ld (c.add 4) Sl.val fun d=>
 Ite (decide ((a.n:Int)≠(d.n:Int)))
  (Q false)
  (zq (α:=Int) (fun X x=>zV.b5 Q f X b c g i j a k l m (a.n:Int) x) 0)
def zV.s3(Q:Bool→K)(g:Sl→Int→K)(a:Pt)(b:Addr)(c d:Pt)(n:Sl)(aa:Int)(f ab:Addr)(i:Sl)(j k:Int): K :=
 Ld f (Value.int .i64) fun o=>
 Ar (bitsOf .and .i64 o 7) fun p=>
 Ite (decide (p<2))
  (yF.call a c fun l=>
  Nn d fun m=>
  Ld (m.add 1) Value.pointer fun q=>
  qN.call (some b) q fun r=>
  zAY.call l r fun s=>
  Ite (!s)
   (Q false)
   (zV.s4 Q g a b c (some m) l i j k))
  (Ld f (Value.int .i64) fun t=>
  Ar (bitsOf .and .i64 t 7) fun u=>
  Ite (decide (u=5))
   (LdN f 15 fun v=>
   zBe.call c d v aa<|
   zV.s4 Q g a b c d n i j k)
   (LdN f 15 fun x=>
   LdN ab 4 fun y=>
   qb.call a (some b) x y fun z=>
   Ite (!z)
    (Q false)
    (zV.s4 Q g a b c d n i j k)))
def zV.s6(Q:Bool→K)(d:Sl→Int→K)(f:Pt)(g:Addr)(i j:Pt)(a:Sl)(k:Int)(b c:Addr)(l:Sl)(m o:Int)(t:Bool): K :=
 Ite t
  (Ld (b.add 1) (Value.int .i64) fun p=>
  Cd ((a.n:Int)≠0)<|
  Ar (Int.tmod p (a.n:Int)) fun q=>
  Idx a q 10 fun r=>
  LdN r 4 fun s=>
  StN c 4 s<|
  zV.s3 Q d f g i j a k b c l m o)
  (zV.s3 Q d f g i j a k b c l m o)
def zV.b2(Q:Bool→K)(i:Sl→Int→K)(j:Pt)(k:Addr)(l m:Pt)(d:Sl)(f:Int)(g:Sl)(a:Int): K :=
 Ite (decide (a<f))
  (Idx d a 15 fun o=>
  LdN o 15 fun p=>
  New 51 #[.int .i64 0,.int .i64 0,.int .i64 0,.int .i64 0,Sl.val ⟨none,0,0⟩,Sl.val ⟨none,0,0⟩,Sl.val ⟨none,0,0⟩,.int .i64 0,.int .i64 0,.int .u64 0,.int .u64 0,.int .i64 0,.int .i64 0,Sl.val ⟨none,0,0⟩,(.string ⟨#[]⟩)] fun b=>
  StN b 15 p<|
  LdN (b.add 8) 4 fun q=>
  New 46 #[.int .i64 0,.int .u64 0,.int .u64 0,.int .i64 0] fun c=>
  StN c 4 q<|
  Ite (decide ((0:Int)<(g.n:Int)))
   (Ld (b.add 1) (Value.int .i64) fun r=>
   zV.s6 Q i j k l m g a b c d f a (decide ((0:Int)≤r)))
   (zV.s6 Q i j k l m g a b c d f a false))
  (Q true)
def zV.s1(Q:Bool→K)(a:Sl)(f:Pt)(g:Addr)(i j:Pt)(k:Bool): K :=
 Ite k
  (Q false)
  (New 54 #[] fun b=>
  zq (α:=Sl×Int) (fun X x=>zV.b2 Q (fun c d=>X (c,d)) f g i j a (a.n:Int) x.1 x.2) ((Sl.mk (some b) 0 0),0))
def zV(g:Int)(c:Sl)(Q:Bool→K): K :=
 yY.call  fun i=>
 Ite (!i)
  (Q false)
  (xU.call c fun j=>
  Ite j
   (Q true)
   (zEB.call g 3 2 fun a=>
   New 31 #[.int .i64 g,.int .i64 2,.int .u64 3,.int .u64 0,Sl.val ⟨none,0,0⟩] fun d=>
   uI.call 2 fun b k=>
   zE0.call 2 fun f=>
   Ite ((a).isNone)
    (zV.s1 Q c a d b f true)
    (zV.s1 Q c a d b f ((b).isNone))))
theorem zIn(aq ar Q w)(h:zV aq ar Q w):zV.call aq ar Q w:=by
 have:∀a,XH 12 a→∀au av aw ax ay az a0 a1 a2 a3,LH 29 (fun x:Int=>[(5,.pointer au),(6,(.pointer (some av))),(7,.pointer aw),(9,.pointer ax),(10,Sl.val ay),(14,Sl.val az),(37,Sl.val a0),(38,.int .i64 a1),(39,.int .i64 a2),(105,.int .i64 a3),(106,.int .i64 x)]) (fun X x=>zV.b5 Q (fun b c=>a (b,c)) X au av aw ax ay az a0 a1 a2 a3 x):=by intros;exact⟨⟩
 have:∀a,XH 12 a→JH 25 fun D=>∃d f g i j k l,D [(5,.pointer d),(6,(.pointer (some f))),(7,.pointer g),(9,.pointer i),(37,Sl.val j),(38,.int .i64 k),(39,.int .i64 l)] (fun C=>∀a4,C [(5,.pointer d),(6,(.pointer (some f))),(7,.pointer g),(9,.pointer i),(10,Sl.val a4),(37,Sl.val j),(38,.int .i64 k),(39,.int .i64 l)] (zV.s4 Q (fun b c=>a (b,c)) d f g i a4 j k l)):=by intros;exact⟨fun _ ⟨_,_,_,_,_,_,_,h⟩=>⟨_,_,h⟩⟩
 have:∀a,XH 12 a→JH 17 fun D=>∃m n o p q r s t u v y,D [(5,.pointer m),(6,(.pointer (some n))),(7,.pointer o),(9,.pointer p),(10,Sl.val q),(11,.int .i64 r),(12,(.pointer (some s))),(13,(.pointer (some t))),(37,Sl.val u),(38,.int .i64 v),(39,.int .i64 y)] (fun C=>C [(5,.pointer m),(6,(.pointer (some n))),(7,.pointer o),(9,.pointer p),(10,Sl.val q),(11,.int .i64 r),(12,(.pointer (some s))),(13,(.pointer (some t))),(37,Sl.val u),(38,.int .i64 v),(39,.int .i64 y)] (zV.s3 Q (fun b c=>a (b,c)) m n o p q r s t u v y)):=by intros;exact⟨fun _ ⟨_,_,_,_,_,_,_,_,_,_,_,h⟩=>⟨_,_,h⟩⟩
 have:∀a,XH 12 a→JH 16 fun D=>∃z aa ab ac ad ae af ag ah aj ak,D [(5,.pointer z),(6,(.pointer (some aa))),(7,.pointer ab),(9,.pointer ac),(10,Sl.val ad),(11,.int .i64 ae),(12,(.pointer (some af))),(13,(.pointer (some ag))),(37,Sl.val ah),(38,.int .i64 aj),(39,.int .i64 ak)] (fun C=>∀a5,C [(5,.pointer z),(6,(.pointer (some aa))),(7,.pointer ab),(9,.pointer ac),(10,Sl.val ad),(11,.int .i64 ae),(12,(.pointer (some af))),(13,(.pointer (some ag))),(37,Sl.val ah),(38,.int .i64 aj),(39,.int .i64 ak),(53,.bool a5)] (zV.s6 Q (fun b c=>a (b,c)) z aa ab ac ad ae af ag ah aj ak a5)):=by intros;exact⟨fun _ ⟨_,_,_,_,_,_,_,_,_,_,_,h⟩=>⟨_,_,h⟩⟩
 have:∀a6 a7 a8 a9 ba bb,LH 12 (fun x:Sl×Int=>[(5,.pointer a6),(6,(.pointer (some a7))),(7,.pointer a8),(9,.pointer a9),(10,Sl.val x.1),(37,Sl.val ba),(38,.int .i64 bb),(39,.int .i64 x.2)]) (fun X x=>zV.b2 Q (fun b c=>X (b,c)) a6 a7 a8 a9 ba bb x.1 x.2):=fun _ _ _ _ _ _=>⟨⟩
 have:JH 9 fun D=>∃al am an ao ap,D [(1,Sl.val al),(5,.pointer am),(6,(.pointer (some an))),(7,.pointer ao),(9,.pointer ap)] (fun C=>∀bc,C [(1,Sl.val al),(5,.pointer am),(6,(.pointer (some an))),(7,.pointer ao),(9,.pointer ap),(35,.bool bc)] (zV.s1 Q al am an ao ap bc)):=⟨fun _ ⟨_,_,_,_,_,h⟩=>⟨_,_,h⟩⟩
 exact zJ 125 h Tryz.func3
end
section
open Go Go.Sep Go.Sep.Bt
structure OpF where
 a:Int
 b:Int
 c:Int
 t:TxX
 g:zx
 code:Int
 os:Sl
 O:OX
 key:TX
abbrev ofF(x:OpF):List Value:=.int .i64 x.a::.int .i64 x.b::.int .i64 x.c::(txL x.t++(zQ x.g++[.int .i64 x.code,x.os.val,.string (bs x.key)]))
theorem zKN(x:OpF):(ofF x).length=15:=rfl
def zSG(w:World)(x:OpF):Prop:=zAn w x.t∧RdC w x.os 2 (x.O.flatMap oF)∧∀y∈x.O,RdB w y.2 y.1.2
def zO2(x:OpF):Prop:=¬zHb x.t∧x.O.length≤20∧x.key.length≤16∧∀y∈x.O,y.1.2.length≤200
structure zCV(B:World)(L:zDZ)(e:jW)(d:DEn):Prop where
 tag:e.tag=d.tag
 tx:zKC e.tx d.tx
 told:e.ord.isSome=d.told
 ord:∀o,e.ord=some o→d.o.tag=d.tag∧d.o.t=d.tx∧d.o.mks=o.mks∧(d.o.ms,d.o.mks)∈L
 base:zAn B d.tx
 rt:qC 2 d.tx=true
 tr:0≤e.tag.tr∧e.tag.tr≤2
structure zGZ(B:World)(L:zDZ)(i:Nat)(ct:Int)(E:List jW)(D:List DEn):Prop where
 f2:F2 (zCV B L) E D
 le:E.length≤64
 c0:0≤ct∧ct≤i
section
variable{B:World}{L:zDZ}{e:jW}{d:DEn}{g:zx}
theorem zCV.try'(h:zCV B L e d):zAu g e=zBQ g d:=by unfold zAu zBQ;rw[h.tag,h.told]
theorem zCV.mono{L':zDZ}(h:zCV B L e d)(hL:∀p∈L,p∈L'):zCV B L' e d:=⟨h.tag,h.tx,h.told,fun o ho=>by obtain⟨a,b,c,x⟩:=h.ord o ho;exact⟨a,b,c,hL _ x⟩,h.base,h.rt,h.tr⟩
theorem zK6{α β:Type}{R:α→β→Prop}{A C:List α}{A' C':List β}(h:F2 R A A')(h2:F2 R C C'):F2 R (A++C) (A'++C'):=by
 induction h with
 | nil=>exact h2
 | cons h1 _ ih=>exact .cons h1 ih
theorem zY8{α β:Type}{R:α→β→Prop}{e:α}{C:List α}:∀{A:List α} {D:List β},F2 R (A++e::C) D→∃A' d C',D=A'++d::C'∧F2 R A A'∧R e d∧F2 R C C'
 | [],_,.cons h1 h2=>⟨[],_,_,rfl,.nil,h1,h2⟩
 | x::A,_,.cons h1 h2=>by
  obtain⟨A',d,C',rfl,a,b,c⟩:=zY8 h2;exact⟨_::A',d,C',rfl,.cons h1 a,b,c⟩
theorem zHw{α β:Type}{R:α→β→Prop}{p:α→Prop}{q:β→Prop}(hpq:∀a b,R a b→p a→q b){l:List α}{m:List β}(h:F2 R l m)(hl:∀a∈l,p a):∀b∈m,q b:=by
 induction h with
 | nil=>intro b hb;cases hb
 | cons h1 _ ih=>
  intro b hb;rcases zgS.1 hb with rfl|hb
  ·exact hpq _ _ h1 (hl _ (by simp))
  ·exact ih (fun a ha=>hl a (by simp[ha])) b hb
theorem zNc{α:Type}{p:α→Bool}{x y:α}:∀{A A' C C':List α},A++x::C=A'++y::C'→p x=true→p y=true→(∀z∈A,p z=false)→(∀z∈A',p z=false)→A=A'∧x=y∧C=C'
 | [],[],C,C',h,_,_,_,_=>by simp only[zg6,zhZ] at h;exact⟨rfl,h.1,h.2⟩
 | [],b::A',C,C',h,hx,_,_,h2=>by
  simp only[zg6,zhC,zhZ] at h;have:=h2 b (by simp);rw[←h.1,hx] at this;cases this
 | a::A,[],C,C',h,_,hy,h1,_=>by
  simp only[zg6,zhC,zhZ] at h;have:=h1 a (by simp);rw[h.1,hy] at this;cases this
 | a::A,b::A',C,C',h,hx,hy,h1,h2=>by
  simp only[zhC,zhZ] at h;obtain⟨e1,e2,e3⟩:=zNc h.2 hx hy (fun z hz=>h1 z (by simp[hz])) (fun z hz=>h2 z (by simp[hz]));exact⟨by rw[h.1,e1],e2,e3⟩
theorem zHx{A C:List jW}{E:List jW}{D A2 C2:List DEn}{d2:DEn}(h:F2 (zCV B L) E D)(hE:E=A++e::C)(he:zAu g e=true)(hA:∀y∈A,zAu g y=false)(hD:D=A2++d2::C2)(hd:zBQ g d2=true)(hA2:∀y∈A2,zBQ g y=false):F2 (zCV B L) A A2∧zCV B L e d2∧F2 (zCV B L) C C2:=by
 subst hE;obtain⟨A',d,C',rfl,h1,h2,h3⟩:=zY8 h;obtain⟨rfl,rfl,rfl⟩:=zNc hD (by rw[←h2.try'];exact he) hd (zHw (p:=fun y=>zAu g y=false) (fun a b r ha=>by rw[←r.try'];exact ha) h1 hA) hA2;exact⟨h1,h2,h3⟩
theorem zar{E:List jW}{D:List DEn}(h:F2 (zCV B L) E D)(hE:∀e∈E,zAu g e=false):∀d∈D,zBQ g d=false:=zHw (p:=fun y=>zAu g y=false) (fun a b r ha=>by rw[←r.try'];exact ha) h hE
theorem zQI{A2 C2:List DEn}{d2:DEn}{E:List jW}{D:List DEn}(h:F2 (zCV B L) E D)(hD:D=A2++d2::C2)(hd:zBQ g d2=true):¬∀e∈E,zAu g e=false:=fun hE=>by
 have:=zar h hE d2 (by rw[hD];simp);rw[hd] at this;cases this
end
section
variable{B:World}{Γ Δ:List zB}{q:Bool→K}
theorem zTh{S:List OpF}{ss:Sl}(hS:RdC B ss 15 (S.flatMap ofF))(hSr:∀x∈S,zSG B x)(h1:HG B Γ (q true))(h2:S.length≤100→(∀x∈S,zO2 x)→HG B Γ (q false)):HG B Γ (xU.call ss q):=by
 refine fun w hw=>zNM _ _ _ ?_;refine hg hw ?_;clear hw w;have hsn:ss.n=S.length:=zAM zKN (by omega) hS;unfold xU;refine zF (fun hb=>h1) fun hb=>?_;have hl:S.length≤100:=by simp only[zgF] at hb;omega
 refine qH (α:=Int) (ι:=Nat) (fun x i=>x=(i:Int)∧i≤S.length∧∀y∈S.take i,zO2 y) (fun x i=>Γ) (fun x i=>S.length-i) 0 ⟨rfl,zgW _,by simp⟩ ?_;rintro k' _ i ⟨rfl,hi,hn⟩ hk';unfold xU.b1;refine zF (fun hb=>?_) fun hb=>?_;rotate_left
 ·have hil:i=S.length:=by simp only[zgF] at hb;omega
  rw[hil,zgQ] at hn;exact h2 hl hn
 have hil:i<S.length:=by simp only[zgH] at hb;omega
 have hge:S[i]?=some S[i]:=zgG hil;have htk:S.take (i+1)=S.take i++[S[i]]:=zgJ hil;have hmem:S[i]∈S:=zgX hil;generalize S[i]=x at hge htk hmem;obtain⟨r1,r2,r3⟩:=hSr x hmem;have hon:x.os.n=x.O.length:=zAM zDr (by omega) r2;refine uT ofF zKN (fun w hw=>hS.old hw) hge ?_;refine zD fun o4=>?_;refine yX (b:=o4) (l':=ofF x) ?_;refine yC (b:=o4) (off:=3) (l:=ofF x) (l':=txL x.t) ?_;refine zS9 (t:=x.t) (fun w hw=>zFK r1 hw) ?_;have out:∀{Ψ:List zB},[Drops Ψ Γ]→HG B Ψ (q true):=fun {Ψ} _=>zA h1;have S2t:HG B (blk o4 (.cells (ofF x).toArray vw (0,0))::Γ) (xU.s2 q k' ⟨o4,0,none⟩ ss (ss.n:Int) (i:Int) true):=by
  unfold xU.s2;exact s_t out
 by_cases hg:zHb x.t
 ·rw[zga hg];refine s_t ?_ (by rfl);exact S2t
 rw[zgU hg];refine s_f ?_ (by rfl);refine zh (b:=o4) (off:=12+1) (l:=ofF x) (x:=x.os) ?_;refine zF (fun _=>S2t) fun hb2=>?_;have ho:x.O.length≤20:=by simp only[zgF] at hb2;omega
 refine zh (b:=o4) (off:=14) (l:=ofF x) (x:=bs x.key) ?_;have hks:(bs x.key).size=x.key.length:=rfl;by_cases hk:16<x.key.length
 ·rw[zga (by omega)];exact S2t
 rw[zgU (by omega)];unfold xU.s2;refine s_f ?_ (by rfl);refine zh (b:=o4) (off:=12+1) (l:=ofF x) (x:=x.os) ?_;refine zA (Δ:=Γ) ?_;refine qH (α:=Int) (ι:=Nat) (fun y j=>y=(j:Int)∧j≤x.O.length∧∀z∈x.O.take j,z.1.2.length≤200) (fun y j=>Γ) (fun y j=>x.O.length-j) 0 ⟨rfl,zgW _,by simp⟩ ?_;rintro k3 _ j ⟨rfl,hj,hz⟩ hk3;unfold xU.b3;refine zF (fun hb=>?_) fun hb=>?_
 ·have hjl:j<x.O.length:=by simp only[zgH] at hb;omega
  have hgj:x.O[j]?=some x.O[j]:=zgG hjl;have htj:x.O.take (j+1)=x.O.take j++[x.O[j]]:=zgJ hjl;have hmj:x.O[j]∈x.O:=zgX hjl;generalize x.O[j]=y at hgj htj hmj;have hyn:y.2.n=y.1.2.length:=by have:=(r3 y hmj).len;simpa using this.symm
  refine uT oF zDr (fun w hw=>r2.old hw) hgj ?_;refine zD fun x6=>?_;refine yX (b:=x6) (l':=oF y) ?_;refine zh (b:=x6) (off:=1) (l:=oF y) (x:=y.2) ?_;refine zF (fun _=>zA h1) fun hb3=>?_;refine qJ ?_;refine zA (hk3 _ (j+1) ⟨by simp,hjl,fun z hz'=>?_⟩ (by omega));rw[htj] at hz';rcases zgP.1 hz' with h|h
  ·exact hz z h
  ·simp only[zgM] at h;subst h;simp only[zgF] at hb3;omega
 ·have hjl:j=x.O.length:=by simp only[zgF] at hb;omega
  rw[hjl,zgQ] at hz;refine qJ ?_;refine hk' _ (i+1) ⟨by simp,hil,fun y hy=>?_⟩ (by omega);rw[htk] at hy;rcases zgP.1 hy with h|h
  ·exact hn y h
  ·simp only[zgM] at h;subst h;exact⟨hg,ho,by omega,hz⟩
theorem zSH{a b:Sl}{X:List zEk}{D:List DEn}(hl:X.length≤1000)(hF:F2 (fun(x:zEk) (d:DEn)=>d.o.tag=x.1∧zC9 x.2.t d.o.t∧d.o.mks=x.2.mks∧x.2.mks.length≤1000∧qC 2 d.o.t=true) X D)
  (ha:∀w,Holds B Γ w→RdC w a 10 (X.flatMap zCq)) (hb:∀w,Holds B Γ w→RdC w b 10 (D.flatMap fun d=>zDA d.o)) (hx:∀w,Holds B Γ w→∀x∈X,zAn w x.2.t∧RdC w x.2.ms 3 (x.2.mks.flatMap mkL)) (hd:∀w,Holds B Γ w→∀d∈D,zF7 w d.o) (h:HG B Γ (q true)):HG B Γ (zAY.call a b q):=fun w hw=>by
 refine zLm _ _ _ _ ?_;have han:a.n=X.length:=zAM zDB (by omega) (ha w hw);have hbn:b.n=D.length:=zAM (f:=fun d:DEn=>zDA d.o) (esz:=10) (fun _=>rfl) (by omega) (hb w hw);have hXD:=zFM hF;refine Sep.hg hw ?_;clear hw w;unfold zAY;refine s_f ?_ (by simp;omega);refine qH (α:=Int) (ι:=Nat) (fun x i=>x=(i:Int)∧i≤X.length) (fun x i=>Γ) (fun x i=>X.length-i) 0 ⟨rfl,zgW _⟩ ?_;rintro k' _ i ⟨rfl,hi⟩ hk';unfold zAY.b1;refine zF (fun hb2=>?_) fun hb2=>h;have hil:i<X.length:=by simp only[zgH] at hb2;omega
 have hge:X[i]?=some X[i]:=zgG hil;have hmem:X[i]∈X:=zgX hil;generalize X[i]=x at hge hmem;obtain⟨d,hgd,e1,e2,e3,e4,e5⟩:=zSE hF hge;have hmd:d∈D:=zgx hgd;refine xg ?_;refine uY zCq (L:=X) (j:=i) zDB (by omega) (fun w hw=>ha w hw) hge fun t ht=>?_;refine uY (fun d:DEn=>zDA d.o) (L:=D) (j:=i) (fun _=>rfl) (by omega) (fun w hw=>hb w hw) hgd fun t2 ht2=>?_;refine zBc (cs:=zCq x) (us:=zCq x) (fun w hw=>ht w (ha w hw)) (by rw[zDB];omega) ?_;refine zBc (cs:=zDA d.o) (us:=zDA d.o) (fun w hw=>ht2 w (hb w hw)) (by rw[zYc];omega) ?_;obtain⟨z1,z2,z3,z4,z5⟩:=zDY e5;obtain⟨y1,y2,y3,y4,y5⟩:=e2;show HG B Γ (uz.call (orV x.1 x.2.t x.2.ms).toArray (orV d.o.tag d.o.t d.o.ms).toArray _);rw[e1];refine zV3 (L:=x.2.mks) ⟨y1,y2,y3,y4,y5⟩ (by omega) (fun w hw=>(hx w hw x hmem).1) (fun w hw=>(hd w hw d hmd).1) (fun w hw=>(hx w hw x hmem).2) (fun w hw=>by rw[←e3];exact(hd w hw d hmd).2) (by rw[y3,y4];have:=congrArg List.length y5;simp only[zgL] at this;omega) ?_;refine s_f ?_ (by rfl);refine qJ ?_;exact hk' _ (i+1) ⟨by simp,hil⟩ (by omega)
theorem zQJ{g:zx}{code:Int}{a b:Sl}{X Y:OX}(hX:X.length<100000000)(hXY:X.map Prod.fst=Y.map Prod.fst)(ha:∀w,Holds B Γ w→RdC w a 2 (X.flatMap oF))(hb:∀w,Holds B Γ w→RdC w b 2 (Y.flatMap oF))
  (hva:∀x∈X,∀w,Holds B Γ w→RdB w x.2 x.1.2) (hvb:∀x∈Y,∀w,Holds B Γ w→RdB w x.2 x.1.2) (h:HG B Γ (q true)):HG B Γ (uQ.call (zCI g code a).toArray (zCI g code b).toArray q):=by
 refine fun w hw=>zK1 _ _ _ _ ?_;refine hg hw ?_;clear hw w;unfold uQ uQ.s1;refine zD fun a2=>?_;refine zD fun b3=>?_;refine yC (b:=a2) (l:=zCI g code a) (l':=idF g) ?_;refine yC (b:=b3) (l:=zCI g code b) (l':=idF g) ?_;refine zHQ (xs:=idF g) (ys:=idF g) (ks:=idK) (p:=True) (by simp) ?_;refine s_t ?_ (by simp);refine yC (b:=a2) (off:=3) (l:=zCI g code a) (l':=[.int .i64 code,a.val]) ?_;refine yC (b:=b3) (off:=3) (l:=zCI g code b) (l':=[.int .i64 code,b.val]) ?_;refine zA (Δ:=Γ) ?_;exact zYQ hX hXY ha hb hva hvb h
end
end
section
open Go Go.Sep
set_option maxHeartbeats 4000000
section
variable{B:World}{Γ Δ Δ2 Δ3:List zB}
theorem zY9{x y z:K}(h1:HG B Γ x)(h2:HG B Γ y)(h3:HG B Γ z):HG B Γ (All [x,y,z]):=fun w hw=>all_cons (h1 w hw) (all_cons (h2 w hw) (all_cons (h3 w hw) all_nil))
theorem zAV{b T E esz:Nat}{x:Sl}{us:List Value}{k:Sl→K}(hx:∀w,Holds B Γ w→RdC w x esz us)(hfl:∀u∈us,qD u=true)(hl:x.n≤1000000)(h:∀s',s'.n=x.n→HG B (SlC E esz s' us::Δ) (k s'))[p:Sep.Own b Γ (blk b (.cells ([]:List Value).toArray E (0,0))) Δ](hT:zFe Tryz.prog T T E esz=true:=by kernel_rfl):
  HG B Γ (Do Tryz.prog (Builtin.append_ #[T,T] T #[Sl.val (Sl.mk (some ⟨b,0,none⟩) 0 0),Sl.val x]) Sl.val k):=fun w hw=>by
 have h1:Holds B (SlC E esz ⟨some ⟨b,0,none⟩,0,0⟩ []::Δ) w:=(hw.perm p.perm).imp (zAq (vs:=[]) rfl (by simp));obtain⟨h1',h2,n,zv,h3,h4,h5,h6,h7,_⟩:=zDR hT;refine zHG h1 h1' h2 h3 h6 h7 (hx w hw) hfl ?_ h5 fun s' w' h' hn _=>h s' (by simpa using hn) w' (by simpa using h');have h8:(2*(0+x.n)+800)*n≤200000800*1000:=Nat.mul_le_mul (by omega) h4;simp only;omega
theorem jL(L:List TX):∀u∈L.map qE,qD u=true:=fun u hu=>by obtain⟨y,_,rfl⟩:=zgV.1 hu;rfl
attribute [local irreducible] Do Ld LdN St StN New Ar Dr yV Sv LdS xJ Nn Idx Bld All zq
theorem zWQ{t:TxX}{Q:Array Value→K}(hr:∀w,Holds B Γ w→zAn w t)(hl:t.reads.length≤1000∧t.writes.length≤1000∧t.ops.length≤1000∧∀x∈t.ops,x.1.val.length≤1000000)(h:∀t',zKC t' t→HG B (txC t' Γ) (Q (txL t').toArray)):HG B Γ (qx.call (txL t).toArray Q):=fun w hw=>by
 refine zNq _ _ _ ?_;obtain⟨n1,n2,n3⟩:=zGP (hr w hw);refine Sep.hg hw ?_;clear hw w;obtain⟨hl1,hl2,hl3,hl4⟩:=hl;unfold qx;refine zD fun t1=>?_;refine zD fun t2=>?_;have leaf:∀(a b:Sl) (o:Nat),HG B (blk o (.cells [.int .i64 t.kind,a.val,b.val,Sl.val ⟨none,0,0⟩,.int .i64 t.to].toArray zn (0,0))::SlS a t.reads::SlS b t.writes::blk t1 (.cells (txL t).toArray zn (0,0))::blk t2 (.cells [.int .i64 0,Sl.val ⟨none,0,0⟩,Sl.val ⟨none,0,0⟩,Sl.val ⟨none,0,0⟩,.int .i64 0].toArray zn (0,0))::Γ) (qx.s1 Q ⟨t1,0,none⟩ ⟨t2,0,none⟩ ⟨o,0,none⟩):=fun a b o=>by
  unfold qx.s1;refine fun w hw=>Sep.hg (show Holds B (Sep.stars (([]:List OpX).map opB)::_) w from hw.zAA) ?_;clear hw w;refine fun w hw=>Sep.hg (show Holds B (SlC vg 4 ⟨none,0,0⟩ (([]:List OpX).flatMap opF)::_) w from hw.ji _ _) ?_;clear hw w;refine zA (Δ:=blk o (.cells [.int .i64 t.kind,a.val,b.val,Sl.val ⟨none,0,0⟩,.int .i64 t.to].toArray zn (0,0))::SlC vg 4 ⟨none,0,0⟩ (([]:List OpX).flatMap opF)::Sep.stars (([]:List OpX).map opB)::SlS a t.reads::SlS b t.writes::blk t1 (.cells (txL t).toArray zn (0,0))::blk t2 (.cells [.int .i64 0,Sl.val ⟨none,0,0⟩,Sl.val ⟨none,0,0⟩,Sl.val ⟨none,0,0⟩,.int .i64 0].toArray zn (0,0))::Γ) ?_;refine qH (α:=Int) (ι:=Nat×List OpX×Sl) (fun x i=>x=(i.1:Int)∧i.1≤t.ops.length∧i.2.1.map Prod.fst=(t.ops.take i.1).map Prod.fst)
   (fun x i=>blk o (.cells [.int .i64 t.kind,a.val,b.val,i.2.2.val,.int .i64 t.to].toArray zn (0,0))::SlC vg 4 i.2.2 (i.2.1.flatMap opF)::Sep.stars (i.2.1.map opB)::SlS a t.reads::SlS b t.writes::blk t1 (.cells (txL t).toArray zn (0,0))::blk t2 (.cells [.int .i64 0,Sl.val ⟨none,0,0⟩,Sl.val ⟨none,0,0⟩,Sl.val ⟨none,0,0⟩,.int .i64 0].toArray zn (0,0))::Γ)
   (fun x i=>t.ops.length-i.1) (0,[],⟨none,0,0⟩) ⟨rfl,zgW _,rfl⟩ ?_
  rintro k' _ ⟨i,L,os⟩ ⟨rfl,hi,hm⟩ hk';simp only at hi hm hk' ⊢;have hLl:L.length=i:=by have:=congrArg List.length hm;simpa[zh6 hi] using this
  refine yw os fun a1 a2 a3 a4=>?_;rw[zH _ 4 zAs] at a1;unfold qx.b2;refine zh (b:=t1) (off:=3) (l:=txL t) (x:=t.os) ?_;refine zF (fun hb=>?_) fun hb=>?_
  ·have hil:i<t.ops.length:=by simp only[zgH] at hb;omega
   have hge:t.ops[i]?=some t.ops[i]:=zgG hil;have hmem:t.ops[i]∈t.ops:=zgX hil;have htk:t.ops.take (i+1)=t.ops.take i++[t.ops[i]]:=zgJ hil;generalize t.ops[i]=x at hge hmem htk;have hvl:=hl4 x hmem;refine zh (b:=t1) (off:=3) (l:=txL t) (x:=t.os) ?_;refine uT opF zAs (fun w hw=>(hr w hw.drops).2.2.1) hge ?_;refine zD fun o5=>?_;refine yX (b:=o5) (l':=opF x) ?_;refine zD fun t31=>?_;refine zh (b:=t1) (off:=3) (l:=txL t) (x:=t.os) ?_;refine zCU opF (off:=2) (c:=Sl.val) (v:=x.2) zAs (fun w hw=>(hr w hw.drops).2.2.1) hge rfl ?_;refine fun w hw=>?_;have hvn:x.2.n=x.1.val.length:=by have:=((hr w hw.drops).2.2.2 x hmem).len;simpa using this.symm
   refine Sep.hg hw ?_;clear hw w;refine zAV (b:=t31) (E:=qO) (esz:=1) (us:=x.1.val.map zBI) (fun w hw=>(hr w hw.drops).2.2.2 x hmem) (zED _) (by omega) fun vs _=>?_;refine zCN (b:=o5) (l:=opF x) (l':=opF (x.1,vs)) ?_ rfl rfl
   repeat refine zT ?_
   refine zD fun t43=>?_;refine qp (s:=os) (esz:=4) (us:=opF (x.1,vs)) (zBM rfl) (by intro v hv;exact zRd [(x.1,vs)] v (by simpa using hv)) (by simp only;omega) fun os2 _=>?_;rw[show L.flatMap opF++opF (x.1,vs)=(L++[(x.1,vs)]).flatMap opF by simp only[zge,zgi,zhn,zgy]]
   repeat refine zT ?_
   refine qJ ?_;have h9:=hk' ((i:Int)+1) (i+1,L++[(x.1,vs)],os2) ⟨by simp,hil,by simp only;rw[htk,zgT,zgT,hm];rfl⟩ (by simp only;omega);have:=zAb (F:=opB) (A:=L) (C:=[]) (x:=((x.1,vs):OpX)) (Γ:=blk o (.cells [.int .i64 t.kind,a.val,b.val,os2.val,.int .i64 t.to].toArray zn (0,0))::SlC vg 4 os2 ((L++[(x.1,vs)]).flatMap opF)::SlS a t.reads::SlS b t.writes::blk t1 (.cells (txL t).toArray zn (0,0))::blk t2 (.cells [.int .i64 0,Sl.val ⟨none,0,0⟩,Sl.val ⟨none,0,0⟩,Sl.val ⟨none,0,0⟩,.int .i64 0].toArray zn (0,0))::Γ) (zA h9);rw[zgy] at this;refine uL vs ?_;refine zBg (A':=opB (x.1,vs)) (fun _ h=>h) ?_;exact zA (Δ:=Bytes qO vs x.1.val::Sep.stars (L.map opB)::blk o (.cells [.int .i64 t.kind,a.val,b.val,os2.val,.int .i64 t.to].toArray zn (0,0))::SlC vg 4 os2 ((L++[(x.1,vs)]).flatMap opF)::SlS a t.reads::SlS b t.writes::blk t1 (.cells (txL t).toArray zn (0,0))::blk t2 (.cells [.int .i64 0,Sl.val ⟨none,0,0⟩,Sl.val ⟨none,0,0⟩,Sl.val ⟨none,0,0⟩,.int .i64 0].toArray zn (0,0))::Γ) this
  ·have hil:i=t.ops.length:=by simp only[zgF] at hb;omega
   rw[hil,zgQ] at hm
   repeat refine zT ?_
   have:=h ⟨t.kind,t.reads,t.writes,L,t.to,a,b,os⟩ ⟨rfl,rfl,rfl,rfl,hm⟩;exact zA this
 refine xg ?_;refine zBl [blk t1 (.cells (txL t).toArray zn (0,0))] ?_;refine jK (b:=t1) (l:=txL t) (x:=t.kind) ?_;refine jK (b:=t1) (off:=4) (l:=txL t) (x:=t.to) ?_;refine jK (b:=t1) (off:=1) (l:=txL t) (x:=t.rs) ?_;refine jK (b:=t1) (off:=2) (l:=txL t) (x:=t.ws) ?_;have hTS:zFe Tryz.prog zAg zAg yO 1=true:=by kernel_rfl
 refine zY9 ?_ ?_ ?_
 ·refine zD fun ta=>?_;refine vS ?_;refine zY9 ?_ ?_ ?_
  ·refine zAV (b:=ta) (E:=yO) (x:=t.rs) (esz:=1) (us:=t.reads.map qE) (fun w hw=>(hr w hw.drops).1) (jL _) (by omega) (fun av _=>?_) (hT:=hTS);refine vS ?_;refine zBS ?_ ?_
   ·refine zD fun tb=>?_;refine vS ?_;refine zBS ?_ ?_
    ·refine zAV (b:=tb) (E:=yO) (x:=t.ws) (esz:=1) (us:=t.writes.map qE) (fun w hw=>(hr w hw.drops).2.1) (jL _) (by omega) (fun bv _=>?_) (hT:=hTS);refine vS ?_;refine zD fun ob=>?_;refine vS ?_;refine yX (b:=ob) (l':=[.int .i64 t.kind,Sl.val av,Sl.val bv,Sl.val ⟨none,0,0⟩,.int .i64 t.to]) ?_;exact zA (leaf av bv ob)
    ·refine zD fun ob=>?_;refine vS ?_;refine zAV (b:=tb) (E:=yO) (x:=t.ws) (esz:=1) (us:=t.writes.map qE) (fun w hw=>(hr w hw.drops).2.1) (jL _) (by omega) (fun bv _=>?_) (hT:=hTS);refine vS ?_;refine yX (b:=ob) (l':=[.int .i64 t.kind,Sl.val av,Sl.val bv,Sl.val ⟨none,0,0⟩,.int .i64 t.to]) ?_;exact zA (leaf av bv ob)
   ·refine zD fun ob=>?_;refine vS ?_;refine zD fun tb=>?_;refine vS ?_;refine zAV (b:=tb) (E:=yO) (x:=t.ws) (esz:=1) (us:=t.writes.map qE) (fun w hw=>(hr w hw.drops).2.1) (jL _) (by omega) (fun bv _=>?_) (hT:=hTS);refine vS ?_;refine yX (b:=ob) (l':=[.int .i64 t.kind,Sl.val av,Sl.val bv,Sl.val ⟨none,0,0⟩,.int .i64 t.to]) ?_;exact zA (leaf av bv ob)
  ·refine zD fun tb=>?_;refine vS ?_;refine zBS ?_ ?_
   ·refine zAV (b:=ta) (E:=yO) (x:=t.rs) (esz:=1) (us:=t.reads.map qE) (fun w hw=>(hr w hw.drops).1) (jL _) (by omega) (fun av _=>?_) (hT:=hTS);refine vS ?_;refine zBS ?_ ?_
    ·refine zAV (b:=tb) (E:=yO) (x:=t.ws) (esz:=1) (us:=t.writes.map qE) (fun w hw=>(hr w hw.drops).2.1) (jL _) (by omega) (fun bv _=>?_) (hT:=hTS);refine vS ?_;refine zD fun ob=>?_;refine vS ?_;refine yX (b:=ob) (l':=[.int .i64 t.kind,Sl.val av,Sl.val bv,Sl.val ⟨none,0,0⟩,.int .i64 t.to]) ?_;exact zA (leaf av bv ob)
    ·refine zD fun ob=>?_;refine vS ?_;refine zAV (b:=tb) (E:=yO) (x:=t.ws) (esz:=1) (us:=t.writes.map qE) (fun w hw=>(hr w hw.drops).2.1) (jL _) (by omega) (fun bv _=>?_) (hT:=hTS);refine vS ?_;refine yX (b:=ob) (l':=[.int .i64 t.kind,Sl.val av,Sl.val bv,Sl.val ⟨none,0,0⟩,.int .i64 t.to]) ?_;exact zA (leaf av bv ob)
   ·refine zD fun ob=>?_;refine vS ?_;refine zAV (b:=ta) (E:=yO) (x:=t.rs) (esz:=1) (us:=t.reads.map qE) (fun w hw=>(hr w hw.drops).1) (jL _) (by omega) (fun av _=>?_) (hT:=hTS);refine vS ?_;refine zAV (b:=tb) (E:=yO) (x:=t.ws) (esz:=1) (us:=t.writes.map qE) (fun w hw=>(hr w hw.drops).2.1) (jL _) (by omega) (fun bv _=>?_) (hT:=hTS);refine vS ?_;refine yX (b:=ob) (l':=[.int .i64 t.kind,Sl.val av,Sl.val bv,Sl.val ⟨none,0,0⟩,.int .i64 t.to]) ?_;exact zA (leaf av bv ob)
  ·refine zD fun ob=>?_;refine vS ?_;refine zBS ?_ ?_
   ·refine zAV (b:=ta) (E:=yO) (x:=t.rs) (esz:=1) (us:=t.reads.map qE) (fun w hw=>(hr w hw.drops).1) (jL _) (by omega) (fun av _=>?_) (hT:=hTS);refine vS ?_;refine zD fun tb=>?_;refine vS ?_;refine zAV (b:=tb) (E:=yO) (x:=t.ws) (esz:=1) (us:=t.writes.map qE) (fun w hw=>(hr w hw.drops).2.1) (jL _) (by omega) (fun bv _=>?_) (hT:=hTS);refine vS ?_;refine yX (b:=ob) (l':=[.int .i64 t.kind,Sl.val av,Sl.val bv,Sl.val ⟨none,0,0⟩,.int .i64 t.to]) ?_;exact zA (leaf av bv ob)
   ·refine zD fun tb=>?_;refine vS ?_;refine zAV (b:=ta) (E:=yO) (x:=t.rs) (esz:=1) (us:=t.reads.map qE) (fun w hw=>(hr w hw.drops).1) (jL _) (by omega) (fun av _=>?_) (hT:=hTS);refine vS ?_;refine zAV (b:=tb) (E:=yO) (x:=t.ws) (esz:=1) (us:=t.writes.map qE) (fun w hw=>(hr w hw.drops).2.1) (jL _) (by omega) (fun bv _=>?_) (hT:=hTS);refine vS ?_;refine yX (b:=ob) (l':=[.int .i64 t.kind,Sl.val av,Sl.val bv,Sl.val ⟨none,0,0⟩,.int .i64 t.to]) ?_;exact zA (leaf av bv ob)
 ·refine zD fun tb=>?_;refine vS ?_;refine zBS ?_ ?_
  ·refine zD fun ta=>?_;refine vS ?_;refine zBS ?_ ?_
   ·refine zAV (b:=ta) (E:=yO) (x:=t.rs) (esz:=1) (us:=t.reads.map qE) (fun w hw=>(hr w hw.drops).1) (jL _) (by omega) (fun av _=>?_) (hT:=hTS);refine vS ?_;refine zBS ?_ ?_
    ·refine zAV (b:=tb) (E:=yO) (x:=t.ws) (esz:=1) (us:=t.writes.map qE) (fun w hw=>(hr w hw.drops).2.1) (jL _) (by omega) (fun bv _=>?_) (hT:=hTS);refine vS ?_;refine zD fun ob=>?_;refine vS ?_;refine yX (b:=ob) (l':=[.int .i64 t.kind,Sl.val av,Sl.val bv,Sl.val ⟨none,0,0⟩,.int .i64 t.to]) ?_;exact zA (leaf av bv ob)
    ·refine zD fun ob=>?_;refine vS ?_;refine zAV (b:=tb) (E:=yO) (x:=t.ws) (esz:=1) (us:=t.writes.map qE) (fun w hw=>(hr w hw.drops).2.1) (jL _) (by omega) (fun bv _=>?_) (hT:=hTS);refine vS ?_;refine yX (b:=ob) (l':=[.int .i64 t.kind,Sl.val av,Sl.val bv,Sl.val ⟨none,0,0⟩,.int .i64 t.to]) ?_;exact zA (leaf av bv ob)
   ·refine zD fun ob=>?_;refine vS ?_;refine zAV (b:=ta) (E:=yO) (x:=t.rs) (esz:=1) (us:=t.reads.map qE) (fun w hw=>(hr w hw.drops).1) (jL _) (by omega) (fun av _=>?_) (hT:=hTS);refine vS ?_;refine zAV (b:=tb) (E:=yO) (x:=t.ws) (esz:=1) (us:=t.writes.map qE) (fun w hw=>(hr w hw.drops).2.1) (jL _) (by omega) (fun bv _=>?_) (hT:=hTS);refine vS ?_;refine yX (b:=ob) (l':=[.int .i64 t.kind,Sl.val av,Sl.val bv,Sl.val ⟨none,0,0⟩,.int .i64 t.to]) ?_;exact zA (leaf av bv ob)
  ·refine zD fun ob=>?_;refine vS ?_;refine zD fun ta=>?_;refine vS ?_;refine zAV (b:=ta) (E:=yO) (x:=t.rs) (esz:=1) (us:=t.reads.map qE) (fun w hw=>(hr w hw.drops).1) (jL _) (by omega) (fun av _=>?_) (hT:=hTS);refine vS ?_;refine zAV (b:=tb) (E:=yO) (x:=t.ws) (esz:=1) (us:=t.writes.map qE) (fun w hw=>(hr w hw.drops).2.1) (jL _) (by omega) (fun bv _=>?_) (hT:=hTS);refine vS ?_;refine yX (b:=ob) (l':=[.int .i64 t.kind,Sl.val av,Sl.val bv,Sl.val ⟨none,0,0⟩,.int .i64 t.to]) ?_;exact zA (leaf av bv ob)
 ·refine zD fun ob=>?_;refine vS ?_;refine zBS ?_ ?_
  ·refine zD fun ta=>?_;refine vS ?_;refine zBS ?_ ?_
   ·refine zAV (b:=ta) (E:=yO) (x:=t.rs) (esz:=1) (us:=t.reads.map qE) (fun w hw=>(hr w hw.drops).1) (jL _) (by omega) (fun av _=>?_) (hT:=hTS);refine vS ?_;refine zD fun tb=>?_;refine vS ?_;refine zAV (b:=tb) (E:=yO) (x:=t.ws) (esz:=1) (us:=t.writes.map qE) (fun w hw=>(hr w hw.drops).2.1) (jL _) (by omega) (fun bv _=>?_) (hT:=hTS);refine vS ?_;refine yX (b:=ob) (l':=[.int .i64 t.kind,Sl.val av,Sl.val bv,Sl.val ⟨none,0,0⟩,.int .i64 t.to]) ?_;exact zA (leaf av bv ob)
   ·refine zD fun tb=>?_;refine vS ?_;refine zAV (b:=ta) (E:=yO) (x:=t.rs) (esz:=1) (us:=t.reads.map qE) (fun w hw=>(hr w hw.drops).1) (jL _) (by omega) (fun av _=>?_) (hT:=hTS);refine vS ?_;refine zAV (b:=tb) (E:=yO) (x:=t.ws) (esz:=1) (us:=t.writes.map qE) (fun w hw=>(hr w hw.drops).2.1) (jL _) (by omega) (fun bv _=>?_) (hT:=hTS);refine vS ?_;refine yX (b:=ob) (l':=[.int .i64 t.kind,Sl.val av,Sl.val bv,Sl.val ⟨none,0,0⟩,.int .i64 t.to]) ?_;exact zA (leaf av bv ob)
  ·refine zD fun tb=>?_;refine vS ?_;refine zD fun ta=>?_;refine vS ?_;refine zAV (b:=ta) (E:=yO) (x:=t.rs) (esz:=1) (us:=t.reads.map qE) (fun w hw=>(hr w hw.drops).1) (jL _) (by omega) (fun av _=>?_) (hT:=hTS);refine vS ?_;refine zAV (b:=tb) (E:=yO) (x:=t.ws) (esz:=1) (us:=t.writes.map qE) (fun w hw=>(hr w hw.drops).2.1) (jL _) (by omega) (fun bv _=>?_) (hT:=hTS);refine vS ?_;refine yX (b:=ob) (l':=[.int .i64 t.kind,Sl.val av,Sl.val bv,Sl.val ⟨none,0,0⟩,.int .i64 t.to]) ?_;exact zA (leaf av bv ob)
end
end
section
open Go Go.Sep Go.Sep.Bt
section
variable{B:World}{Γ Δ:List zB}{q:Bool→K}
abbrev zTi:List Value:=zCI ⟨0,0,0,0⟩ 0 ⟨none,0,0⟩
theorem zK7{z:Bool→K}{a9:Nat}{g:zx}{code:Int}{a b:Sl}{X Y:OX}{ok:Bool}{Φ:List zB}(hX:X.length<100000000)(hXY:X.map Prod.fst=Y.map Prod.fst)(ha:∀w,Holds B Φ w→RdC w a 2 (X.flatMap oF))(hb:∀w,Holds B Φ w→RdC w b 2 (Y.flatMap oF))
  (hva:∀x∈X,∀w,Holds B Φ w→RdB w x.2 x.1.2) (hvb:∀x∈Y,∀w,Holds B Φ w→RdB w x.2 x.1.2) (h:HG B Φ (z true)) :
  HG B (blk a9 (.cells (zCI g code a).toArray uU (0,0))::Φ) (New 111 zTi.toArray fun b11=>StN b11 5 (zCI g code b).toArray<|Ite (ok==ok) (LdN ⟨a9,0,none⟩ 5 fun t49=>LdN b11 5 fun t50=>uQ.call t49 t50 z) (z false)):=by
 refine zD fun b11=>?_;refine yX (b:=b11) (l':=zCI g code b) ?_;refine s_t ?_ (by cases ok <;> rfl);refine yC (b:=a9) (l:=zCI g code a) (l':=zCI g code a) ?_;refine yC (b:=b11) (l:=zCI g code b) (l':=zCI g code b) ?_;refine zA (Δ:=Φ) ?_;exact zQJ hX hXY ha hb hva hvb h
theorem zQK{L:zDZ}{e:jW}{d:DEn}(h:zCV B L e d)(ht:e.tag.tr<2):zCV B L (restart e) (zHt d):=by
 obtain⟨h1,h2,h3,h4,h5,h6,h7⟩:=h;refine⟨by unfold restart zHt;simp only[h1],h2,rfl,(fun o ho=>by cases ho),h5,h6,?_⟩;unfold restart;simp only;omega
theorem zas{α β:Type}{R:α→β→Prop}{p:α→Prop}{r:β→Prop}(hpq:∀a b,R a b→r b→p a){l:List α}{m:List β}(h:F2 R l m)(hl:∀b∈m,r b):∀a∈l,p a:=by
 induction h with
 | nil=>intro b hb;cases hb
 | cons h1 _ ih=>
  intro b hb;rcases zgS.1 hb with rfl|hb
  ·exact hpq _ _ h1 (hl _ (by simp))
  ·exact ih (fun a ha=>hl a (by simp[ha])) b hb
theorem zNd{L:zDZ}{g:zx}{E:List jW}{D:List DEn}(h:F2 (zCV B L) E D)(hD:∀d∈D,zBQ g d=false):∀e∈E,zAu g e=false:=zas (r:=fun y=>zBQ g y=false) (fun a b r ha=>by rw[r.try'];exact ha) h hD
theorem zee{O:OX}{y:(Bool×List UInt8)×Sl}{w:World}(hy:y∈O)(h:Holds B (Sep.stars (O.map oB)::Γ) w):RdB w y.2 y.1.2:=by
 obtain⟨Δ',h2⟩:=zEP (F:=oB) hy h;exact zS2 h2
theorem zSI{x:OpF}{g:zx}{f m i o6 tag7:Nat}{nd ct c7:Int}{E:List jW}{D:List DEn}{s:Sl}{L:zDZ}(hx:zSG B x)(hfit:zO2 x)(hi:i≤100)(hR:zGZ B L i ct E D)
  (h:∀E' D' ct' s',zGZ B L (i+1) ct' E' D'→HG B (qI f nd 3 2 ct' E'::dfB m nd ct' s' D' Γ) (q true)) :
  HG B (blk tag7 (.cells (zQ g).toArray zN (0,0))::blk o6 (.cells (ofF x).toArray vw (0,0))::qI f nd 3 2 ct E::dfB m nd ct s D Γ) (qb.s1 q (some ⟨f,0,none⟩) (some ⟨m,0,none⟩) ⟨o6,0,none⟩ ⟨tag7,0,none⟩ c7 true):=by
 obtain⟨hF,hle,hc0,hci⟩:=hR;have hDl:=zFM hF;obtain⟨rt,ro,rv⟩:=hx;obtain⟨fg,fo,fk,fv⟩:=hfit;have htrE:∀e∈E,0≤e.tag.tr∧e.tag.tr≤2:=fun e he=>by
  obtain⟨j,hj⟩:=zh5 he;obtain⟨d,_,hd⟩:=zSE hF hj;exact hd.tr
 have htrD:∀d∈D,0≤d.tag.tr∧d.tag.tr≤2:=zHw (p:=fun e:jW=>0≤e.tag.tr∧e.tag.tr≤2) (fun a b r ha=>by rw[←r.tag];exact ha) hF htrE;have hsame:zGZ B L (i+1) ct E D:=⟨hF,hle,hc0,by omega⟩
 have hrest:∀{A C:List jW} {e:jW} {A2 C2:List DEn} {d:DEn},F2 (zCV B L) A A2→zCV B L e d→F2 (zCV B L) C C2→(A++e::C).length≤64→zGZ B L (i+1) ct (A++e::C) (A2++d::C2):=fun h1 h2 h3 h4=>⟨zK6 h1 (.cons h2 h3),h4,hc0,by omega⟩
 have hdrop:∀{A C:List jW} {A2 C2:List DEn},F2 (zCV B L) A A2→F2 (zCV B L) C C2→(A++C).length≤64→zGZ B L (i+1) ct (A++C) (A2++C2):=fun h1 h3 h4=>⟨zK6 h1 h3,h4,hc0,by omega⟩
 unfold qb.s1 qb.s2;refine s_t ?_ (by rfl);refine yC (b:=tag7) (l:=zQ g) (l':=zQ g) ?_;refine yC (b:=o6) (off:=12) (l:=ofF x) (l':=[.int .i64 x.code,x.os.val]) ?_;refine zCv (cs:=zNa g x.code x.os) ?_ (by kernel_rfl);refine zCo (zOy (f:=f) (nd:=nd) (ep:=3) (rg:=2) (ct:=ct) (E:=E) (g:=g) (code:=x.code) (os:=x.os) (O:=x.O) (by omega) (by omega) (fun w hw=>ro.old hw) (fun y hy w hw=>(rv y hy).old hw) (fun y hy=>by have:=fv y hy;omega) htrE (fun hn=>?_) (fun A e C hE he hA hc ht=>?_) fun A e C hE he hA hn os' O' ho1 ho2=>?_)
 ·refine zD fun a9=>?_;refine yX (b:=a9) (l':=zTi) ?_;refine yC (b:=tag7) (l:=zQ g) (l':=zQ g) ?_;refine yC (b:=o6) (off:=12) (l:=ofF x) (l':=[.int .i64 x.code,x.os.val]) ?_;refine zCv (cs:=zNa g x.code x.os) ?_ (by kernel_rfl);refine zCo (zHu (m:=m) (nd:=nd) (ct:=ct) (s:=s) (D:=D) (g:=g) (code:=x.code) (os:=x.os) (by omega) htrD (fun hn2=>?_) (fun A2 d C2 hD hd _ _ _=>absurd hn (zQI hF hD hd)) fun A2 d C2 hD hd _ _=>absurd hn (zQI hF hD hd));refine zA (Δ:=blk a9 (.cells zTi.toArray uU (0,0))::qI f nd 3 2 ct E::dfB m nd ct s D Γ) ?_;exact zK7 (X:=[]) (Y:=[]) (by simp) rfl (fun _ _=>RdC.none') (fun _ _=>RdC.none') (by simp) (by simp) (h E D ct s hsame)
 ·refine zD fun a9=>?_;refine yX (b:=a9) (l':=zTi) ?_;refine yC (b:=tag7) (l:=zQ g) (l':=zQ g) ?_;refine yC (b:=o6) (off:=12) (l:=ofF x) (l':=[.int .i64 x.code,x.os.val]) ?_;refine zCv (cs:=zNa g x.code x.os) ?_ (by kernel_rfl);have hno:¬∀e∈E,zAu g e=false:=fun hh=>by have:=hh e (by rw[hE];simp);rw[he] at this;cases this
  refine zCo (zHu (m:=m) (nd:=nd) (ct:=ct) (s:=s) (D:=D) (g:=g) (code:=x.code) (os:=x.os) (by omega) htrD (fun hn2=>absurd (zNd hF hn2) hno) (fun A2 d C2 hD hd hA2 _ _=>?_) fun A2 d C2 hD hd hA2 hn2=>?_)
  ·obtain⟨r1,r2,r3⟩:=zHx hF hE he hA hD hd hA2;refine zA (Δ:=blk a9 (.cells zTi.toArray uU (0,0))::qI f nd 3 2 ct (A++restart e::C)::dfB m nd ct s (A2++zHt d::C2) Γ) ?_;exact zK7 (X:=[]) (Y:=[]) (by simp) rfl (fun _ _=>RdC.none') (fun _ _=>RdC.none') (by simp) (by simp) (h _ _ ct s (hrest r1 (zQK r2 ht) r3 (by rw[hE] at hle;simpa using hle)))
  ·obtain⟨r1,r2,r3⟩:=zHx hF hE he hA hD hd hA2;exact absurd ⟨hc,by rw[←r2.tag];exact ht⟩ hn2
 ·refine zD fun a9=>?_;refine yX (b:=a9) (l':=zCI e.tag (if x.code=112 then 141 else x.code) os') ?_;refine yC (b:=tag7) (l:=zQ g) (l':=zQ g) ?_;refine yC (b:=o6) (off:=12) (l:=ofF x) (l':=[.int .i64 x.code,x.os.val]) ?_;refine zCv (cs:=zNa g x.code x.os) ?_ (by kernel_rfl);have hno:¬∀e∈E,zAu g e=false:=fun hh=>by have:=hh e (by rw[hE];simp);rw[he] at this;cases this
  refine zCo (zHu (m:=m) (nd:=nd) (ct:=ct) (s:=s) (D:=D) (g:=g) (code:=x.code) (os:=x.os) (by omega) htrD (fun hn2=>absurd (zNd hF hn2) hno) (fun A2 d C2 hD hd hA2 hc ht=>?_) fun A2 d C2 hD hd hA2 hn2 s'=>?_)
  ·obtain⟨r1,r2,r3⟩:=zHx hF hE he hA hD hd hA2;exact absurd ⟨hc,by rw[r2.tag];exact ht⟩ hn
  ·obtain⟨r1,r2,r3⟩:=zHx hF hE he hA hD hd hA2;have hle2:(A++C).length≤64:=by rw[hE] at hle;simp only[zgK,zgO] at hle ⊢;omega
   refine zA (Δ:=blk a9 (.cells (zCI e.tag (if x.code=112 then 141 else x.code) os').toArray uU (0,0))::SlC qA 2 os' (O'.flatMap oF)::Sep.stars (O'.map oB)::qI f nd 3 2 ct (A++C)::dfB m nd ct s' (A2++C2) Γ) ?_;rw[←r2.tag];by_cases hc:x.code=112
   ·have:=ho1 hc;subst this;rw[if_pos hc,if_pos hc];exact zK7 (X:=[]) (Y:=[]) (by simp) rfl (fun w hw=>(zO (s:=os') hw).1) (fun _ _=>RdC.none') (by simp) (by simp) (zA (h _ _ ct s' (hdrop r1 r3 hle2)))
   ·have h2:=ho2 hc;have hl2:=congrArg List.length h2;simp only[zgL] at hl2;rw[if_neg hc,if_neg hc];exact zK7 (X:=O') (Y:=x.O) (by omega) h2 (fun w hw=>(zO (s:=os') hw).1) (fun w hw=>ro.old hw) (fun y hy w hw=>zee hy hw.tail) (fun y hy w hw=>(rv y hy).old hw) (zA (h _ _ ct s' (hdrop r1 r3 hle2)))
theorem zZA{x:OpF}{g:zx}{f m i o6 tag7:Nat}{nd ct c7:Int}{E:List jW}{D:List DEn}{s:Sl}{L:zDZ}(hx:zSG B x)(hfit:zO2 x)(hi:i≤100)(h4:¬c7=4)(hR:zGZ B L i ct E D)
  (h:∀E' D' ct' s',zGZ B L (i+1) ct' E' D'→HG B (qI f nd 3 2 ct' E'::dfB m nd ct' s' D' Γ) (q true)) :
  HG B (blk tag7 (.cells (zQ g).toArray zN (0,0))::blk o6 (.cells (ofF x).toArray vw (0,0))::qI f nd 3 2 ct E::dfB m nd ct s D Γ) (qb.s1 q (some ⟨f,0,none⟩) (some ⟨m,0,none⟩) ⟨o6,0,none⟩ ⟨tag7,0,none⟩ c7 false):=by
 obtain⟨hF,hle,hc0,hci⟩:=hR;have hDl:=zFM hF;obtain⟨rt,ro,rv⟩:=hx;obtain⟨fg,fo,fk,fv⟩:=hfit;have htrE:∀e∈E,0≤e.tag.tr∧e.tag.tr≤2:=fun e he=>by
  obtain⟨j,hj⟩:=zh5 he;obtain⟨d,_,hd⟩:=zSE hF hj;exact hd.tr
 have htrD:∀d∈D,0≤d.tag.tr∧d.tag.tr≤2:=zHw (p:=fun e:jW=>0≤e.tag.tr∧e.tag.tr≤2) (fun a b r ha=>by rw[←r.tag];exact ha) hF htrE;have hsame:zGZ B L (i+1) ct E D:=⟨hF,hle,hc0,by omega⟩
 have hrest:∀{A C:List jW} {e:jW} {A2 C2:List DEn} {d:DEn},F2 (zCV B L) A A2→zCV B L e d→F2 (zCV B L) C C2→(A++e::C).length≤64→zGZ B L (i+1) ct (A++e::C) (A2++d::C2):=fun h1 h2 h3 h4=>⟨zK6 h1 (.cons h2 h3),h4,hc0,by omega⟩
 have hdrop:∀{A C:List jW} {A2 C2:List DEn},F2 (zCV B L) A A2→F2 (zCV B L) C C2→(A++C).length≤64→zGZ B L (i+1) ct (A++C) (A2++C2):=fun h1 h3 h4=>⟨zK6 h1 h3,h4,hc0,by omega⟩
 obtain⟨z1,z2,z3,z4,z5⟩:=zYL fg;unfold qb.s1 qb.s4;refine s_f ?_ (by rfl);refine s_f ?_ (zgU h4);refine yC (b:=o6) (off:=3) (l:=ofF x) (l':=txL x.t) ?_;refine zWQ (t:=x.t) (fun w hw=>zFK rt hw) ⟨by omega,by omega,by omega,fun y hy=>by have:=(z5 y hy).2;omega⟩ fun t1 ht1=>?_;have hr1:qC 2 t1=qC 2 x.t:=zGR ht1 2;have hl1:t1.reads.length<10000000∧t1.writes.length<10000000∧t1.ops.length<10000000:=by
  obtain⟨_,_,b3,b4,b5⟩:=ht1;have:=congrArg List.length b5;simp only[zgL] at this;rw[b3,b4];omega
 have fin:∀{Ψ:List zB} {a17:Nat} {id:List Value} {c:Int} {E':List jW} {D':List DEn} {ct':Int} {s':Sl},[Drops Ψ (blk a17 (.cells id.toArray zBq (0,0))::qI f nd 3 2 ct' E'::dfB m nd ct' s' D' Γ)]→(∃g:zx,id=idF g)→zGZ B L (i+1) ct' E' D'→HG B Ψ (New 44 (idF ⟨0,0,0,0⟩).toArray fun b19=>StN b19 3 id.toArray<|LdN ⟨a17,0,none⟩ 3 fun t90=>LdN b19 3 fun t91=>Pu Tryz.prog (do eqGuard .eql 44 (.tmp 90) (.tmp 91) (.agg t90) (.agg t91);binOp .eql 44 (.agg t90) (.agg t91):Sem Value) Value.bool fun t92=>Ite t92 (q (decide (c=c))) (q false)):=fun {Ψ a17 id c E' D' ct' s'} _ hid hR=>by
  obtain⟨g,rfl⟩:=hid;refine zA (Δ:=blk a17 (.cells (idF g).toArray zBq (0,0))::qI f nd 3 2 ct' E'::dfB m nd ct' s' D' Γ) ?_;refine zD fun b19=>?_;refine yX (b:=b19) (l':=idF g) ?_;refine yC (b:=a17) (l:=idF g) (l':=idF g) ?_;refine yC (b:=b19) (l:=idF g) (l':=idF g) ?_;refine zHQ (xs:=idF g) (ys:=idF g) (ks:=idK) (p:=True) (by simp) ?_;refine s_t ?_ (by simp);rw[zga rfl];exact zA (h E' D' ct' s' hR)
 refine zA (Δ:=qI f nd 3 2 ct E::txC t1 (blk tag7 (.cells (zQ g).toArray zN (0,0))::blk o6 (.cells (ofF x).toArray vw (0,0))::dfB m nd ct s D Γ)) ?_;refine zNZ (t:=t1) (fun w hw=>zKr (Γ:=blk tag7 (.cells (zQ g).toArray zN (0,0))::blk o6 (.cells (ofF x).toArray vw (0,0))::dfB m nd ct s D Γ) hw) hl1 (by omega) (fun hb=>?_) (fun hb hE=>?_) fun hb hE b t2 ht2=>?_
 ·rw[hr1] at hb;refine zD fun a17=>?_;refine yX (b:=a17) (l':=idF ⟨0,0,0,0⟩) ?_;refine yC (b:=o6) (off:=3) (l:=ofF x) (l':=txL x.t) ?_;refine zCo (zHv (m:=m) (nd:=nd) (ct:=ct) (s:=s) (D:=D) (t:=x.t) (fun w hw=>zFK rt hw) ⟨by omega,by omega,by omega⟩ (by omega) (by omega) (fun hb2=>?_) (fun hb2=>absurd (hb2.symm.trans hb) (by decide)) fun hb2=>absurd (hb2.symm.trans hb) (by decide));exact fin (c:=1) (E':=E) (D':=D) (ct':=ct) (s':=s) ⟨⟨0,0,0,0⟩,rfl⟩ hsame
 ·rw[hr1] at hb;refine zD fun a17=>?_;refine yX (b:=a17) (l':=idF ⟨0,0,0,0⟩) ?_;refine yC (b:=o6) (off:=3) (l:=ofF x) (l':=txL x.t) ?_;refine zCo (zHv (m:=m) (nd:=nd) (ct:=ct) (s:=s) (D:=D) (t:=x.t) (fun w hw=>zFK rt hw) ⟨by omega,by omega,by omega⟩ (by omega) (by omega) (fun hb2=>absurd (hb2.symm.trans hb) (by decide)) (fun _ _=>?_) fun _ hl2=>absurd hl2 (by omega));exact fin (c:=2) (E':=E) (D':=D) (ct':=ct) (s':=s) ⟨⟨0,0,0,0⟩,rfl⟩ hsame
 ·rw[hr1] at hb;refine zD fun a17=>?_;refine yX (b:=a17) (l':=idF ⟨nd,3,ct+1,0⟩) ?_;refine yC (b:=o6) (off:=3) (l:=ofF x) (l':=txL x.t) ?_;refine zCo (zHv (m:=m) (nd:=nd) (ct:=ct) (s:=s) (D:=D) (t:=x.t) (fun w hw=>zFK rt hw) ⟨by omega,by omega,by omega⟩ (by omega) (by omega) (fun hb2=>absurd (hb2.symm.trans hb) (by decide)) (fun _ hl2=>absurd hl2 (by omega)) fun _ _ s'=>?_);refine fin (c:=0) (E':=E++[⟨b,⟨nd,3,ct+1,0⟩,t2,none⟩]) (D':=D++[⟨⟨nd,3,ct+1,0⟩,x.t,oZ,false⟩]) (ct':=ct+1) (s':=s') ⟨⟨nd,3,ct+1,0⟩,rfl⟩ ⟨zMC hF ?_,by rw[zgK,zh1];omega,by omega,by omega⟩;obtain⟨a1,a2,a3,a4,a5⟩:=ht1;obtain⟨b1,b2,b3,b4,b5⟩:=ht2;exact⟨rfl,⟨b1.trans a1,b2.trans a2,b3.trans a3,b4.trans a4,b5.trans a5⟩,rfl,(fun o ho=>by cases ho),rt,hb,(by simp)⟩
theorem zZB{x:OpF}{g:zx}{f m i o6 tag7:Nat}{nd ct c7:Int}{E:List jW}{D:List DEn}{s:Sl}{L:zDZ}(hx:zSG B x)(hfit:zO2 x)(hi:i≤100)(hR:zGZ B L i ct E D)
  (h:∀E' D' ct' s',zGZ B L (i+1) ct' E' D'→HG B (qI f nd 3 2 ct' E'::dfB m nd ct' s' D' Γ) (q true)) :
  HG B (blk tag7 (.cells (zQ g).toArray zN (0,0))::blk o6 (.cells (ofF x).toArray vw (0,0))::qI f nd 3 2 ct E::dfB m nd ct s D Γ) (qb.s1 q (some ⟨f,0,none⟩) (some ⟨m,0,none⟩) ⟨o6,0,none⟩ ⟨tag7,0,none⟩ c7 false):=by
 by_cases h4:c7=4;rotate_left
 ·exact zZA hx hfit hi h4 hR h
 obtain⟨hF,hle,hc0,hci⟩:=hR;have hDl:=zFM hF;obtain⟨rt,ro,rv⟩:=hx;obtain⟨fg,fo,fk,fv⟩:=hfit;have htrE:∀e∈E,0≤e.tag.tr∧e.tag.tr≤2:=fun e he=>by
  obtain⟨j,hj⟩:=zh5 he;obtain⟨d,_,hd⟩:=zSE hF hj;exact hd.tr
 have htrD:∀d∈D,0≤d.tag.tr∧d.tag.tr≤2:=zHw (p:=fun e:jW=>0≤e.tag.tr∧e.tag.tr≤2) (fun a b r ha=>by rw[←r.tag];exact ha) hF htrE;have hsame:zGZ B L (i+1) ct E D:=⟨hF,hle,hc0,by omega⟩
 have hrest:∀{A C:List jW} {e:jW} {A2 C2:List DEn} {d:DEn},F2 (zCV B L) A A2→zCV B L e d→F2 (zCV B L) C C2→(A++e::C).length≤64→zGZ B L (i+1) ct (A++e::C) (A2++d::C2):=fun h1 h2 h3 h4=>⟨zK6 h1 (.cons h2 h3),h4,hc0,by omega⟩
 have hdrop:∀{A C:List jW} {A2 C2:List DEn},F2 (zCV B L) A A2→F2 (zCV B L) C C2→(A++C).length≤64→zGZ B L (i+1) ct (A++C) (A2++C2):=fun h1 h3 h4=>⟨zK6 h1 h3,h4,hc0,by omega⟩
 unfold qb.s1 qb.s3;refine s_f ?_ (by rfl);refine s_t ?_ (zga h4);refine yC (b:=tag7) (l:=zQ g) (l':=zQ g) ?_;refine zCo (zan (f:=f) (nd:=nd) (ep:=3) (rg:=2) (ct:=ct) (E:=E) (g:=g) (by omega) (fun hn=>?_) fun A e C hE he hA=>?_)
 ·refine zD fun a9=>?_;refine yX (b:=a9) (l':=zTi) ?_;refine yC (b:=tag7) (l:=zQ g) (l':=zQ g) ?_;refine zCo (zO1 (m:=m) (nd:=nd) (ct:=ct) (s:=s) (D:=D) (g:=g) (by omega) (fun hn2=>?_) (fun A2 d C2 hD hd _=>absurd hn (zQI hF hD hd)));refine zA (Δ:=blk a9 (.cells zTi.toArray uU (0,0))::qI f nd 3 2 ct E::dfB m nd ct s D Γ) ?_;exact zK7 (X:=[]) (Y:=[]) (by simp) rfl (fun _ _=>RdC.none') (fun _ _=>RdC.none') (by simp) (by simp) (h E D ct s hsame)
 ·refine zD fun a9=>?_;refine yX (b:=a9) (l':=zCI e.tag 140 ⟨none,0,0⟩) ?_;refine yC (b:=tag7) (l:=zQ g) (l':=zQ g) ?_;have hno:¬∀e∈E,zAu g e=false:=fun hh=>by have:=hh e (by rw[hE];simp);rw[he] at this;cases this
  refine zCo (zO1 (m:=m) (nd:=nd) (ct:=ct) (s:=s) (D:=D) (g:=g) (by omega) (fun hn2=>absurd (zNd hF hn2) hno) fun A2 d C2 hD hd hA2 s'=>?_);obtain⟨r1,r2,r3⟩:=zHx hF hE he hA hD hd hA2;have hle2:(A++C).length≤64:=by rw[hE] at hle;simp only[zgK,zgO] at hle ⊢;omega
  refine zA (Δ:=blk a9 (.cells (zCI e.tag 140 ⟨none,0,0⟩).toArray uU (0,0))::qI f nd 3 2 ct (A++C)::dfB m nd ct s' (A2++C2) Γ) ?_;rw[←r2.tag];exact zK7 (X:=[]) (Y:=[]) (by simp) rfl (fun _ _=>RdC.none') (fun _ _=>RdC.none') (by simp) (by simp) (h _ _ ct s' (hdrop r1 r3 hle2))
theorem zWR{x:OpF}{g:zx}{f m i:Nat}{nd ct:Int}{E:List jW}{D:List DEn}{s:Sl}{L:zDZ}(hx:zSG B x)(hfit:zO2 x)(hi:i≤100)(hR:zGZ B L i ct E D)
  (h:∀E' D' ct' s',zGZ B L (i+1) ct' E' D'→HG B (qI f nd 3 2 ct' E'::dfB m nd ct' s' D' Γ) (q true)) :
  HG B (qI f nd 3 2 ct E::dfB m nd ct s D Γ) (qb.call (some ⟨f,0,none⟩) (some ⟨m,0,none⟩) (ofF x).toArray (zQ g).toArray q):=by
 refine fun w hw=>zN5 _ _ _ _ _ _ ?_;refine hg hw ?_;clear hw w;unfold qb;refine zD fun o6=>?_;refine zD fun tag7=>?_;refine zh (b:=o6) (l:=ofF x) (x:=x.a) ?_;refine zAw rfl ?_;generalize bitsOf .and .i64 x.a 7=c7;refine zF (fun h2=>?_) fun h2=>?_
 ·refine zA (Δ:=blk tag7 (.cells (zQ g).toArray zN (0,0))::blk o6 (.cells (ofF x).toArray vw (0,0))::qI f nd 3 2 ct E::dfB m nd ct s D Γ) ?_;rw[h2];exact zSI hx hfit hi hR h
 ·refine zA (Δ:=blk tag7 (.cells (zQ g).toArray zN (0,0))::blk o6 (.cells (ofF x).toArray vw (0,0))::qI f nd 3 2 ct E::dfB m nd ct s D Γ) ?_;cases decide (c7=3)
  ·exact zZB hx hfit hi hR h
  ·exact zSI hx hfit hi hR h
end
end
end Go.Proofs.YtlelhlcjaapkoaaGreat
