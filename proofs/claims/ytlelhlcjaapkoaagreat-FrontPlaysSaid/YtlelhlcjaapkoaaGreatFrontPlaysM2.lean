/- Texts of the claim FrontPlays, one behind the other. -/
import Derived.Test.YtlelhlcjaapkoaaGreatFrontPlaysM1
import Derived.MapKept
import GoSem.Instr.MapUpdate
import Derived.Maps.RangeRun
import Derived.Laws.StructEq
import Derived.Shelf.SortM.Plain
import Derived.Shelf.SortM.SortNone
import Derived.Ground.SlgmProg
import Derived.Test.YtlelhlcjaapkoaaGreatProg
set_option linter.all false
set_option maxRecDepth 100000
namespace Go.Sep
section
open Go Go.RowKit
def zSf(P:Program)(T J R esz:Nat)(rot:Sl→Int→K→K)(s0:Sl)(i1:Int)(v2:Sl)(Q:Sl→K):K :=
 Slc s0 i1 (s0.n:Int) (s0.c:Int) esz fun _=>
 Ite (decide ((v2.n:Int)=0))
  (Q s0)
  (Ite (decide (i1=(s0.n:Int)))
   (Do P (Builtin.append_ #[T,T] T #[(Sl.val s0),(Sl.val v2)]) Sl.val fun t25=>
   Q t25)
   (Ar (IntKind.wrap .i64 ((s0.n:Int)+(v2.n:Int))) fun t28=>
   Do P (Builtin.cap_ #[T] J #[(Sl.val s0)]) (Value.int .i64) fun t30=>
   Ite (decide (t30<t28))
    (Slc s0 0 i1 (s0.c:Int) esz fun t34=>
    Ar (IntKind.wrap .i64 ((s0.n:Int)+(v2.n:Int))) fun t37=>
    Ar (IntKind.wrap .i64 (t37-i1)) fun t39=>
    Do P (Builtin.append_ #[T,J] T #[(Sl.val t34),(.int .i64 t39)]) Sl.val fun t40=>
    Slc t40 i1 (t40.n:Int) (t40.c:Int) esz fun t43=>
    Do P (Builtin.copy_ #[T,T] J #[(Sl.val t43),(Sl.val v2)]) (Value.int .i64) fun t45=>
    Dr<|
    Ar (IntKind.wrap .i64 (i1+(v2.n:Int))) fun t49=>
    Slc t40 t49 (t40.n:Int) (t40.c:Int) esz fun t50=>
    Slc s0 i1 (s0.n:Int) (s0.c:Int) esz fun t53=>
    Do P (Builtin.copy_ #[T,T] J #[(Sl.val t50),(Sl.val t53)]) (Value.int .i64) fun t54=>
    Q t40)
    (Ar (IntKind.wrap .i64 ((s0.n:Int)+(v2.n:Int))) fun t59=>
    Slc s0 0 t59 (s0.c:Int) esz fun t60=>
    Ar (IntKind.wrap .i64 (i1+(v2.n:Int))) fun t65=>
    Slc t60 t65 (t60.n:Int) (t60.c:Int) esz fun t66=>
    Rd P (Extern.SlicesOverlaps.overlaps #[T,T] #[R] [(Sl.val v2),(Sl.val t66)].toArray) Value.bool fun t67=>
    Ite (!t67)
     (Dr<|
     Ar (IntKind.wrap .i64 (i1+(v2.n:Int))) fun t72=>
     Slc t60 t72 (t60.n:Int) (t60.c:Int) esz fun t73=>
     Slc t60 i1 (t60.n:Int) (t60.c:Int) esz fun t76=>
     Do P (Builtin.copy_ #[T,T] J #[(Sl.val t73),(Sl.val t76)]) (Value.int .i64) fun t77=>
     Slc t60 i1 (t60.n:Int) (t60.c:Int) esz fun t80=>
     Do P (Builtin.copy_ #[T,T] J #[(Sl.val t80),(Sl.val v2)]) (Value.int .i64) fun t82=>
     Q t60)
     (Slc t60 (s0.n:Int) (t60.n:Int) (t60.c:Int) esz fun t86=>
     Do P (Builtin.copy_ #[T,T] J #[(Sl.val t86),(Sl.val v2)]) (Value.int .i64) fun t88=>
     Slc t60 i1 (t60.n:Int) (t60.c:Int) esz fun t91=>
     rot t91 (v2.n:Int)<|
     Q t60))))
def zZ4(P:Program)(T Z esz:Nat)(s0:Sl)(i1 j2:Int)(Q:Sl→K):K :=
 Slc s0 i1 j2 (s0.n:Int) esz fun _=>
 Ite (decide (i1=j2))
  (Q s0)
  (Dr<|
  Slc s0 0 i1 (s0.c:Int) esz fun t22=>
  Slc s0 j2 (s0.n:Int) (s0.c:Int) esz fun t25=>
  Do P (Builtin.append_ #[T,T] T #[(Sl.val t22),(Sl.val t25)]) Sl.val fun t26=>
  Slc t26 (t26.n:Int) (s0.n:Int) (t26.c:Int) esz fun t31=>
  Do P (Builtin.clear_ #[T] Z #[(Sl.val t31)]) id fun _=>
  Q t26)
def zI9(P:Program)(E T:Nat)(s0:Sl)(Q:Sl→K):K :=
 Ite ((s0).a.isNone)
  (Q (Sl.mk none 0 0))
  (New E #[] fun t5=>
  Do P (Builtin.append_ #[T,T] T #[(Sl.val (Sl.mk (some t5) 0 0)),(Sl.val s0)]) Sl.val fun t7=>
  Q t7)
theorem zEE{A X C us:List Value}{p:Nat}(hp:p=A.length)(h:X.length=us.length):zDl (A++(X++C)) p us=A++(us++C):=by
 subst hp;simp only[zDl,zhU,zg9,List.append_cancel_left_eq];rw[←h,List.drop_append,List.drop_eq_nil_of_le (by omega),zg6,show A.length+X.length-A.length=X.length by omega,ziK]
section
variable{P:Program}{B w:World}{Γ Δ Δ2:List zB}{E esz:Nat}{s x:Sl}{vs us:List Value}
theorem zeD{T R t l:Nat}{d:Sl}{cs:List Value}{k:Bool→K}(hd:d=⟨zCW s.a l s.c esz,s.n-l,s.c-l⟩)(h:HG B Γ (k false))[p:zDH s Γ (SlC E esz s vs) Δ][q:Own t Δ (blk t (.cells cs.toArray E (0,0))) Δ2](hc:0<s.c)(he:0<esz)(hT:zFe P T T E esz=true):
  HG B Γ (Rd P (Extern.SlicesOverlaps.overlaps #[T,T] #[R] [(Sl.val ⟨some ⟨t,0,none⟩,1,1⟩),(Sl.val d)].toArray) Value.bool k):=fun w hw=>by
 obtain⟨hs1,_⟩:=zDR hT;obtain⟨hsl,hsz⟩:=zAd hs1;obtain⟨_,_,hsp,hnil⟩:=zH4 hw p;have h1:=hw.perm (p.perm.trans (q.perm.cons _));cases ha:s.a with
 | none=>have:=hnil ha;omega
 | some a=>
  obtain⟨cs2,fz,h2,_,_,hsz2,_,_,_⟩:=zMT h1 ha;have hb2:=h2.block;have hb1:=h2.swap.block;have hne:=h2.swap.apart;obtain⟨b,off,sp⟩:=a;have hsp':=hsp _ ha;simp only at hsp';subst hsp';simp only at hb2 hne hsz2;have hmul:0<s.c*esz:=Nat.mul_pos hc he;refine⟨false,?_,h w hw⟩;have hcut:∃o,zCW s.a l s.c esz=some ⟨b,o,none⟩:=by
   rw[ha];unfold zCW;split
   ·exact⟨_,rfl⟩
   ·exact⟨_,by simp only[zg1,jD];rfl⟩
  obtain⟨o,ho⟩:=hcut;subst hd;simp only[Sl.val,ho];exact Go.Lib.run_overlaps_apart w T R E hsl esz (fun w=>zAB hsz) ⟨t,0,none⟩ ⟨b,o,none⟩ 1 1 _ _ hne E E cs.toArray.size cs2.size (by simp[World.shape?,hb1]) (by simp[World.shape?,hb2]) (by omega) (by simp[World.frozen?,hb1]) (by simp[World.frozen?,hb1])
theorem zBM{t:Nat}{cs:List Value}{T:TypeId}{k:Nat}(he:cs.length=esz)[q:Own t Γ (blk t (.cells cs.toArray T (0,0))) Δ]:∀w,Holds B Γ w→RdC w ⟨some ⟨t,0,none⟩,1,k⟩ esz cs:=fun w hw=>
 RdC.zGF (E:=T) (hw.perm q.perm) zgN (by simp) (by simpa using he) k
theorem zH5{n:Nat}(h:∀v∈vs,qD v=true):∀v∈vs.take n,qD v=true:=fun v hv=>h v (List.mem_of_mem_take hv)
theorem zOO{n:Nat}(h:∀v∈vs,qD v=true):∀v∈vs.drop n,qD v=true:=fun v hv=>h v (List.mem_of_mem_drop hv)
theorem zXg{T J R i t:Nat}{rot:Sl→Int→K→K}{Q:Sl→K}(hi:i≤s.n)(hn:s.n<50000000)(he:us.length=esz)(he0:0<esz)(hvf:∀v∈vs,qD v=true)(huf:∀v∈us,qD v=true)
  (h:∀s',s'.n=s.n+1→HG B (SlC E esz s' (vs.take (i*esz)++us++vs.drop (i*esz))::Δ2) (Q s')) [p:zDH s Γ (SlC E esz s vs) Δ] [q:Own t Δ (blk t (.cells us.toArray E (0,0))) Δ2] (hT:zFe P T T E esz=true) (hJ:zXd P T J E esz=true) :
  HG B Γ (zSf P T J R esz rot s i ⟨some ⟨t,0,none⟩,1,1⟩ Q):=by
 refine fun w hw=>?_;refine hg (hw.perm (p.perm.trans (q.perm.cons _))) ?_;clear hw w p q;refine yw s fun h1 h2 h3 h4=>?_;unfold zSf;dsimp only;refine zAl (lo:=i) (hi:=s.n) (mx:=s.c) ?_;refine s_f ?_;refine zF (fun hb=>?_) fun hb=>?_
 ·have hin:i=s.n:=by simp only[zgH] at hb;omega
  refine qp (us:=us) (zBM he) huf (by simp only;omega) (hT:=hT) fun s' hs'=>?_;have e1:vs.take (i*esz)=vs:=zgh (by rw[h1,hin];exact zgu _);have e2:vs.drop (i*esz)=[]:=List.drop_eq_nil_of_le (by rw[h1,hin];exact zgu _);have h5:=h s' (by simpa using hs');rw[e1,e2,zgy] at h5;exact zA (Δ:=SlC E esz s' (vs++us)::Δ2) h5
 have hin:i<s.n:=by simp only[zgF] at hb;omega
 have hsa:∃a,s.a=some a:=by
  cases ha:s.a with
  | none=>have:=h4 ha;omega
  | some a=>exact⟨a,rfl⟩
 have hle:i*esz≤s.n*esz:=zgn _ hi;have hle1:(i+1)*esz≤s.n*esz:=zgn _ hin;have hx1:(s.n+1)*esz=s.n*esz+esz:=by rw[zhA,Nat.one_mul]
 have hx2:(i+1)*esz=i*esz+esz:=by rw[zhA,Nat.one_mul]
 have hx3:(s.n+1-i)*esz=s.n*esz+esz-i*esz:=by rw[Nat.sub_mul,hx1]
 have hx4:(s.n+1-(i+1))*esz=s.n*esz-i*esz:=by rw[show s.n+1-(i+1)=s.n-i by omega,Nat.sub_mul]
 have hvs:vs=vs.take (i*esz)++vs.drop (i*esz):=(zgz _ _).symm;have hA:(vs.take (i*esz)).length=i*esz:=zXf h1 hi;have hC:(vs.drop (i*esz)).length=s.n*esz-i*esz:=by rw[zhB,h1]
 have hvfa:=zH5 (n:=i*esz) hvf;have hvfc:=zOO (n:=i*esz) hvf;refine qJ ?_;refine zPd hT ?_;refine zF (fun hb=>?_) fun hb=>?_
 ·have hgrow:s.c<s.n+1:=by simp only[zgH] at hb;omega
  refine zAl (lo:=0) (hi:=i) (mx:=s.c) ?_;refine qJ ?_;refine qJ ?_;rw[zKZ h3];have hm:∀z:Nat,z=1→((s.n:Int)+(z:Int)-i).toNat=s.n+1-i:=by omega
  refine zXe (s:=⟨s.a,i-0,s.c-0⟩) (vs:=vs.take (i*esz)) (by omega) (by simp only;omega) (by simp only;omega) (fun s' zs hs' hz hzf=>?_) (fun w hw=>(zO hw (p:=zZ2)).1.take (by omega)) (by simp only;omega) (hT:=hJ);simp only[Nat.sub_zero] at hs';have hs'n:s'.n=s.n+1:=by have:=hm _ rfl;omega
  refine yw s' fun h5 h6 h7 h8=>?_;refine zAl (lo:=i) (hi:=s'.n) (mx:=s'.c) ?_;rw[hm _ rfl] at hz hs';refine zPc (s:=s') (l:=i) (us:=us) (zBM he) (zH5 huf) rfl (by omega) (hT:=hT) ?_;refine xg ?_;refine qJ ?_;refine zAl (lo:=i+1) (hi:=s'.n) (mx:=s'.c) ?_;refine zAl (lo:=i) (hi:=s.n) (mx:=s.c) ?_;refine zPc (s:=s') (l:=i+1) (us:=vs.drop (i*esz)) (fun w hw=>(zO (s:=s) hw).1.drop hi h2 h3) (zH5 hvfc) rfl (by omega) (hT:=hT) ?_;have e:zDl (zDl (vs.take (i*esz)++zs) (i*esz) (us.take ((s'.n-i)*esz))) ((i+1)*esz) ((vs.drop (i*esz)).take ((s'.n-(i+1))*esz))=vs.take (i*esz)++us++vs.drop (i*esz):=by
   rw[hs'n,hx3,hx4,zgh (l:=us) (by omega),zgh (l:=vs.drop (i*esz)) (by omega)];have hz2:zs=zs.take esz++(zs.drop esz++[]):=by simp
   rw[hz2,zEE hA.symm (by rw[zgR,hz];omega),←zg9,zEE (by rw[zgK,hA];omega) (by rw[zhB,hz,hC,hx3];omega)];simp
  rw[e];exact zA (h s' hs'n)
 ·have hroom:s.n+1≤s.c:=by simp only[zgF] at hb;omega
  refine qJ ?_;refine zAl (lo:=0) (hi:=s.n+1) (mx:=s.c) ?_;rw[zKZ h3];refine zeC (s:=s) (m:=1) hroom fun js hj=>?_;simp only[Nat.sub_zero];generalize hs':(⟨s.a,s.n+1,s.c⟩:Sl)=s';have hs'n:s'.n=s.n+1:=by rw[←hs']
  have hs'c:s'.c=s.c:=by rw[←hs']
  have hsp':∀a,s'.a=some a→a.spot=none:=by rw[←hs'];exact h3
  refine qJ ?_;refine zAl (lo:=i+1) (hi:=s'.n) (mx:=s'.c) ?_;refine zeD (s:=s') rfl ?_ (by omega) he0 hT;refine s_t ?_;refine xg ?_;refine qJ ?_;refine zAl (lo:=i+1) (hi:=s'.n) (mx:=s'.c) ?_;refine zAl (lo:=i) (hi:=s'.n) (mx:=s'.c) ?_;have hjf:∀v∈((vs++js).drop (i*esz)).take ((s'.n-(i+1))*esz),qD v=true:=fun v hv=>by
   rw[List.drop_append_of_le_length (by omega),hs'n,hx4,←hC,zhU] at hv;exact hvfc v hv
  refine yw s' fun h5 h6 h7 h8=>?_;refine zPc (s:=s') (l:=i+1) (us:=(vs++js).drop (i*esz)) (fun w hw=>(zO (s:=s') hw).1.drop (by omega) h6 h7) hjf rfl (by omega) (hT:=hT) ?_;refine zAl (lo:=i) (hi:=s'.n) (mx:=s'.c) ?_;refine zPc (s:=s') (l:=i) (us:=us) (zBM he) (zH5 huf) rfl (by omega) (hT:=hT) ?_;have e:zDl (zDl (vs++js) ((i+1)*esz) (((vs++js).drop (i*esz)).take ((s'.n-(i+1))*esz))) (i*esz) (us.take ((s'.n-i)*esz))=vs.take (i*esz)++us++vs.drop (i*esz):=by
   rw[List.drop_append_of_le_length (by omega),hs'n,hx4,←hC,zhU,hx3,zgh (l:=us) (by omega)];generalize hAA:vs.take (i*esz)=A at *;generalize hCC:vs.drop (i*esz)=C at *;have e1:vs++js=(A++(C++js).take esz)++((C++js).drop esz++[]):=by rw[hvs];simp
   rw[e1,zEE (by rw[zgK,hA,zgR,zgK];omega) (by rw[zhB,zgK];omega),zg9,zEE hA.symm (by rw[zgR,zgK];omega)];simp
  rw[e];exact zA (h s' hs'n)
theorem zbS{T Z i j:Nat}{Q:Sl→K}(hij:i<j)(hj:j≤s.n)(hn:s.n<50000000)(hvf:∀v∈vs,qD v=true)
  (h:∀s',s'.n=s.n-(j-i)→HG B (SlC E esz s' (vs.take (i*esz)++vs.drop (j*esz))::Δ) (Q s')) [p:zDH s Γ (SlC E esz s vs) Δ] (hT:zFe P T T E esz=true) :
  HG B Γ (zZ4 P T Z esz s i j Q):=by
 refine fun w hw=>?_;refine hg (hw.perm p.perm) ?_;clear hw w p;refine yw s fun h1 h2 h3 h4=>?_;unfold zZ4;refine zAl (lo:=i) (hi:=j) (mx:=s.n) ?_;refine s_f ?_;refine xg ?_;refine zAl (lo:=0) (hi:=i) (mx:=s.c) ?_;refine zAl (lo:=j) (hi:=s.n) (mx:=s.c) ?_;rw[zKZ h3];intro w hw;have hx:RdC w ⟨zCW s.a j s.c esz,s.n-j,s.c-j⟩ esz (vs.drop (j*esz)):=(zO (s:=s) hw).1.drop hj h2 h3;obtain⟨g1,g2,by',zv,g3,g4,g5,g6,g7,_⟩:=zDR hT;refine hg (k:=fun w=>RdC w ⟨zCW s.a j s.c esz,s.n-j,s.c-j⟩ esz (vs.drop (j*esz))→Do P _ _ _ w) hw (zEZ (s:=s) (m:=i) (c':=s.c) (by omega) (by omega) (zgu _) fun w hw hx=>?_) hx;have hroom:(2*(i+(s.n-j))+800)*by'≤2^48:=by
  have h8:(2*(i+(s.n-j))+800)*by'≤200000800*1000:=Nat.mul_le_mul (by omega) g4
  omega
 obtain⟨s',w',hr,hh,hn',hsome,hin⟩:=zMR (Tr:=T) hw g1 g2 g3 g6 g7 hx (zOO hvf) hroom g5;simp only at hn';refine⟨s',w',by simpa using hr,hg hh ?_⟩;have hs':=hin (by simp only;omega);have hc':s'.c=s.c:=by rw[hs']
 simp only[Nat.sub_zero] at hn' hs' ⊢;refine zAl (lo:=s'.n) (hi:=s.n) (mx:=s'.c) ?_;refine zJs (s:=s') (l:=s'.n) (q:=s.n-s'.n) (m:=s'.c) rfl (zgu _) (by omega) (.inr (by omega)) ?_ (hT:=hT);exact h s' (by omega)
theorem zQy{T:Nat}{Q:Sl→K}(hx:∀w,Holds B Γ w→RdC w s esz us)(hfl:∀u∈us,qD u=true)(hroom:s.n≤100000000)(h:∀s',s'.n=s.n→HG B (SlC E esz s' us::Γ) (Q s'))(hT:zFe P T T E esz=true):
  HG B Γ (zI9 P E T s Q):=by
 unfold zI9;refine fun w hw=>?_;refine hg hw ?_;have hr:=hx w hw;refine zF (fun hb=>?_) fun hb=>?_
 ·have hn:=hr.nil (by simpa using hb);have hl:=hr.len;rw[hn,Nat.zero_mul] at hl;have:us=[]:=zgg.1 hl;subst this;intro w hw;exact h ⟨none,0,0⟩ hn.symm w (hw.ji E esz)
 ·exact zEv hx hfl hroom h (hT:=hT)
end
section
variable{P:Program}{B w:World}{Γ Δ:List zB}{k:K}
theorem least{p:Nat→Prop}(h:∃n,p n):∃n,p n∧∀m,p m→n≤m:=by
 obtain⟨n,hn⟩:=h
 induction n using Nat.strongRecOn with
 | ind n ih=>
  by_cases h:∃m,m<n∧p m
  ·obtain⟨m,h1,h2⟩:=h;exact ih m h1 h2
  ·exact⟨n,hn,fun m hm=>Nat.le_of_not_lt fun h2=>h ⟨m,h2,hm⟩⟩
theorem qH{α ι:Type}{body:(α→K)→α→K}{x:α}(J:α→ι→Prop)(Γf:α→ι→List zB)(m:α→ι→Nat)(i:ι)(h0:J x i)
  (h:∀(k':α→K) x i,J x i→(∀x' i',J x' i'→m x' i'<m x i→HG B (Γf x' i') (k' x'))→HG B (Γf x i) (body k' x)) (hΓ:Γf x i=Γ:=by rfl):HG B Γ (zq body x):=fun w hw=>by
 subst hΓ
 let I:α→World→Prop:=fun x w=>∃i,J x i∧Holds B (Γf x i) w
 let p:α→World→Nat→Prop:=fun x w n=>∃i,J x i∧Holds B (Γf x i) w∧m x i=n
 have hp:∀x w,I x w→∃n,p x w n:=fun x w ⟨i,h1,h2⟩=>⟨_,i,h1,h2,rfl⟩
 let μ:α→World→Nat:=fun x w=>@dite _ (I x w) (Classical.propDecidable _) (fun h=>Classical.choose (least (hp x w h))) fun _=>0
 have hμ:∀x w (h:I x w),p x w (μ x w)∧∀n,p x w n→μ x w≤n:=fun x w h=>by
  have:=Classical.choose_spec (least (hp x w h));simpa[μ,h] using this
 refine zq.of I μ ⟨i,h0,hw⟩ fun x w hI=>?_;obtain⟨i,hj,hw,hm⟩:=(hμ x w hI).1;refine h _ x i hj (fun x' i' hj' hlt w' hw'=>⟨⟨i',hj',hw'⟩,?_⟩) w hw;have:=(hμ x' w' ⟨i',hj',hw'⟩).2 _ ⟨i',hj',hw',rfl⟩;omega
theorem zAa{α:Type}{body:(α→K)→α→K}{x:α}(J:α→Prop)(m:α→Nat)(h0:J x)
  (h:∀(k':α→K) x,J x→(∀x',J x'→m x'<m x→HG B Γ (k' x'))→HG B Γ (body k' x)):HG B Γ (zq body x) :=
 qH (ι:=Unit) (fun x _=>J x) (fun _ _=>Γ) (fun x _=>m x) () h0 fun k' x _ hj hk=>h k' x hj fun x' hj' hm=>hk x' () hj' hm
theorem zBS{x y:K}(h1:HG B Γ x)(h2:HG B Γ y):HG B Γ (All [x,y]):=fun w hw=>all_cons (h1 w hw) (all_cons (h2 w hw) all_nil)
theorem zZ5{g:Nat}{args:List Value}{k:Value→K}(h:HG B Γ (zI P g args.toArray k))(hc:callable P g=true:=by kernel_rfl):HG B Γ (vZ P (.func (.func g) #[] #[]) args k):=fun w hw=>
 ⟨g,#[],#[],rfl,hc,by have:=h w hw;simpa[zI] using this⟩
theorem zEa{g:Nat}{args cs:List Value}{k:Value→K}(h:HG B Γ (zI P g (args++cs).toArray k))(hc:callable P g=true:=by kernel_rfl):HG B Γ (vZ P (.func (.func g) #[] cs.toArray) args k):=fun w hw=>
 ⟨g,#[],cs.toArray,rfl,hc,by have:=h w hw;simpa[zI] using this⟩
end
abbrev bs(l:List UInt8):ByteArray:=⟨l.toArray⟩
abbrev qE(l:List UInt8):Value:=.string (bs l)
theorem zJt(b:ByteArray):∃l,b=bs l:=⟨b.data.toList,by simp[bs]⟩
theorem qZ(l:List UInt8):(bs l).toList=l:=by simp
theorem zCM:∀(x y:List UInt8),Op.bytesLess x y=decide (x<y)
 | [],[]=>by simp[Op.bytesLess]
 | _::_,[]=>by simp[Op.bytesLess]
 | [],_::_=>by simp[Op.bytesLess]
 | a::x,b::y=>by
  rw[Op.bytesLess,zCM x y];simp only[List.cons_lt_cons_iff];by_cases h1:a<b <;> by_cases h2:a=b <;> by_cases h3:x<y <;> simp[h1,h2,h3]
theorem zXh(x y:List UInt8):(!(Op.bytesLess x y||x==y))=decide (y<x):=by
 rw[zCM];by_cases h1:x<y
 ·have:¬y<x:=fun h=>zhM x (ziA h1 h);simp[h1,this]
 ·by_cases h2:x=y
  ·subst h2;simp[h1]
  ·have h3:y<x:=by
    have h4:y≤x:=by rw[←List.not_lt];exact h1
    rcases zh4.1 h4 with h5|h5
    ·exact h5
    ·exact absurd h5.symm h2
   simp[h1,h2,h3]
section
variable{B w:World}{Γ Δ:List zB}{k:K}{α:Type}{F:α→zB}{A C:List α}{x:α}
theorem zHL:(((A++x::C).map F)++Γ).Perm (((A++C).map F)++F x::Γ):=by
 have h2:((A++x::C).map F).Perm (F x::(A++C).map F):=(zhq (a:=x) (l₁:=A) (l₂:=C)).map _;refine(h2.append_right Γ).trans ?_;exact(zhq (a:=F x) (l₁:=(A++C).map F) (l₂:=Γ)).symm
theorem zFB(h:HG B (F x::Sep.stars ((A++C).map F)::Γ) k):HG B (Sep.stars ((A++x::C).map F)::Γ) k:=fun w hw=>
 h w (Holds.flat.2 ((Holds.flat.1 hw).perm zHL)).swap
theorem zAb(h:HG B (Sep.stars ((A++x::C).map F)::Γ) k):HG B (F x::Sep.stars ((A++C).map F)::Γ) k:=fun w hw=>
 h w (Holds.flat.2 ((Holds.flat.1 hw.swap).perm zHL.symm))
end
def bsK(P:Program)(esz:Nat)(x0:Sl)(tv:Value)(cmp2:Value)(Q:Int→Bool→K):K :=
 zq (α:=Int×Int) (fun X x=>
  Ite (decide (x.1<x.2))
   (Ar (IntKind.wrap .i64 (x.1+x.2)) fun t20=>
   Ar (IntKind.wrap .u64 t20) fun t21=>
   Cd (0≤(1:Int))<|
   Ar (zIo .u64 t21 1) fun t22=>
   Ar (IntKind.wrap .i64 t22) fun t23=>
   Idx x0 t23 esz fun t27=>
   LdN t27 esz fun t28=>
   vZ P cmp2 [(.agg t28),tv]<|yH (fun(t30:Int)=>(Value.int .i64) t30) fun t30=>
   Ite (decide (t30<0))
    (Ar (IntKind.wrap .i64 (t23+1)) fun t33=>
    X (t33,x.2))
    (X (x.1,t23)))
   (Ite (decide (x.1<(x0.n:Int)))
    (Idx x0 x.1 esz fun t43=>
    LdN t43 esz fun t44=>
    vZ P cmp2 [(.agg t44),tv]<|yH (fun(t46:Int)=>(Value.int .i64) t46) fun t46=>
    Q x.1 (decide (t46=0)))
    (Q x.1 false))) (0,(x0.n:Int))
section
variable{P:Program}{B w:World}{Γ Δ:List zB}
theorem zGH{α:Type}{f:α→List Value}{esz:Nat}(hf:∀x,(f x).length=esz):∀{L:List α} {i:Nat} {x:α},L[i]?=some x→((L.flatMap f).drop (i*esz)).take esz=f x
 | [],i,x,h=>by simp at h
 | a::L,0,x,h=>by
  simp only[List.getElem?_cons_zero,zg4] at h;subst h;simp only[Nat.zero_mul,zh2,zgi];rw[←hf a,zhU]
 | a::L,i+1,x,h=>by
  simp only[List.getElem?_cons_succ] at h;rw[zgi,zhA,Nat.one_mul,Nat.add_comm,←zgo,←hf a,ziK];rw[hf a];exact zGH hf h
theorem uT{α:Type}(f:α→List Value){esz:Nat}{L:List α}{s:Sl}{j:Nat}{jj:Int}{x:α}{k:Array Value→K}(hf:∀x,(f x).length=esz)(hr:∀w,Holds B Γ w→RdC w s esz (L.flatMap f))(hx:L[j]?=some x)(h:HG B Γ (k (f x).toArray))(hj:jj=(j:Int):=by first|rfl|omega)(he:0<esz:=by omega):
  HG B Γ (Idx s jj esz fun t=>LdN t esz k):=fun w hw=>by subst hj;exact zcT f hf he (hr w hw) hx rfl fun t=>h w hw
theorem je{α:Type}{c:α→Value}{L:List α}{s:Sl}{j:Nat}{jj:Int}{x:α}{k:α→K}(hr:∀w,Holds B Γ w→RdC w s 1 (L.map c))(hx:L[j]?=some x)(h:HG B Γ (k x))(hj:jj=(j:Int):=by first|rfl|omega):HG B Γ (Idx s jj 1 fun t=>Ld t c k):=fun w hw=>by
 subst hj;exact zcS (hr w hw) hx (h w hw)
theorem u7{L:List (List UInt8)}{s:Sl}{j:Nat}{jj:Int}{x:List UInt8}{k:ByteArray→K}(hr:∀w,Holds B Γ w→RdC w s 1 (L.map qE))(hx:L[j]?=some x)(h:HG B Γ (k (bs x)))(hj:jj=(j:Int):=by first|rfl|omega):HG B Γ (Idx s jj 1 fun t=>Ld t Value.string k) :=
 je (L:=L.map bs) (fun w hw=>by have:=hr w hw;simpa[zhc] using this) (by rw[zgk,hx];rfl) h hj
theorem zAM{α:Type}{f:α→List Value}{esz:Nat}{L:List α}{s:Sl}(hf:∀x,(f x).length=esz)(he:0<esz)(hr:RdC w s esz (L.flatMap f)):s.n=L.length:=by
 have:=hr.len;rw[zH f esz hf] at this;exact(zgb he this).symm
theorem zfL{α:Type}{f:α→List Value}{esz E:Nat}{s:Sl}{L:List α}{c:α→Int}{tv cv:Value}{Q:Int→Bool→K}{p:Nat}(hf:∀x,(f x).length=esz)(hL:L.length<1000000000)
  (hlo:∀i x,L[i]?=some x→i<p→c x<0) (hhi:∀i x,L[i]?=some x→p≤i→0≤c x) (hp:p≤L.length)
  (hc:∀x∈L,∀q:Int→K,HG B Γ (q (c x))→HG B Γ (vZ P cv [(.agg (f x).toArray),tv] (yH (fun(t:Int)=>(Value.int .i64) t) q)))
  (h:HG B Γ (Q p (decide (∃x,L[p]?=some x∧c x=0)))) [o:zDH s Γ (SlC E esz s (L.flatMap f)) Δ] (he:0<esz):HG B Γ (bsK P esz s tv cv Q):=by
 refine yw s fun h1 h2 h3 h4=>?_;rw[zH f esz hf] at h1;have hn:s.n=L.length:=(zgb he h1).symm;have ldel:∀(i:Nat) (x:α) (k:Array Value→K),L[i]?=some x→HG B Γ (k (f x).toArray)→HG B Γ (LdN (elA s i esz) esz k):=fun i x k hx hk=>by
  rw[←add0 (elA s i esz)];exact zI8 (s:=s) (by simpa using zGH hf hx) (hf x) hk
 unfold bsK;refine zAa (fun x:Int×Int=>∃a b:Nat,x=((a:Int),(b:Int))∧a≤p∧p≤b∧b≤L.length) (fun x=>(x.2-x.1).toNat) ⟨0,L.length,by rw[hn];rfl,by omega,hp,zgu _⟩ fun k' x hx hk=>?_;obtain⟨a,b,rfl,ha,hb,hbl⟩:=hx;dsimp only;refine zF (fun hlt=>?_) fun hlt=>?_
 ·have hab:a<b:=by simp only[zgH] at hlt;omega
  refine qJ ?_;rw[show IntKind.wrap .u64 ((a:Int)+b)=((a+b:Nat):Int) by rw[zCk (by omega) (by omega)];omega];refine zAw rfl ?_;refine zSe (by omega) ?_;refine zAw (e':=(((a+b) / 2:Nat):Int)) ?_ ?_
  ·show((a+b:Nat):Int).fdiv 2=_;rw[Int.fdiv_eq_ediv_of_nonneg _ (by omega)];omega
  refine qJ ?_;refine zBk (s:=s) (i:=(a+b) / 2) ?_ rfl (by omega);obtain⟨x,hx⟩:∃x,L[(a+b) / 2]?=some x:=⟨_,zgG (by omega)⟩
  refine ldel _ x _ hx (hc x (zgx hx) _ ?_);refine zF (fun h5=>?_) fun h5=>?_
  ·have h6:c x<0:=by simpa using h5
   refine qJ ?_;refine hk _ ⟨(a+b) / 2+1,b,by simp,?_,hb,hbl⟩ (by simp only;omega)
   ·refine Nat.lt_of_not_le fun h7=>?_;have:=hhi _ x hx h7;omega
  ·have h6:0≤c x:=by simpa using h5
   refine hk _ ⟨a,(a+b) / 2,by simp,ha,?_,by omega⟩ (by simp only;omega)
   ·refine Nat.le_of_not_lt fun h7=>?_;have:=hlo _ x hx h7;omega
 ·have hab:a=p∧b=p:=by simp only[zgF] at hlt;omega
  obtain⟨rfl,rfl⟩:=hab;refine zF (fun h5=>?_) fun h5=>?_
  ·have h6:b<L.length:=by simp only[zgH] at h5;omega
   refine zBk (s:=s) (i:=b) ?_ rfl (by omega);obtain⟨x,hx⟩:∃x,L[b]?=some x:=⟨_,zgG h6⟩
   refine ldel _ x _ hx (hc x (zgx hx) _ ?_);have e:decide (∃x,L[b]?=some x∧c x=0)=decide (c x=0):=by simp[hx]
   rw[e] at h;exact h
  ·have h6:¬b<L.length:=by simp only[zgF] at h5;omega
   have e:decide (∃x,L[b]?=some x∧c x=0)=false:=by
    simp only[zgF];rintro⟨x,hx,_⟩;rw[zhz (by omega)] at hx;cases hx
   rw[e] at h;exact h
end
end
section
open Go Go.RowKit
namespace Bt
structure BtT(κ:Type) where
 P:Program
 tI:Nat
 tSI:Nat
 tV:Nat
 tK:Nat
 tSK:Nat
 tN:Nat
 tT:Nat
 nv:Nat
 kz:Value
 vz:List Value
 kV:κ→Value
 cv:Value
 bsC:Sl→κ→Value→(Int→Bool→K)→K
 nsearchC:Option Addr→κ→(Int→Bool→K)→K
 nputC:Option Addr→Array Value→(Array Value→Bool→Option Addr→Option Addr→K)→K
 insIC:Sl→Int→Sl→(Sl→K)→K
 insKC:Sl→Int→Sl→(Sl→K)→K
 cloneIC:Sl→(Sl→K)→K
 cloneKC:Sl→(Sl→K)→K
section
variable{κ:Type}
def zcY(G:BtT κ)  (Q:(Option Addr)→K):K :=
 New G.tN #[(Sl.val ⟨none,0,0⟩),(Sl.val ⟨none,0,0⟩)] fun t2=>
 New G.tT #[(.pointer (some t2)),(.int .i64 0)] fun t4=>
 Q (some t4)
def zT9(G:BtT κ)(n0:(Option Addr))(key1:κ)(Q:Int→Bool→K):K :=
 Nn n0 fun t7=>
 Ld t7 Sl.val fun t9=>
 G.bsC t9 key1 G.cv fun t11x0 t11x1=>
 Q t11x0 t11x1
def zUA(G:BtT κ)(Q:(Array Value)→Bool→K)  (X1:(Option Addr)→K)(key1_1:κ)(value4_1:Addr)(n6_1:(Option Addr)):K :=
 G.nsearchC n6_1 key1_1 fun t16x0 t16x1=>
 Ite t16x1
  (Nn n6_1 fun t21=>
  Ld t21 Sl.val fun t23=>
  Idx t23 t16x0 (G.nv+1) fun t25=>
  LdN (t25.add 1) G.nv fun t27=>
  StN value4_1 G.nv t27<|
  LdN value4_1 G.nv fun r0=>
  Q r0 true)
  (Nn n6_1 fun t29=>
  Ld (t29.add 1) Sl.val fun t31=>
  Ite (decide ((t31.n:Int)=0))
   (LdN value4_1 G.nv fun t34=>
   StN value4_1 G.nv t34<|
   LdN value4_1 G.nv fun r0=>
   Q r0 false)
   (Ld (t29.add 1) Sl.val fun t38=>
   Idx t38 t16x0 1 fun t40=>
   Ld t40 Value.pointer fun t41=>
   X1 t41))
def zcZ(G:BtT κ)(t0:(Option Addr))(key1:κ)(Q:(Array Value)→Bool→K):K :=
 New G.tV G.vz.toArray fun value4=>
 Nn t0 fun t10=>
 Ld t10 Value.pointer fun t12=>
 zq (α:=(Option Addr)) (fun X x=>zUA G Q X key1 value4 x) t12
def zL0(G:BtT κ)(Q:(Array Value)→Bool→(Option Addr)→(Option Addr)→K)  (old4_2:Addr)(had5_2:Bool)(right7_2:Addr)(m12_2:Addr):K :=
 LdN old4_2 G.nv fun t153=>
 StN old4_2 G.nv t153<|
 LdN old4_2 G.nv fun r0=>
 Q r0 had5_2 (some m12_2) (some right7_2)
def zJu(G:BtT κ)(Q:(Array Value)→Bool→(Option Addr)→(Option Addr)→K)  (n0_1:(Option Addr))(old4_1:Addr)(had5_1:Bool):K :=
 Nn n0_1 fun t101=>
 Ld t101 Sl.val fun t103=>
 Ite (decide ((t103.n:Int)≤5))
  (LdN old4_1 G.nv fun t106=>
  StN old4_1 G.nv t106<|
  LdN old4_1 G.nv fun r0=>
  Q r0 had5_1 none none)
  (Ld t101 Sl.val fun t111=>
  Idx t111 2 (G.nv+1) fun t112=>
  LdN t112 (G.nv+1) fun t113=>
  New G.tI (G.kz::G.vz).toArray fun m12=>
  StN m12 (G.nv+1) t113<|
  Ld t101 Sl.val fun t117=>
  Slc t117 3 (t117.n:Int) (t117.c:Int) (G.nv+1) fun t118=>
  G.cloneIC t118 fun t119=>
  New G.tN #[(Sl.val t119),(Sl.val ⟨none,0,0⟩)] fun t121=>
  Ld t101 Sl.val fun t126=>
  Slc t126 0 2 2 (G.nv+1) fun t127=>
  St t101 (Sl.val t127)<|
  Ld (t101.add 1) Sl.val fun t133=>
  Ite (decide ((0:Int)<(t133.n:Int)))
   (Ld (t101.add 1) Sl.val fun t140=>
   Slc t140 3 (t140.n:Int) (t140.c:Int) 1 fun t141=>
   G.cloneKC t141 fun t142=>
   St (t121.add 1) (Sl.val t142)<|
   Ld (t101.add 1) Sl.val fun t149=>
   Slc t149 0 3 3 1 fun t150=>
   St (t101.add 1) (Sl.val t150)<|
   zL0 G Q old4_1 had5_1 t121 m12)
   (zL0 G Q old4_1 had5_1 t121 m12))
def zca(G:BtT κ)(n0:(Option Addr))(x1:(Array Value))(Q:(Array Value)→Bool→(Option Addr)→(Option Addr)→K):K :=
 New G.tI x1 fun x3=>
 New G.tV G.vz.toArray fun old4=>
 Ld x3 G.kV fun t16=>
 G.nsearchC n0 t16 fun t17x0 t17x1=>
 Ite t17x1
  (Nn n0 fun t64=>
  Ld t64 Sl.val fun t66=>
  Idx t66 t17x0 (G.nv+1) fun t68=>
  LdN (t68.add 1) G.nv fun t70=>
  StN old4 G.nv t70<|
  Dr<|
  Ld t64 Sl.val fun t74=>
  LdN (x3.add 1) G.nv fun t77=>
  Idx t74 t17x0 (G.nv+1) fun t78=>
  StN (t78.add 1) G.nv t77<|
  LdN old4 G.nv fun t80=>
  StN old4 G.nv t80<|
  LdN old4 G.nv fun r0=>
  Q r0 true none none)
  (Nn n0 fun t84=>
  Ld (t84.add 1) Sl.val fun t86=>
  Ite (decide ((t86.n:Int)=0))
   (Dr<|yV fun S=>
   LdS S t84 Sl.val fun t93=>
   xJ S x3 (G.nv+1) fun t95=>
   Bld (G.kz::G.vz).toArray (fun i=>some (i*(G.nv+1),(G.nv+1))) [(0,(.agg t95))] fun ct96=>
   New G.tI ct96 fun t96=>
   Sv S<|
   G.insIC t93 t17x0 (Sl.mk (some t96) 1 1) fun t97=>
   St t84 (Sl.val t97)<|
   zJu G Q (some t84) old4 false)
   (Dr<|
   Ld (t84.add 1) Sl.val fun t24=>
   Idx t24 t17x0 1 fun t26=>
   Ld t26 Value.pointer fun t27=>
   LdN x3 (G.nv+1) fun t28=>
   G.nputC t27 t28 fun t29x0 t29x1 t29x2 t29x3=>
   StN old4 G.nv t29x0<|
   Ite (!(t29x2).isNone)
    (Dr<|yV fun S=>
    Nn t29x2 fun t43=>
    LdS S t84 Sl.val fun t40=>
    xJ S t43 (G.nv+1) fun t44=>
    Bld (G.kz::G.vz).toArray (fun i=>some (i*(G.nv+1),(G.nv+1))) [(0,(.agg t44))] fun ct45=>
    New G.tI ct45 fun t45=>
    Sv S<|
    G.insIC t40 t17x0 (Sl.mk (some t45) 1 1) fun t46=>
    St t84 (Sl.val t46)<|
    Ld (t84.add 1) Sl.val fun t53=>
    Ar (IntKind.wrap .i64 (t17x0+1)) fun t55=>
    New G.tK #[(.pointer t29x3)] fun t57=>
    G.insKC t53 t55 (Sl.mk (some t57) 1 1) fun t58=>
    St (t84.add 1) (Sl.val t58)<|
    zJu G Q (some t84) old4 t29x1)
    (zJu G Q (some t84) old4 t29x1)))
def zL1(G:BtT κ)(Q:(Array Value)→Bool→K)  (t6_3:Addr)(old8_3:Addr)(had9_3:Bool):K :=
 LdN old8_3 G.nv fun t51=>
 StN t6_3 G.nv t51<|
 LdN t6_3 G.nv fun r0=>
 Q r0 had9_3
def zJv(G:BtT κ)(Q:(Array Value)→Bool→K)  (t0_2:(Option Addr))(t6_2:Addr)(old8_2:Addr)(had9_2:Bool):K :=
 Ite (!had9_2)
  (Nn t0_2 fun t45=>
  Ld (t45.add 1) (Value.int .i64) fun t47=>
  Ar (IntKind.wrap .i64 (t47+1)) fun t48=>
  St (t45.add 1) (.int .i64 t48)<|
  zL1 G Q t6_2 old8_2 had9_2)
  (zL1 G Q t6_2 old8_2 had9_2)
def zH6(G:BtT κ)(Q:(Array Value)→Bool→K)  (t0_1:(Option Addr))(t6_1:Addr)(old8_1:Addr)(had9_1:Bool)(mid10_1:(Option Addr))(right11_1:(Option Addr)):K :=
 Ite (!(mid10_1).isNone)
  (Dr<|yV fun S=>
  Nn mid10_1 fun t29=>
  Nn t0_1 fun t33=>
  xJ S t29 (G.nv+1) fun t30=>
  LdS S t33 Value.pointer fun t35=>
  All [
   (Bld (G.kz::G.vz).toArray (fun i=>some (i*(G.nv+1),(G.nv+1))) [(0,(.agg t30))] fun ct31=>
   New G.tI ct31 fun t31=>
   Sv S<|
   New G.tK #[(.pointer t35),(.pointer right11_1)] fun t37=>
   Sv S<|
   New G.tN #[(Sl.val (Sl.mk (some t31) 1 1)),(Sl.val (Sl.mk (some t37) 2 2))] fun t39=>
   St t33 (.pointer (some t39))<|
   zJv G Q (some t33) t6_1 old8_1 had9_1),
   (New G.tK #[(.pointer t35),(.pointer right11_1)] fun t37=>
   Sv S<|
   Bld (G.kz::G.vz).toArray (fun i=>some (i*(G.nv+1),(G.nv+1))) [(0,(.agg t30))] fun ct31=>
   New G.tI ct31 fun t31=>
   Sv S<|
   New G.tN #[(Sl.val (Sl.mk (some t31) 1 1)),(Sl.val (Sl.mk (some t37) 2 2))] fun t39=>
   St t33 (.pointer (some t39))<|
   zJv G Q (some t33) t6_1 old8_1 had9_1)
   ])
  (zJv G Q t0_1 t6_1 old8_1 had9_1)
def zcb(G:BtT κ)(t0:(Option Addr))(key1:κ)(value2:(Array Value))(Q:(Array Value)→Bool→K):K :=
 New G.tV value2 fun value5=>
 New G.tV G.vz.toArray fun t6=>
 Dr<|yV fun S=>
 Nn t0 fun t14=>
 LdS S t14 Value.pointer fun t16=>
 xJ S value5 G.nv fun t18=>
 Bld (G.kz::G.vz).toArray ([(0,1),(1,G.nv)][·]?) [(0,(G.kV key1)),(1,(.agg t18))] fun t19=>
 All [
  (G.nputC t16 t19 fun t20x0 t20x1 t20x2 t20x3=>
  New G.tV G.vz.toArray fun old8=>
  StN old8 G.nv t20x0<|
  zH6 G Q (some t14) t6 old8 t20x1 t20x2 t20x3),
  (New G.tV G.vz.toArray fun old8=>
  Sv S<|
  G.nputC t16 t19 fun t20x0 t20x1 t20x2 t20x3=>
  StN old8 G.nv t20x0<|
  zH6 G Q (some t14) t6 old8 t20x1 t20x2 t20x3)
  ]
end
abbrev Cel(n:Nat):={l:List Value // l.length=n∧l.all qD=true}
section
variable{κ:Type}(G:BtT κ)
abbrev BtT.It:=κ×Cel G.nv
def BtT.f(x:G.It):List Value:=G.kV x.1::x.2.1
abbrev BtT.z0(h:G.vz.length=G.nv∧G.vz.all qD=true):Cel G.nv:=⟨G.vz,h⟩
theorem BtT.zAy(x:G.It):(G.f x).length=G.nv+1:=by simp[BtT.f,x.2.2.1]
structure zJA(c:κ→κ→Int):Prop where
 kf:∀k,qD (G.kV k)=true
 kzf:qD G.kz=true
 vz:G.vz.length=G.nv∧G.vz.all qD=true
 TI:zFe G.P G.tSI G.tSI G.tI (G.nv+1)=true
 ZI:zXd G.P G.tSI 3 G.tI (G.nv+1)=true
 TK:zFe G.P G.tSK G.tSK G.tK 1=true
 ZK:zXd G.P G.tSK 3 G.tK 1=true
 tr:∀{a b d},c a b<0→c b d<0→c a d<0
 eq:∀{a b},c a b=0↔a=b
 sw:∀{a b},c a b<0↔0<c b a
 cmp:∀{B:World} {Γ:List zB} (a b:κ) (vs:List Value) (q:Int→K),vs.length=G.nv→HG B Γ (q (c a b))→HG B Γ (vZ G.P G.cv [(.agg (G.kV a::vs).toArray),G.kV b] (yH (fun(t:Int)=>(Value.int .i64) t) q))
 bs:∀s k Q w,bsK G.P (G.nv+1) s (G.kV k) G.cv Q w→G.bsC s k G.cv Q w
 search:∀n k Q w,zT9 G n k Q w→G.nsearchC n k Q w
 put:∀n x Q w,zca G n x Q w→G.nputC n x Q w
 zGd:∃R rot,∀s i v Q w,zSf G.P G.tSI 3 R (G.nv+1) rot s i v Q w→G.insIC s i v Q w
 zSf:∃R rot,∀s i v Q w,zSf G.P G.tSK 3 R 1 rot s i v Q w→G.insKC s i v Q w
 cloneI:∀s Q w,zI9 G.P G.tI G.tSI s Q w→G.cloneIC s Q w
 zI9:∀s Q w,zI9 G.P G.tK G.tSK s Q w→G.cloneKC s Q w
end
section
variable{κ:Type}{G:BtT κ}{c:κ→κ→Int}{B:World}{Γ Δ:List zB}
def Srt(c:κ→κ→Int){ν:Type}(L:List (κ×ν)):Prop:=L.Pairwise fun x y=>c x.1 y.1<0
theorem zPe(ok:zJA G c)(x:G.It):∀v∈G.f x,qD v=true:=fun v hv=>by
 rcases zgS.1 hv with rfl|hv
 ·exact ok.kf _
 ·exact zg2.1 x.2.2.2 v hv
theorem zL2(ok:zJA G c)(L:List G.It):∀v∈L.flatMap G.f,qD v=true:=fun v hv=>by
 obtain⟨x,_,hx⟩:=zhS.1 hv;exact zPe ok x v hx
theorem zJw(ok:zJA G c){b:Nat}{s kd:Sl}{its:List G.It}{k:κ}{Q:Int→Bool→K}[p:Own b Γ (blk b (.cells [s.val,kd.val].toArray G.tN (0,0))) Δ]{Δ2:List zB}[q:zDH s Γ (SlC G.tI (G.nv+1) s (its.flatMap G.f)) Δ2]
  (hs:Srt c its) (hl:its.length≤1000) (hfound:∀A v C,its=A++(k,v)::C→HG B Γ (Q A.length true)) (hnot:∀A C,its=A++C→(∀x∈A,c x.1 k<0)→(∀x∈C,c k x.1<0)→HG B Γ (Q A.length false)) :
  HG B Γ (G.nsearchC (some ⟨b,0,none⟩) k Q):=by
 refine fun w hw=>ok.search _ _ _ _ ?_;refine hg hw ?_;clear hw w;unfold zT9;refine uf ?_;refine zh (b:=b) (x:=s) ?_;refine fun w hw=>ok.bs _ _ _ _ ?_;refine hg hw ?_;clear hw w;obtain⟨A,C,hAC,hA,hC⟩:∃A C,its=A++C∧(∀x∈A,c x.1 k<0)∧∀x∈C,0≤c x.1 k:=by
  clear hfound hnot q hl
  induction its with
  | nil=>exact⟨[],[],rfl,by simp,by simp⟩
  | cons x L ih=>
   have hs':=zgm.1 hs;by_cases h:c x.1 k<0
   ·obtain⟨A,C,h1,h2,h3⟩:=ih hs'.2;exact⟨x::A,C,by rw[h1];rfl,List.forall_mem_cons.2 ⟨h,h2⟩,h3⟩
   ·refine⟨[],x::L,rfl,by simp,fun y hy=>?_⟩;rcases zgS.1 hy with rfl|hy
    ·omega
    ·have h1:=hs'.1 y hy;refine Int.not_lt.1 fun h2=>h (ok.tr h1 h2)
 subst hAC;have hlen:(A++C).length=A.length+C.length:=zgK;refine zfL (s:=s) (L:=A++C) (f:=G.f) (c:=fun x=>c x.1 k) (p:=A.length) G.zAy (by omega) (fun i x hx hi=>?_) (fun i x hx hi=>?_) (by omega) (fun x hx q hq=>ok.cmp _ _ _ _ x.2.2.1 hq) ?_ (by omega)
 ·rw[zhL hi] at hx;exact hA x (zgx hx)
 ·rw[zhE hi] at hx;exact hC x (zgx hx)
 ·have e:(A++C)[A.length]?=C.head?:=by rw[zhE (zgu _),Nat.sub_self,List.head?_eq_getElem?]
  rw[e];cases C with
  | nil=>simpa using hnot A [] rfl hA (by simp)
  | cons x C=>
   have hs2:=(zgf.1 hs).2.1;by_cases h0:c x.1 k=0
   ·have:=ok.eq.1 h0;obtain⟨xk,v⟩:=x;simp only at this;subst this;simpa[h0] using hfound A v C rfl
   ·have h1:0<c x.1 k:=by have:=hC x zgN;omega
    have:=hnot A (x::C) rfl hA (fun y hy=>by
     rcases zgS.1 hy with rfl|hy
     ·exact ok.sw.2 h1
     ·exact ok.tr (ok.sw.2 h1) ((zgm.1 hs2).1 y hy))
    simpa[h0] using this
end
end Bt
end
section
open Go Go.RowKit
namespace Bt
section
variable{κ:Type}{G:BtT κ}{c:κ→κ→Int}{B:World}{Γ Δ:List zB}
theorem zGI{α:Type}{f:α→List Value}{esz:Nat}(hf:∀x,(f x).length=esz):∀(L:List α) (i:Nat),(L.flatMap f).drop (i*esz)=(L.drop i).flatMap f
 | L,0=>by simp
 | [],i+1=>by simp
 | x::L,i+1=>by
  rw[zgi,zh9,←zGI hf L i,zhA,Nat.one_mul,Nat.add_comm,←zgo,←hf x,ziK]
theorem zGJ{α:Type}{f:α→List Value}{esz:Nat}(hf:∀x,(f x).length=esz):∀(L:List α) (i:Nat),(L.flatMap f).take (i*esz)=(L.take i).flatMap f
 | L,0=>by simp
 | [],i+1=>by simp
 | x::L,i+1=>by
  rw[zgi,zhu,zgi,←zGJ hf L i,zhA,Nat.one_mul,Nat.add_comm,←hf x,List.take_length_add_append]
theorem zcc{α:Type}{f:α→List Value}{esz E:Nat}{s:Sl}{L:List α}{i:Nat}{x:α}{k:Array Value→K}(hf:∀x,(f x).length=esz)(hx:L[i]?=some x)(h:HG B Γ (k (f x).toArray))[o:zDH s Γ (SlC E esz s (L.flatMap f)) Δ]:HG B Γ (LdN (elA s i esz) esz k):=by
 rw[←add0 (elA s i esz)];exact zI8 (s:=s) (by simpa using zGH hf hx) (hf x) h
abbrev jT(G:BtT κ)(b:Nat)(s kd:Sl):zB:=blk b (.cells [s.val,kd.val].toArray G.tN (0,0))
abbrev zBt(G:BtT κ)(s:Sl)(its:List G.It):zB:=SlC G.tI (G.nv+1) s (its.flatMap G.f)
abbrev zBn(G:BtT κ)(s:Sl)(kp:List (Option Addr)):zB:=SlC G.tK 1 s (kp.map Value.pointer)
abbrev zB0(G:BtT κ)(b:Nat)(v:Cel G.nv):zB:=blk b (.cells v.1.toArray G.tV (0,0))
theorem zKa{o:Nat}{v:Cel G.nv}{k:Array Value→K}(h:HG B Γ (k v.1.toArray))[p:Own o Γ (zB0 G o v) Δ]:HG B Γ (LdN ⟨o,0,none⟩ G.nv fun t=>StN ⟨o,0,none⟩ G.nv t<|LdN ⟨o,0,none⟩ G.nv k):=by
 have e:(v.1.drop 0).take G.nv=v.1:=by rw[zh2,zgh (ziF v.2.1)]
 refine fun w hw=>?_;refine hg (hw.perm p.perm) ?_;refine yC (b:=o) ?_ e v.2.1;refine yX (b:=o) ?_ v.2.1 v.2.1 v.2.2;refine yC (b:=o) ?_ e v.2.1;exact fun w hw=>h w (hw.perm p.perm.symm)
theorem zUB(kp:List (Option Addr)):∀v∈kp.map Value.pointer,qD v=true:=fun v hv=>by obtain⟨a,_,rfl⟩:=zgV.1 hv;rfl
theorem zSg(kp:List (Option Addr)):(kp.map Value.pointer).length=kp.length*1:=by simp
theorem zcd(ok:zJA G c){o b:Nat}{old:Cel G.nv}{had:Bool}{s kd:Sl}{its:List G.It}{kp:List (Option Addr)}{Q:Array Value→Bool→Option Addr→Option Addr→K}(hs:its.length≤6)(hk:kp=[]∨kp.length=its.length+1)
  (h1:its.length≤5→HG B (jT G b s kd::zBt G s its::zBn G kd kp::Γ) (Q old.1.toArray had none none))
  (h2:∀x,its.length=6→its=its.take 2++x::its.drop 3→∀s1 c1 r s2 c2 mb,HG B (blk mb (.cells (G.f x).toArray G.tI (0,0))::jT G b s1 c1::zBt G s1 (its.take 2)::zBn G c1 (kp.take 3)::jT G r s2 c2::zBt G s2 (its.drop 3)::zBn G c2 (kp.drop 3)::Γ) (Q old.1.toArray had (some ⟨mb,0,none⟩) (some ⟨r,0,none⟩))) :
  HG B (zB0 G o old::jT G b s kd::zBt G s its::zBn G kd kp::Γ) (zJu G Q (some ⟨b,0,none⟩) ⟨o,0,none⟩ had):=by
 refine yw s fun l1 l2 l3 l4=>?_;refine yw kd fun m1 m2 m3 m4=>?_;rw[zH G.f _ G.zAy] at l1;have hn:s.n=its.length:=(zgb (by omega) l1).symm;have hkn:kd.n=kp.length:=by rw[zSg] at m1;omega
 unfold zJu;refine uf ?_;refine zh (b:=b) (x:=s) ?_;refine zF (fun hb=>?_) fun hb=>?_
 ·refine zKa ?_;exact zA (h1 (by simp only[zgH] at hb;omega))
 have h6:its.length=6:=by simp only[zgF] at hb;omega
 obtain⟨x,hx⟩:∃x,its[2]?=some x:=⟨_,zgG (by omega)⟩
 have hsplit:its=its.take 2++x::its.drop 3:=by
  have:=zgj (l:=its) (i:=2) (by omega);rw[zgG (by omega),zg4] at hx;rw[hx] at this;rw[←this,zgz]
 refine zh (b:=b) (x:=s) ?_;refine zBk (s:=s) (i:=2) ?_;refine zcc (s:=s) G.zAy hx ?_;refine zD fun mb=>?_;refine yX (b:=mb) ?_ (by simp[ok.vz.1]) (G.zAy x) (zg2.2 (zPe ok x));refine zh (b:=b) (x:=s) ?_;refine zAl (lo:=3) (hi:=s.n) (mx:=s.c) ?_;refine fun w hw=>ok.cloneI _ _ _ ?_;refine hg hw ?_;clear hw w;have hfl:=zL2 ok its;refine zQy (s:=⟨zCW s.a 3 s.c (G.nv+1),s.n-3,s.c-3⟩) (us:=(its.drop 3).flatMap G.f) (esz:=G.nv+1) (fun w hw=>?_) (zL2 ok _) (by simp only;omega) (fun s2 hs2=>?_) ok.TI
 ·rw[←zGI G.zAy];exact(zO (s:=s) hw).1.drop (by omega) l2 l3
 refine zD fun r=>?_;refine zh (b:=b) (x:=s) ?_;refine zAl (lo:=0) (hi:=2) (mx:=2) ?_;rw[zKZ l3];refine zCN (b:=b) ?_;refine zEZ (s:=s) (m:=2) (c':=2) (by omega) (by omega) (by omega) ?_;rw[zGJ G.zAy];refine zh (b:=b) (x:=kd) ?_;refine zF (fun hb2=>?_) fun hb2=>?_
 ·have hk7:kp.length=7:=by
   simp only[zgH] at hb2;rcases hk with rfl|hk
   ·simp only[zgl] at hkn;omega
   ·omega
  refine zh (b:=b) (x:=kd) ?_;refine zAl (lo:=3) (hi:=kd.n) (mx:=kd.c) ?_;refine fun w hw=>ok.zI9 _ _ _ ?_;refine hg hw ?_;clear hw w;refine zQy (s:=⟨zCW kd.a 3 kd.c 1,kd.n-3,kd.c-3⟩) (us:=(kp.drop 3).map Value.pointer) (esz:=1) (fun w hw=>?_) (zUB _) (by simp only;omega) (fun c2 hc2=>?_) ok.TK
  ·have:=(zO (s:=kd) hw).1.drop (l:=3) (c:=kd.c) (by omega) m2 m3;simpa using this
  refine zCN (b:=r) ?_;refine zh (b:=b) (x:=kd) ?_;refine zAl (lo:=0) (hi:=3) (mx:=3) ?_;rw[zKZ m3];refine zCN (b:=b) ?_;refine zEZ (s:=kd) (m:=3) (c':=3) (by omega) (by omega) (by omega) ?_;rw[show(kp.map Value.pointer).take (3*1)=(kp.take 3).map Value.pointer by simp];unfold zL0;refine zKa ?_;exact zA (h2 x h6 hsplit ⟨s.a,2,2⟩ ⟨kd.a,3,3⟩ r s2 c2 mb)
 ·have hk0:kp=[]:=by
   simp only[zgF] at hb2;rcases hk with rfl|hk
   ·rfl
   ·omega
  have e1:kp.take 3=kp:=by rw[hk0];rfl
  have e2:kp.drop 3=[]:=by rw[hk0];rfl
  simp only[e1,e2] at h2;unfold zL0;refine zKa ?_;refine fun w hw=>?_;refine hg (show Holds B (zBn G ⟨none,0,0⟩ []::_) w from hw.ji G.tK 1) ?_;exact zA (h2 x h6 hsplit ⟨s.a,2,2⟩ kd r s2 ⟨none,0,0⟩ mb)
end
end Bt
end
section
open Go Go.RowKit
namespace Bt
section
variable{κ:Type}{G:BtT κ}{c:κ→κ→Int}{B:World}{Γ Δ:List zB}
abbrev Kid(G:BtT κ):=Nat×List G.It
def ptr(q:Kid G):Option Addr:=some ⟨q.1,0,none⟩
def psL(q0:Kid G)(ps:List (G.It×Kid G)):List G.It:=q0.2++ps.flatMap fun p=>p.1::p.2.2
def zJB(l:List (Kid G×G.It)):List G.It:=l.flatMap fun p=>p.1.2++[p.2]
def zEm(r:List (G.It×Kid G)):List G.It:=r.flatMap fun p=>p.1::p.2.2
theorem zeE:∀(i:Nat) (q0:Kid G) (ps:List (G.It×Kid G)),i≤ps.length→∃l q r,l.length=i∧ps.map Prod.fst=l.map Prod.snd++r.map Prod.fst∧q0::ps.map Prod.snd=l.map Prod.fst++q::r.map Prod.snd∧psL q0 ps=zJB l++q.2++zEm r
 | 0,q0,ps,_=>⟨[],q0,ps,rfl,rfl,rfl,by simp[psL,zJB,zEm]⟩
 | i+1,q0,[],h=>by simp at h
 | i+1,q0,(x,q1)::ps,h=>by
  obtain⟨l,q,r,h1,h2,h3,h4⟩:=zeE i q1 ps (by simpa using h);refine⟨(q0,x)::l,q,r,by simp[h1],by simp[h2],by simp only[zgd,zhC,←h3],?_⟩;have:psL q0 ((x,q1)::ps)=q0.2++x::psL q1 ps:=by simp[psL]
  rw[this,h4];simp[zJB]
theorem zUC:∀(l:List (Kid G×G.It)) (q:Kid G) (r:List (G.It×Kid G)),∃q0 ps,ps.length=l.length+r.length∧ps.map Prod.fst=l.map Prod.snd++r.map Prod.fst∧q0::ps.map Prod.snd=l.map Prod.fst++q::r.map Prod.snd∧psL q0 ps=zJB l++q.2++zEm r
 | [],q,r=>⟨q,r,by simp,rfl,rfl,by simp[psL,zJB,zEm]⟩
 | (p,x)::l,q,r=>by
  obtain⟨q0,ps,h1,h2,h3,h4⟩:=zUC l q r;refine⟨p,(x,q0)::ps,by simp[h1];omega,by simp[h2],by simp only[zgd,zhC,←h3],?_⟩;have:psL p ((x,q0)::ps)=p.2++x::psL q0 ps:=by simp[psL]
  rw[this,h4];simp[zJB]
theorem Srt.sub{ν:Type}{L M:List (κ×ν)}(h:Srt c L)(hs:M.Sublist L):Srt c M:=List.Pairwise.sublist hs h
theorem zSh(ok:zJA G c){k:κ}:∀(l:List (Kid G×G.It)),Srt c (zJB l)→(∀x∈l.map Prod.snd,c x.1 k<0)→∀y∈zJB l,c y.1 k<0
 | [],_,_,y,hy=>by simp[zJB] at hy
 | (p,x)::l,hs,h,y,hy=>by
  have e:zJB ((p,x)::l)=(p.2++[x])++zJB l:=rfl;rw[e] at hs hy;have hx:c x.1 k<0:=h x (by simp);rcases zgP.1 hy with hy|hy
  ·rcases zgP.1 hy with hy|hy
   ·have h1:=(zgf.1 (zgf.1 hs).1).2.2 y hy x (by simp);exact ok.tr h1 hx
   ·rw[zgM.1 hy];exact hx
  ·exact zSh ok l (zgf.1 hs).2.1 (fun z hz=>h z (by simp at hz ⊢;exact .inr hz)) y hy
theorem zPf(ok:zJA G c){k:κ}:∀(r:List (G.It×Kid G)),Srt c (zEm r)→(∀x∈r.map Prod.fst,c k x.1<0)→∀y∈zEm r,c k y.1<0
 | [],_,_,y,hy=>by simp[zEm] at hy
 | (x,q)::r,hs,h,y,hy=>by
  have e:zEm ((x,q)::r)=(x::q.2)++zEm r:=rfl;rw[e] at hs hy;have hx:c k x.1<0:=h x (by simp);rcases zgP.1 hy with hy|hy
  ·rcases zgS.1 hy with rfl|hy
   ·exact hx
   ·exact ok.tr hx ((zgm.1 (zgf.1 hs).1).1 y hy)
  ·exact zPf ok r (zgf.1 hs).2.1 (fun z hz=>h z (by simp at hz ⊢;exact .inr hz)) y hy
theorem zL3(q0:Kid G):∀(ps:List (G.It×Kid G)),(ps.map Prod.fst).Sublist (psL q0 ps)
 | []=>by simp
 | (x,q)::ps=>by
  have:psL q0 ((x,q)::ps)=q0.2++x::psL q ps:=by simp[psL]
  rw[this,zgd];exact((zL3 q ps).cons_cons x).trans (List.sublist_append_right _ _)
def zIO(c:κ→κ→Int){ν:Type}(z:ν)(L:List (κ×ν))(k:κ)(v:ν)(L':List (κ×ν))(old:ν)(had:Bool):Prop :=
 (∃A C,L=A++(k,old)::C∧L'=A++(k,v)::C∧had=true)∨(∃A C,L=A++C∧(∀x∈A,c x.1 k<0)∧(∀x∈C,c k x.1<0)∧L'=A++(k,v)::C∧old=z∧had=false)
theorem zIO.mid{ν:Type}{z v old:ν}{A C L L':List (κ×ν)}{k:κ}{had:Bool}(hA:∀x∈A,c x.1 k<0)(hC:∀x∈C,c k x.1<0)(h:zIO c z L k v L' old had):zIO c z (A++L++C) k v (A++L'++C) old had:=by
 rcases h with⟨A',C',rfl,rfl,rfl⟩|⟨A',C',rfl,h1,h2,rfl,rfl,rfl⟩
 ·exact .inl ⟨A++A',C'++C,by simp,by simp,rfl⟩
 ·refine .inr ⟨A++A',C'++C,by simp,fun x hx=>?_,fun x hx=>?_,by simp,rfl,rfl⟩
  ·rcases zgP.1 hx with hx|hx
   ·exact hA x hx
   ·exact h1 x hx
  ·rcases zgP.1 hx with hx|hx
   ·exact h2 x hx
   ·exact hC x hx
def xV(G:BtT κ):Nat→Nat→Nat→List G.It→zB
 | 0,m,b,L=>ex fun s=>ex fun kd=>Sep.stars [pur ((m=2→L≠[])∧L.length≤5),jT G b s kd,zBt G s L,zBn G kd []]
 | d+1,m,b,L=>ex fun s=>ex fun kd=>ex fun q0:Kid G=>ex fun ps:List (G.It×Kid G)=>Sep.stars [pur ((1≤m→ps≠[])∧ps.length≤5∧L=psL q0 ps),jT G b s kd,zBt G s (ps.map Prod.fst),zBn G kd ((q0::ps.map Prod.snd).map ptr),
   Sep.stars ((q0::ps.map Prod.snd).map fun q=>xV G d 2 q.1 q.2)]
instance(priority:=high) zeF{d m b:Nat}{L:List G.It}:Own b (xV G d m b L::Γ) (xV G d m b L) Γ:=⟨.refl _⟩
theorem zUD{m b:Nat}{L:List G.It}{k:K}(h:∀s kd,(m=2→L≠[])→L.length≤5→HG B (jT G b s kd::zBt G s L::zBn G kd []::Γ) k):HG B (xV G 0 m b L::Γ) k :=
 zBg (A':=ex fun s=>ex fun kd=>Sep.stars [pur ((m=2→L≠[])∧L.length≤5),jT G b s kd,zBt G s L,zBn G kd []]) (fun _ h=>h)<|zCE fun s=>zCE fun kd=>zBL<|zHK fun⟨h1,h2⟩=>h s kd h1 h2
theorem zMV{m b:Nat}{L:List G.It}{k:K}{s kd:Sl}(h1:m=2→L≠[])(h2:L.length≤5)(h:HG B (xV G 0 m b L::Γ) k):HG B (jT G b s kd::zBt G s L::zBn G kd []::Γ) k :=
 zZ3 (p:=(m=2→L≠[])∧L.length≤5) ⟨h1,h2⟩<|zFu (Δ:=[pur ((m=2→L≠[])∧L.length≤5),jT G b s kd,zBt G s L,zBn G kd []])<|zSd (F:=fun kd=>Sep.stars [pur ((m=2→L≠[])∧L.length≤5),jT G b s kd,zBt G s L,zBn G kd []]) kd<|
  zSd (F:=fun s=>ex fun kd=>Sep.stars [pur ((m=2→L≠[])∧L.length≤5),jT G b s kd,zBt G s L,zBn G kd []]) s<|zBg (fun _ h=>h) h
abbrev zAr(G:BtT κ)(d:Nat)(ks:List (Kid G)):zB:=Sep.stars (ks.map fun q=>xV G d 2 q.1 q.2)
theorem zUE{d m b:Nat}{L:List G.It}{k:K}(h:∀s kd q0 ps,(1≤m→ps≠[])→ps.length≤5→L=psL q0 ps→HG B (jT G b s kd::zBt G s (ps.map Prod.fst)::zBn G kd ((q0::ps.map Prod.snd).map ptr)::zAr G d (q0::ps.map Prod.snd)::Γ) k):HG B (xV G (d+1) m b L::Γ) k :=
 zBg (A':=ex fun s=>ex fun kd=>ex fun q0:Kid G=>ex fun ps:List (G.It×Kid G)=>Sep.stars [pur ((1≤m→ps≠[])∧ps.length≤5∧L=psL q0 ps),jT G b s kd,zBt G s (ps.map Prod.fst),zBn G kd ((q0::ps.map Prod.snd).map ptr),zAr G d (q0::ps.map Prod.snd)]) (fun _ h=>h)<|
  zCE fun s=>zCE fun kd=>zCE fun q0=>zCE fun ps=>zBL<|zHK fun⟨h1,h2,h3⟩=>h s kd q0 ps h1 h2 h3
theorem zLG{d m b:Nat}{q0:Kid G}{ps:List (G.It×Kid G)}{k:K}{s kd:Sl}(h1:1≤m→ps≠[])(h2:ps.length≤5)(h:HG B (xV G (d+1) m b (psL q0 ps)::Γ) k):
  HG B (jT G b s kd::zBt G s (ps.map Prod.fst)::zBn G kd ((q0::ps.map Prod.snd).map ptr)::zAr G d (q0::ps.map Prod.snd)::Γ) k:=fun w hw=>by
 refine h w ?_;have h3:Holds B (Sep.stars [pur ((1≤m→ps≠[])∧ps.length≤5∧psL q0 ps=psL q0 ps),jT G b s kd,zBt G s (ps.map Prod.fst),zBn G kd ((q0::ps.map Prod.snd).map ptr),zAr G d (q0::ps.map Prod.snd)]::Γ) w:=Holds.flat.2 (Holds.pur.2 ⟨⟨h1,h2,rfl⟩,hw⟩);exact h3.imp fun g hg=>⟨s,kd,q0,ps,hg⟩
theorem zQz{d:Nat}{A C:List (Kid G)}{q:Kid G}:(((A++q::C).map fun q=>xV G d 2 q.1 q.2)++Γ).Perm (((A++C).map fun q=>xV G d 2 q.1 q.2)++xV G d 2 q.1 q.2::Γ):=by
 have h2:((A++q::C).map fun q=>xV G d 2 q.1 q.2).Perm (xV G d 2 q.1 q.2::(A++C).map fun q=>xV G d 2 q.1 q.2):=(zhq (a:=q) (l₁:=A) (l₂:=C)).map _;refine(h2.append_right Γ).trans ?_;exact(zhq (a:=xV G d 2 q.1 q.2) (l₁:=(A++C).map fun q=>xV G d 2 q.1 q.2) (l₂:=Γ)).symm
theorem zbT{d:Nat}{A C:List (Kid G)}{q:Kid G}{k:K}(h:HG B (xV G d 2 q.1 q.2::zAr G d (A++C)::Γ) k):HG B (zAr G d (A++q::C)::Γ) k:=fun w hw=>
 h w (Holds.flat.2 ((Holds.flat.1 hw).perm zQz)).swap
theorem zH7{d:Nat}{A C:List (Kid G)}{q:Kid G}{k:K}(h:HG B (zAr G d (A++q::C)::Γ) k):HG B (xV G d 2 q.1 q.2::zAr G d (A++C)::Γ) k:=fun w hw=>
 h w (Holds.flat.2 ((Holds.flat.1 hw.swap).perm zQz.symm))
end
end Bt
end
section
open Go Go.RowKit
namespace Bt
section
variable{κ:Type}{G:BtT κ}{c:κ→κ→Int}{B:World}{Γ Δ:List zB}
theorem zUF{A C:List G.It}{k:κ}{v0 v:Cel G.nv}:zDl ((A++(k,v0)::C).flatMap G.f) (A.length*(G.nv+1)+1) v.1=(A++(k,v)::C).flatMap G.f:=by
 have e1:(A++(k,v0)::C).flatMap G.f=(A.flatMap G.f++[G.kV k])++(v0.1++C.flatMap G.f):=by simp[BtT.f]
 have e2:(A++(k,v)::C).flatMap G.f=(A.flatMap G.f++[G.kV k])++(v.1++C.flatMap G.f):=by simp[BtT.f]
 rw[e1,e2,zEE (by simp[zH G.f _ G.zAy]) (by rw[v0.2.1,v.2.1])]
theorem zJx{A C:List G.It}{k:κ}{v0:Cel G.nv}:(((A++(k,v0)::C).flatMap G.f).drop (A.length*(G.nv+1)+1)).take G.nv=v0.1:=by
 have e1:(A++(k,v0)::C).flatMap G.f=(A.flatMap G.f++[G.kV k])++(v0.1++C.flatMap G.f):=by simp[BtT.f]
 rw[e1,show A.length*(G.nv+1)+1=(A.flatMap G.f++[G.kV k]).length by simp[zH G.f _ G.zAy],ziK,List.take_left' v0.2.1]
theorem zOP{A C:List G.It}{x:G.It}:((A++C).flatMap G.f).take (A.length*(G.nv+1))++G.f x++((A++C).flatMap G.f).drop (A.length*(G.nv+1))=(A++x::C).flatMap G.f:=by
 rw[zGJ G.zAy,zGI G.zAy,zhU,ziK];simp
theorem zXi{A C:List (Option Addr)}{x:Option Addr}:((A++C).map Value.pointer).take (A.length*1)++[Value.pointer x]++((A++C).map Value.pointer).drop (A.length*1)=(A++x::C).map Value.pointer:=by
 rw[zgs,←ziI,←ziJ,zhU,ziK];simp
theorem zPg{d:Nat}{A C:List (Kid G)}{k:K}(h:HG B (zAr G d A::zAr G d C::Γ) k):HG B (zAr G d (A++C)::Γ) k:=fun w hw=>by
 have h1:=Holds.flat.1 hw;rw[zgT,zg9] at h1;have h2:Holds B ((C.map fun q=>xV G d 2 q.1 q.2)++zAr G d A::Γ) w:=(Holds.flat.2 h1).perm List.perm_middle.symm;exact h w (Holds.flat.2 h2).swap
theorem zSi{q0:Kid G}{ps:List (G.It×Kid G)}{A C:List G.It}(e:ps.map Prod.fst=A++C):∃l q r,A=l.map Prod.snd∧C=r.map Prod.fst∧q0::ps.map Prod.snd=l.map Prod.fst++q::r.map Prod.snd∧psL q0 ps=zJB l++q.2++zEm r∧ps.length=l.length+r.length:=by
 have hl:=congrArg List.length e;simp only[zgL,zgK] at hl;obtain⟨l,q,r,h1,h2,h3,h4⟩:=zeE A.length q0 ps (by omega);rw[e] at h2;obtain⟨h5,h6⟩:=List.append_inj h2 (by simp[h1]);refine⟨l,q,r,h5,h6,h3,h4,?_⟩;rw[hl,h6,h1,zgL]
theorem zOQ(ok:zJA G c):∀(d:Nat) {m b:Nat} {M:List G.It} {k:κ} {v:Cel G.nv} {Γ:List zB} {Q:Array Value→Bool→Option Addr→Option Addr→K},1≤m→Srt c M →
  (∀M' old had,zIO c (G.z0 ok.vz) M k v M' old had→HG B (xV G d 2 b M'::Γ) (Q old.1.toArray had none none)) →
  (∀M1 x M2 old had r mb,zIO c (G.z0 ok.vz) M k v (M1++x::M2) old had→HG B (blk mb (.cells (G.f x).toArray G.tI (0,0))::xV G d 2 b M1::xV G d 2 r M2::Γ) (Q old.1.toArray had (some ⟨mb,0,none⟩) (some ⟨r,0,none⟩))) →
  HG B (xV G d m b M::Γ) (G.nputC (some ⟨b,0,none⟩) (G.f (k,v)).toArray Q):=by
 intro d
 induction d with
 | zero=>
  intro m b M k v Γ Q hm hs h1 h2;refine fun w hw=>ok.put _ _ _ _ ?_;refine hg hw ?_;clear hw w;refine zUD fun s kd _ hl=>?_;refine yw kd fun m1 m2 m3 m4=>?_;unfold zca;refine zD fun x3=>?_;refine zD fun o=>?_;refine zh (b:=x3) (x:=k) ?_;refine zJw ok (s:=s) (kd:=kd) hs (by omega) (fun A v0 C e=>?_) fun A C e hA hC=>?_
  ·subst e;refine s_t ?_;refine uf ?_;refine yw s fun l1 l2 l3 l4=>?_;rw[zH G.f _ G.zAy] at l1;have hn:s.n=(A++(k,v0)::C).length:=(zgb (by omega) l1).symm;have hlen:(A++(k,v0)::C).length=A.length+(C.length+1):=zgK;refine zh (b:=b) (x:=s) ?_;refine zBk (s:=s) (i:=A.length) ?_;refine zI8 (s:=s) (l':=v0.1) zJx v0.2.1 ?_;refine yX (b:=o) ?_ ok.vz.1 v0.2.1 v0.2.2;refine xg ?_;refine zh (b:=b) (x:=s) ?_;refine yC (b:=x3) (off:=0+1) (l:=G.f (k,v)) (l':=v.1) ?_ (zgh (ziF v.2.1)) v.2.1;refine zBk (s:=s) (i:=A.length) ?_;refine zPb (s:=s) ?_ v.2.1 ?_ v.2.2;rotate_left
   ·rw[zH G.f _ G.zAy,hlen,zhA,zhA];omega
   rw[zUF];refine zKa (v:=v0) ?_;refine zA (Δ:=jT G b s kd::zBt G s (A++(k,v)::C)::zBn G kd []::Γ) ?_;refine zMV (m:=2) (by simp) (by simpa using hl) (h1 _ _ _ (.inl ⟨A,C,rfl,rfl,rfl⟩))
  ·subst e;refine s_f ?_;refine uf ?_;refine zh (b:=b) (x:=kd) ?_;refine s_t ?_ (by simpa using m1.symm);refine xg ?_;refine zVU ?_;refine jK (b:=b) (x:=s) ?_;refine jq (b:=x3) (l':=G.f (k,v)) ?_ (zgh (by simp[G.zAy])) (G.zAy _);refine zBh ?_ (by simp[ok.vz.1]) (G.zAy _);refine zD fun t=>?_;refine vS ?_;obtain⟨R,rot,hins⟩:=ok.zGd;refine yw s fun l1 l2 l3 l4=>?_;rw[zH G.f _ G.zAy] at l1;have hn:s.n=(A++C).length:=(zgb (by omega) l1).symm;have hlen:(A++C).length=A.length+C.length:=zgK;refine fun w hw=>hins _ _ _ _ _ ?_;refine hg hw ?_;clear hw w;refine zXg (s:=s) (i:=A.length) (t:=t) (by omega) (by omega) (G.zAy _) (by omega) (zL2 ok _) (zPe ok _) (fun s' hs'=>?_) ok.TI ok.ZI;rw[zOP];refine zCN (b:=b) ?_;refine zA (Δ:=zB0 G o (G.z0 ok.vz)::jT G b s' kd::zBt G s' (A++(k,v)::C)::zBn G kd []::Γ) ?_;have hput:zIO c (G.z0 ok.vz) (A++C) k v (A++(k,v)::C) (G.z0 ok.vz) false:=.inr ⟨A,C,rfl,hA,hC,rfl,rfl,rfl⟩;refine zcd ok (by simp;omega) (.inl rfl) (fun h5=>?_) fun x h6 hx s1 c1 r s2 c2 mb=>?_
   ·refine zMV (m:=2) (by simp) h5 (h1 _ _ _ hput)
   ·have h7:=h2 ((A++(k,v)::C).take 2) x ((A++(k,v)::C).drop 3) _ _ r mb (by rw[←hx];exact hput);simp only[List.take_nil,List.drop_nil];refine zA (Δ:=jT G b s1 c1::zBt G s1 ((A++(k,v)::C).take 2)::zBn G c1 []::jT G r s2 c2::zBt G s2 ((A++(k,v)::C).drop 3)::zBn G c2 []::blk mb (.cells (G.f x).toArray G.tI (0,0))::Γ) ?_;refine zMV (m:=2) (fun _ h=>?_) (by rw[zgR];omega) ?_
    ·have:=congrArg List.length h;simp only[zgR,zgl] at this;omega
    refine zA (Δ:=jT G r s2 c2::zBt G s2 ((A++(k,v)::C).drop 3)::zBn G c2 []::blk mb (.cells (G.f x).toArray G.tI (0,0))::xV G 0 2 b ((A++(k,v)::C).take 2)::Γ) ?_;refine zMV (m:=2) (fun _ h=>?_) (by rw[zhB];omega) ?_
    ·have:=congrArg List.length h;simp only[zhB,zgl] at this;omega
    exact zA h7
 | succ d ih=>
  intro m b M k v Γ Q hm hs h1 h2;refine fun w hw=>ok.put _ _ _ _ ?_;refine hg hw ?_;clear hw w;refine zUE fun s kd q0 ps hne hl hM=>?_;subst hM;unfold zca;refine zD fun x3=>?_;refine zD fun o=>?_;refine zh (b:=x3) (x:=k) ?_;refine zJw ok (s:=s) (kd:=kd) (hs.sub (zL3 q0 ps)) (by simp;omega) (fun A v0 C e=>?_) fun A C e hA hC=>?_
  ·obtain⟨l,q,r,hA,hC,hK,hL,hlen⟩:=zSi (q0:=q0) e;rw[e,hK];rw[hL] at hs h1 h2;obtain⟨⟨xx,q1⟩,r,rfl,hxx,hC'⟩:=List.map_eq_cons_iff.1 hC.symm;simp only at hxx;subst hxx;subst hA;subst hC';refine s_t ?_;refine uf ?_;refine yw s fun l1 l2 l3 l4=>?_;rw[zH G.f _ G.zAy] at l1;have hil:(l.map Prod.snd++(k,v0)::r.map Prod.fst).length=(l.map Prod.snd).length+(r.length+1):=by simp
   have hn:s.n=(l.map Prod.snd).length+(r.length+1):=by rw[←hil];exact(zgb (by omega) l1).symm
   refine zh (b:=b) (x:=s) ?_;refine zBk (s:=s) (i:=(l.map Prod.snd).length) ?_;refine zI8 (s:=s) (l':=v0.1) zJx v0.2.1 ?_;refine yX (b:=o) ?_ ok.vz.1 v0.2.1 v0.2.2;refine xg ?_;refine zh (b:=b) (x:=s) ?_;refine yC (b:=x3) (off:=0+1) (l:=G.f (k,v)) (l':=v.1) ?_ (zgh (ziF v.2.1)) v.2.1;refine zBk (s:=s) (i:=(l.map Prod.snd).length) ?_;refine zPb (s:=s) ?_ v.2.1 ?_ v.2.2;rotate_left
   ·rw[zH G.f _ G.zAy,hil,zhA,zhA];omega
   rw[zUF];refine zKa (v:=v0) ?_;obtain⟨q0',ps',e1,e2,e3,e4⟩:=zUC l q (((k,v),q1)::r);have e5:l.map Prod.fst++q::(((k,v0),q1)::r).map Prod.snd=q0'::ps'.map Prod.snd:=e3.symm;have e6:l.map Prod.snd++(k,v)::r.map Prod.fst=ps'.map Prod.fst:=e2.symm;rw[e5,e6];refine zA (Δ:=jT G b s kd::zBt G s (ps'.map Prod.fst)::zBn G kd ((q0'::ps'.map Prod.snd).map ptr)::zAr G d (q0'::ps'.map Prod.snd)::Γ) ?_;simp only[zgO] at hlen e1;refine zLG (m:=2) (fun _ h=>?_) (by omega) ?_
   ·rw[h,zgl] at e1;omega
   refine h1 _ _ _ (.inl ⟨zJB l++q.2,q1.2++zEm r,?_,?_,rfl⟩)
   ·simp[zEm]
   ·rw[e4];simp[zEm]
  ·obtain⟨l,q,r,rfl,rfl,hK,hL,hlen⟩:=zSi (q0:=q0) e;rw[e,hK];rw[hL] at hs h1 h2;refine s_f ?_;refine uf ?_;have hkl:((l.map Prod.fst++q::r.map Prod.snd).map ptr).length=l.length+r.length+1:=by simp;omega
   refine yw kd fun m1 m2 m3 m4=>?_;rw[zSg,hkl] at m1;refine yw s fun l1 l2 l3 l4=>?_;rw[zH G.f _ G.zAy] at l1;have hil:(l.map Prod.snd++r.map Prod.fst).length=l.length+r.length:=by simp
   have hn:s.n=l.length+r.length:=by rw[←hil];exact(zgb (by omega) l1).symm
   refine zh (b:=b) (x:=kd) ?_;refine s_f ?_ (by simp;omega);refine xg ?_;refine zh (b:=b) (x:=kd) ?_;refine zBk (s:=kd) (i:=l.length) ?_ (by simp);refine zXc (s:=kd) (x:=ptr q) (by simp) ?_;refine yC (b:=x3) (l':=G.f (k,v)) ?_ (zgh (by simp[G.zAy])) (G.zAy _);refine qc (zAr G d (l.map Prod.fst++q::r.map Prod.snd)) ?_;refine zbT ?_;have hs1:=zgf.1 hs;have hs2:=zgf.1 hs1.1;have hpre:=zSh ok l hs2.1 hA;have hpost:=zPf ok r hs1.2.1 hC;refine ih (m:=2) (by omega) hs2.2.1 (fun M' old had hp=>?_) fun M1 x M2 old had rb mb hp=>?_
   ·refine yX (b:=o) ?_ ok.vz.1 old.2.1 old.2.2;refine s_f ?_;refine zA (Δ:=zB0 G o old::jT G b s kd::zBt G s (l.map Prod.snd++r.map Prod.fst)::zBn G kd ((l.map Prod.fst++q::r.map Prod.snd).map ptr)::xV G d 2 q.1 M'::zAr G d (l.map Prod.fst++r.map Prod.snd)::Γ) ?_;refine zcd ok (by omega) (.inr (by omega)) (fun h5=>?_) fun x h6 hx s1 c1 r s2 c2 mb=>(by omega)
    obtain⟨q0',ps',e1,e2,e3,e4⟩:=zUC l (q.1,M') r;refine zA (Δ:=xV G d 2 q.1 M'::zAr G d (l.map Prod.fst++r.map Prod.snd)::jT G b s kd::zBt G s (l.map Prod.snd++r.map Prod.fst)::zBn G kd ((l.map Prod.fst++q::r.map Prod.snd).map ptr)::Γ) ?_;refine zH7 (q:=(q.1,M')) ?_;have e5:(l.map Prod.fst++q::r.map Prod.snd).map ptr=(l.map Prod.fst++(q.1,M')::r.map Prod.snd).map ptr:=by simp[ptr]
    rw[e5,←e2,←e3];refine zA (Δ:=jT G b s kd::zBt G s (ps'.map Prod.fst)::zBn G kd ((q0'::ps'.map Prod.snd).map ptr)::zAr G d (q0'::ps'.map Prod.snd)::Γ) ?_;refine zLG (m:=2) (fun _ h=>?_) (by omega) ?_
    ·rw[h] at e1;rw[zgl] at e1;exact hne hm (zgg.1 (by omega))
    rw[e4];exact h1 _ _ _ (hp.mid hpre hpost)
   ·refine yX (b:=o) ?_ ok.vz.1 old.2.1 old.2.2;refine s_t ?_;refine xg ?_;refine zVU ?_;refine uf ?_;refine jK (b:=b) (x:=s) ?_;refine jq (b:=mb) (l':=G.f x) ?_ (zgh (by simp[G.zAy])) (G.zAy _);refine zBh ?_ (by simp[ok.vz.1]) (G.zAy _);refine zD fun t=>?_;refine vS ?_;obtain⟨R,rot,hins⟩:=ok.zGd;refine fun w hw=>hins _ _ _ _ _ ?_;refine hg hw ?_;clear hw w;refine zXg (s:=s) (i:=(l.map Prod.snd).length) (t:=t) (by simp;omega) (by omega) (G.zAy _) (by omega) (zL2 ok _) (zPe ok _) (fun s' hs'=>?_) ok.TI ok.ZI;rw[zOP];refine zCN (b:=b) ?_;refine zh (b:=b) (x:=kd) ?_;refine qJ ?_ (by simp;omega) (by simp;omega);refine zD fun t2=>?_;have hkp:(l.map Prod.fst++q::r.map Prod.snd).map ptr=(l.map Prod.fst++[q]).map ptr++(r.map Prod.snd).map ptr:=by simp
    rw[hkp];have hkA:((l.map Prod.fst++[q]).map ptr).length=l.length+1:=by simp
    obtain⟨R2,rot2,hins2⟩:=ok.zSf;refine fun w hw=>hins2 _ _ _ _ _ ?_;refine hg hw ?_;clear hw w;rw[show(((l.map Prod.snd).length:Nat):Int)+1=(((l.map Prod.fst++[q]).map ptr).length:Nat) by rw[hkA];simp];refine zXg (s:=kd) (i:=((l.map Prod.fst++[q]).map ptr).length) (t:=t2) (us:=[Value.pointer (some ⟨rb,0,none⟩)]) (by omega) (by omega) rfl (by omega) (zUB _) (by simp[qD]) (fun kd' hkd'=>?_) ok.TK ok.ZK;rw[zXi];refine zCN (b:=b) ?_;obtain⟨q0',ps',e1,e2,e3,e4⟩:=zUC l (q.1,M1) ((x,(rb,M2))::r);simp only[zgO] at e1;have e5:(l.map Prod.fst++[q]).map ptr++some ⟨rb,0,none⟩::(r.map Prod.snd).map ptr=(q0'::ps'.map Prod.snd).map ptr:=by rw[e3];simp[ptr]
    have e6:l.map Prod.snd++x::r.map Prod.fst=ps'.map Prod.fst:=e2.symm;rw[e5,e6];refine zA (Δ:=xV G d 2 rb M2::zAr G d (l.map Prod.fst++r.map Prod.snd)::xV G d 2 q.1 M1::zB0 G o old::jT G b s' kd'::zBt G s' (ps'.map Prod.fst)::zBn G kd' ((q0'::ps'.map Prod.snd).map ptr)::Γ) ?_;refine zH7 (q:=(rb,M2)) ?_;refine zGG ?_;refine zH7 (q:=(q.1,M1)) ?_;rw[show l.map Prod.fst++(q.1,M1)::(rb,M2)::r.map Prod.snd=q0'::ps'.map Prod.snd from e3.symm];have hput:zIO c (G.z0 ok.vz) (zJB l++q.2++zEm r) k v (psL q0' ps') old had:=by
     rw[e4];have:=hp.mid hpre hpost;simpa[zEm] using this
    refine zA (Δ:=zB0 G o old::jT G b s' kd'::zBt G s' (ps'.map Prod.fst)::zBn G kd' ((q0'::ps'.map Prod.snd).map ptr)::zAr G d (q0'::ps'.map Prod.snd)::Γ) ?_;refine zcd ok (by simp;omega) (.inr (by simp)) (fun h5=>?_) fun y h6 hy s1 c1 r2 s2 c2 mb2=>?_
    ·rw[zgL] at h5;refine zA (Δ:=jT G b s' kd'::zBt G s' (ps'.map Prod.fst)::zBn G kd' ((q0'::ps'.map Prod.snd).map ptr)::zAr G d (q0'::ps'.map Prod.snd)::Γ) ?_;refine zLG (m:=2) (fun _ h=>?_) h5 (h1 _ _ _ hput);rw[h,zgl] at e1;omega
    ·rw[zgL] at h6;obtain⟨P,p3,R,hP,e7⟩:∃P p3 R,P.length=2∧ps'=P++p3::R:=⟨ps'.take 2,ps'[2],ps'.drop 3,by rw[zgR];omega,by rw[←zgj,zgz]⟩
     have hRl:R.length=3:=by have:=congrArg List.length e7;simp only[zgK,zgO] at this;omega
     have t1:(ps'.map Prod.fst).take 2=P.map Prod.fst:=by rw[e7,zgT];exact List.take_left' (by simp[hP])
     have t2:(ps'.map Prod.fst).drop 3=R.map Prod.fst:=by rw[e7,show P++p3::R=(P++[p3])++R by simp,zgT];exact zhi (by simp[hP])
     have t3:q0'::ps'.map Prod.snd=(q0'::P.map Prod.snd)++(p3.2::R.map Prod.snd):=by rw[e7];simp
     have t4:((q0'::ps'.map Prod.snd).map ptr).take 3=(q0'::P.map Prod.snd).map ptr:=by rw[t3,zgT];exact List.take_left' (by simp[hP])
     have t5:((q0'::ps'.map Prod.snd).map ptr).drop 3=(p3.2::R.map Prod.snd).map ptr:=by rw[t3,zgT];exact zhi (by simp[hP])
     have t6:psL q0' ps'=psL q0' P++p3.1::psL p3.2 R:=by rw[e7];simp[psL]
     have t7:y=p3.1:=by
      rw[t1,t2,e7] at hy;simp only[zgT,zgd,List.append_cancel_left_eq,zhZ] at hy;exact hy.1.symm
     rw[t4,t5,t1,t2,t3,t7];refine qc (zAr G d ((q0'::P.map Prod.snd)++(p3.2::R.map Prod.snd))) ?_;refine zPg ?_;refine zA (Δ:=jT G b s1 c1::zBt G s1 (P.map Prod.fst)::zBn G c1 ((q0'::P.map Prod.snd).map ptr)::zAr G d (q0'::P.map Prod.snd)::jT G r2 s2 c2::zBt G s2 (R.map Prod.fst)::zBn G c2 ((p3.2::R.map Prod.snd).map ptr)::zAr G d (p3.2::R.map Prod.snd)::blk mb2 (.cells (G.f p3.1).toArray G.tI (0,0))::Γ) ?_;refine zLG (m:=2) (fun _ h=>by rw[h] at hP;cases hP) (by omega) ?_;refine zA (Δ:=jT G r2 s2 c2::zBt G s2 (R.map Prod.fst)::zBn G c2 ((p3.2::R.map Prod.snd).map ptr)::zAr G d (p3.2::R.map Prod.snd)::blk mb2 (.cells (G.f p3.1).toArray G.tI (0,0))::xV G (d+1) 2 b (psL q0' P)::Γ) ?_;refine zLG (m:=2) (fun _ h=>by rw[h] at hRl;cases hRl) (by omega) ?_;exact zA (h2 _ _ _ _ _ r2 mb2 (t6▸hput))
end
end Bt
end
section
open Go Go.RowKit
namespace Bt
section
variable{κ:Type}{G:BtT κ}{c:κ→κ→Int}{B:World}{Γ Δ:List zB}
def jv(G:BtT κ)(c:κ→κ→Int)(t:Nat)(L:List G.It):zB:=ex fun d=>ex fun b=>Sep.stars [pur (Srt c L),blk t (.cells [.pointer (some ⟨b,0,none⟩),.int .i64 L.length].toArray G.tT (0,0)),xV G d 1 b L]
instance(priority:=high) zeG{t:Nat}{L:List G.It}:Own t (jv G c t L::Γ) (jv G c t L) Γ:=⟨.refl _⟩
theorem zSj{t:Nat}{L:List G.It}{k:K}(h:∀d b,Srt c L→HG B (blk t (.cells [.pointer (some ⟨b,0,none⟩),.int .i64 L.length].toArray G.tT (0,0))::xV G d 1 b L::Γ) k):HG B (jv G c t L::Γ) k :=
 zCE fun d=>zCE fun b=>zBL<|zHK fun h1=>h d b h1
theorem zZ6{t d b:Nat}{L:List G.It}{w:World}(h1:Srt c L)(hw:Holds B (blk t (.cells [.pointer (some ⟨b,0,none⟩),.int .i64 L.length].toArray G.tT (0,0))::xV G d 1 b L::Γ) w):Holds B (jv G c t L::Γ) w:=by
 have h3:Holds B (Sep.stars [pur (Srt c L),blk t (.cells [.pointer (some ⟨b,0,none⟩),.int .i64 L.length].toArray G.tT (0,0)),xV G d 1 b L]::Γ) w:=Holds.flat.2 (Holds.pur.2 ⟨h1,hw⟩);exact h3.imp fun g hg=>⟨d,b,hg⟩
theorem zHM{t d b:Nat}{L:List G.It}{k:K}(h1:Srt c L)(h:HG B (jv G c t L::Γ) k):HG B (blk t (.cells [.pointer (some ⟨b,0,none⟩),.int .i64 L.length].toArray G.tT (0,0))::xV G d 1 b L::Γ) k:=fun w hw=>h w (zZ6 h1 hw)
theorem zQ0{t:Nat}{L:List G.It}{k:K}(h:Srt c L→HG B (jv G c t L::Γ) k):HG B (jv G c t L::Γ) k:=zSj fun d b h1=>zHM h1 (h h1)
theorem zVV{Q:Option Addr→K}(h:∀t,HG B (jv G c t []::Γ) (Q (some ⟨t,0,none⟩))):HG B Γ (zcY G Q):=by
 unfold zcY;refine zD fun b=>?_;refine zD fun t=>?_;refine fun w hw=>?_;refine hg (show Holds B (SlC G.tI (G.nv+1) ⟨none,0,0⟩ []::_) w from hw.ji G.tI (G.nv+1)) ?_;refine fun w hw=>?_;refine hg (show Holds B (SlC G.tK 1 ⟨none,0,0⟩ []::_) w from hw.ji G.tK 1) ?_;refine zA (Δ:=jT G b ⟨none,0,0⟩ ⟨none,0,0⟩::SlC G.tI (G.nv+1) ⟨none,0,0⟩ []::SlC G.tK 1 ⟨none,0,0⟩ []::blk t (.cells [.pointer (some ⟨b,0,none⟩),.int .i64 0].toArray G.tT (0,0))::Γ) ?_;refine zMV (m:=1) (L:=[]) (by simp) (by simp) ?_;refine zGG ?_;exact zHM (L:=[]) List.Pairwise.nil (h t)
theorem xV.weak{d m m' b:Nat}{L:List G.It}(hm:m'=2→m=2)(hm':1≤m'→1≤m):∀h,xV G d m b L h→xV G d m' b L h:=fun h hh=>by
 cases d with
 | zero=>
  obtain⟨s,kd,hh⟩:=hh;exact⟨s,kd,zBp (fun g hg=>⟨fun h2=>hg.1 (hm h2),hg.2⟩) (fun _ h=>h) hh⟩
 | succ d=>
  obtain⟨s,kd,q0,ps,hh⟩:=hh;exact⟨s,kd,q0,ps,zBp (fun g hg=>⟨fun h2=>hg.1 (hm' h2),hg.2⟩) (fun _ h=>h) hh⟩
theorem zIO.srt(ok:zJA G c){ν:Type}{z v old:ν}{L L':List (κ×ν)}{k:κ}{had:Bool}(h:zIO c z L k v L' old had)(hs:Srt c L):Srt c L':=by
 rcases h with⟨A,C,rfl,rfl,rfl⟩|⟨A,C,rfl,h1,h2,rfl,rfl,rfl⟩
 ·obtain⟨a1,a2,a3⟩:=zgf.1 hs;obtain⟨b1,b2⟩:=zgm.1 a2;refine zgf.2 ⟨a1,zgm.2 ⟨fun y hy=>b1 y hy,b2⟩,fun x hx y hy=>?_⟩;rcases zgS.1 hy with rfl|hy
  ·exact a3 x hx (k,old) zgN
  ·exact a3 x hx y (zgI _ hy)
 ·obtain⟨a1,a2,a3⟩:=zgf.1 hs;refine zgf.2 ⟨a1,zgm.2 ⟨fun y hy=>h2 y hy,a2⟩,fun x hx y hy=>?_⟩;rcases zgS.1 hy with rfl|hy
  ·exact h1 x hx
  ·exact a3 x hx y hy
theorem zIO.len{ν:Type}{z v old:ν}{L L':List (κ×ν)}{k:κ}{had:Bool}(h:zIO c z L k v L' old had):L'.length=L.length+(if had then 0 else 1):=by
 rcases h with⟨A,C,rfl,rfl,rfl⟩|⟨A,C,rfl,h1,h2,rfl,rfl,rfl⟩
 ·simp
 ·simp;omega
theorem zZ7{kz a:Value}{vz us:List Value}{n:Nat}(ha:qD a=true)(hz:vz.length=n)(hu:us.length=n):Instr.fill ([(0,1),(1,n)][·]?) (kz::vz).toArray [(0,a),(1,.agg us.toArray)]=some (a::us).toArray:=by
 have h0:a.cells=#[a]:=by cases a <;> first|rfl|(simp[qD] at ha)
 have h1:(Value.agg us.toArray).cells=us.toArray:=rfl;have e0:([(0,1),(1,n)]:List (Nat×Nat))[0]?=some (0,1):=rfl;have e1:([(0,1),(1,n)]:List (Nat×Nat))[1]?=some (1,n):=rfl;simp only[Instr.fill,h0,h1,e0,e1];have h2:=zEQ us [a] vz (by simp;omega);simp[hu,hz];refine⟨by omega,?_⟩;rw[show[a].length=1 from rfl,List.zipIdx_eq_map_add,List.foldl_map] at h2;simpa[Nat.add_comm] using h2
theorem zUG(ok:zJA G c){o t6:Nat}{old:Cel G.nv}{v6:Cel G.nv}{had:Bool}{Q:Array Value→Bool→K}(h:HG B Γ (Q old.1.toArray had)):HG B (zB0 G o old::zB0 G t6 v6::Γ) (zL1 G Q ⟨t6,0,none⟩ ⟨o,0,none⟩ had):=by
 unfold zL1;have e:(old.1.drop 0).take G.nv=old.1:=by rw[zh2,zgh (ziF old.2.1)]
 refine yC (b:=o) ?_ e old.2.1;refine yX (b:=t6) ?_ v6.2.1 old.2.1 old.2.2;refine yC (b:=t6) ?_ e old.2.1;exact zA h
theorem zPh(ok:zJA G c){o t t6 d b n:Nat}{L L':List G.It}{k:κ}{v old v6:Cel G.nv}{had:Bool}{Q:Array Value→Bool→K}(hs:Srt c L)(hL:L.length<1000000000)(hp:zIO c (G.z0 ok.vz) L k v L' old had)
  (h:HG B (jv G c t L'::Γ) (Q old.1.toArray had)) :
  HG B (zB0 G o old::zB0 G t6 v6::blk t (.cells [.pointer (some ⟨b,0,none⟩),.int .i64 L.length].toArray G.tT (0,0))::xV G d 1 b L'::Γ) (zJv G Q (some ⟨t,0,none⟩) ⟨t6,0,none⟩ ⟨o,0,none⟩ had):=by
 unfold zJv;have hlen:=hp.len;refine zF (fun hb=>?_) fun hb=>?_
 ·have h0:had=false:=by simpa using hb
  refine uf ?_;refine zh (b:=t) (x:=(L.length:Int)) ?_;refine qJ ?_;refine zCN (b:=t) ?_;rw[show((L.length:Nat):Int)+1=((L'.length:Nat):Int) by rw[hlen,h0];simp];refine zA (Δ:=zB0 G o old::zB0 G t6 v6::blk t (.cells [.pointer (some ⟨b,0,none⟩),.int .i64 L'.length].toArray G.tT (0,0))::xV G d 1 b L'::Γ) ?_;refine zUG ok ?_;exact zHM (hp.srt ok hs) h
 ·have h0:had=true:=by simpa using hb
  rw[show((L.length:Nat):Int)=((L'.length:Nat):Int) by rw[hlen,h0];simp];refine zUG ok ?_;exact zHM (hp.srt ok hs) h
theorem zUH(ok:zJA G c){o t t6 d b n:Nat}{L L':List G.It}{k:κ}{v old v6:Cel G.nv}{had:Bool}{Q:Array Value→Bool→K}(hs:Srt c L)(hL:L.length<1000000000)(hp:zIO c (G.z0 ok.vz) L k v L' old had)
  (h:HG B (jv G c t L'::Γ) (Q old.1.toArray had)) :
  HG B (zB0 G o old::zB0 G t6 v6::blk t (.cells [.pointer (some ⟨b,0,none⟩),.int .i64 L.length].toArray G.tT (0,0))::xV G d 2 b L'::Γ) (zH6 G Q (some ⟨t,0,none⟩) ⟨t6,0,none⟩ ⟨o,0,none⟩ had none none):=by
 unfold zH6;refine s_f ?_;refine yN b ?_;refine zBg (xV.weak (m':=1) (by simp) (by simp)) ?_;refine zA (Δ:=zB0 G o old::zB0 G t6 v6::blk t (.cells [.pointer (some ⟨b,0,none⟩),.int .i64 L.length].toArray G.tT (0,0))::xV G d 1 b L'::Γ) ?_;exact zPh ok (n:=n) hs hL hp h
theorem zXj{b r b2 t1 t2 d:Nat}{M1 M2:List G.It}{x:G.It}{k:K}(h:HG B (xV G (d+1) 1 b2 (M1++x::M2)::Γ) k):
  HG B (jT G b2 ⟨some ⟨t1,0,none⟩,1,1⟩ ⟨some ⟨t2,0,none⟩,2,2⟩::blk t1 (.cells (G.f x).toArray G.tI (0,0))::blk t2 (.cells [.pointer (some ⟨b,0,none⟩),.pointer (some ⟨r,0,none⟩)].toArray G.tK (0,0))::xV G d 2 b M1::xV G d 2 r M2::Γ) k:=by
 refine yN t1 ?_;refine zBg (A':=zBt G ⟨some ⟨t1,0,none⟩,1,1⟩ [x]) (zAq (vs:=[x].flatMap G.f) (by simp) (by simp[G.zAy])) ?_;refine yN t2 ?_;refine zBg (A':=zBn G ⟨some ⟨t2,0,none⟩,2,2⟩ [some ⟨b,0,none⟩,some ⟨r,0,none⟩]) (zAq (vs:=[Value.pointer (some ⟨b,0,none⟩),Value.pointer (some ⟨r,0,none⟩)]) (by simp) (by simp)) ?_;refine fun w hw=>?_;refine hg (show Holds B (zAr G d []::_) w from Holds.flat.2 hw) ?_;refine zA (Δ:=xV G d 2 r M2::zAr G d []::xV G d 2 b M1::jT G b2 ⟨some ⟨t1,0,none⟩,1,1⟩ ⟨some ⟨t2,0,none⟩,2,2⟩::zBt G ⟨some ⟨t1,0,none⟩,1,1⟩ [x]::zBn G ⟨some ⟨t2,0,none⟩,2,2⟩ [some ⟨b,0,none⟩,some ⟨r,0,none⟩]::Γ) ?_;show HG B (_::zAr G d ([]++[])::_) k;refine zH7 (A:=[]) (C:=[]) (q:=(r,M2)) ?_;refine zGG ?_;refine zH7 (A:=[]) (C:=[(r,M2)]) (q:=(b,M1)) ?_;show HG B (zAr G d (((b,M1):Kid G)::[(x,((r,M2):Kid G))].map Prod.snd)::_::zBt G ⟨some ⟨t1,0,none⟩,1,1⟩ ([(x,((r,M2):Kid G))].map Prod.fst)::zBn G ⟨some ⟨t2,0,none⟩,2,2⟩ ((((b,M1):Kid G)::[(x,((r,M2):Kid G))].map Prod.snd).map ptr)::_) k;refine zA (Δ:=jT G b2 ⟨some ⟨t1,0,none⟩,1,1⟩ ⟨some ⟨t2,0,none⟩,2,2⟩::zBt G ⟨some ⟨t1,0,none⟩,1,1⟩ ([(x,((r,M2):Kid G))].map Prod.fst)::zBn G ⟨some ⟨t2,0,none⟩,2,2⟩ ((((b,M1):Kid G)::[(x,((r,M2):Kid G))].map Prod.snd).map ptr)::zAr G d (((b,M1):Kid G)::[(x,((r,M2):Kid G))].map Prod.snd)::Γ) ?_;refine zLG (m:=1) (by simp) (by simp) ?_;have e:psL ((b,M1):Kid G) [(x,(r,M2))]=M1++x::M2:=by simp[psL]
 rw[e];exact h
theorem zQ1(ok:zJA G c){o t t6 d b n r mb:Nat}{L M1 M2:List G.It}{x:G.It}{k:κ}{v old v6:Cel G.nv}{had:Bool}{Q:Array Value→Bool→K}(hs:Srt c L)(hL:L.length<1000000000)(hp:zIO c (G.z0 ok.vz) L k v (M1++x::M2) old had)
  (h:HG B (jv G c t (M1++x::M2)::Γ) (Q old.1.toArray had)) :
  HG B (zB0 G o old::zB0 G t6 v6::blk t (.cells [.pointer (some ⟨b,0,none⟩),.int .i64 L.length].toArray G.tT (0,0))::blk mb (.cells (G.f x).toArray G.tI (0,0))::xV G d 2 b M1::xV G d 2 r M2::Γ) (zH6 G Q (some ⟨t,0,none⟩) ⟨t6,0,none⟩ ⟨o,0,none⟩ had (some ⟨mb,0,none⟩) (some ⟨r,0,none⟩)):=by
 unfold zH6;refine s_t ?_;refine xg ?_;refine zVU ?_;refine uf ?_;refine uf ?_;refine jq (b:=mb) (l':=G.f x) ?_ (zgh (by simp[G.zAy])) (G.zAy _);refine jK (b:=t) (x:=some ⟨b,0,none⟩) ?_;refine zBS ?_ ?_
 ·refine zBh ?_ (by simp[ok.vz.1]) (G.zAy _);refine zD fun t1=>?_;refine vS ?_;refine zD fun t2=>?_;refine vS ?_;refine zD fun b2=>?_;refine zCN (b:=t) ?_;refine zA (Δ:=jT G b2 ⟨some ⟨t1,0,none⟩,1,1⟩ ⟨some ⟨t2,0,none⟩,2,2⟩::blk t1 (.cells (G.f x).toArray G.tI (0,0))::blk t2 (.cells [.pointer (some ⟨b,0,none⟩),.pointer (some ⟨r,0,none⟩)].toArray G.tK (0,0))::xV G d 2 b M1::xV G d 2 r M2::zB0 G o old::zB0 G t6 v6::blk t (.cells [.pointer (some ⟨b2,0,none⟩),.int .i64 L.length].toArray G.tT (0,0))::Γ) ?_;refine zXj ?_;refine zA (Δ:=zB0 G o old::zB0 G t6 v6::blk t (.cells [.pointer (some ⟨b2,0,none⟩),.int .i64 L.length].toArray G.tT (0,0))::xV G (d+1) 1 b2 (M1++x::M2)::Γ) ?_;exact zPh ok (n:=n) hs hL hp h
 ·refine zD fun t2=>?_;refine vS ?_;refine zBh ?_ (by simp[ok.vz.1]) (G.zAy _);refine zD fun t1=>?_;refine vS ?_;refine zD fun b2=>?_;refine zCN (b:=t) ?_;refine zA (Δ:=jT G b2 ⟨some ⟨t1,0,none⟩,1,1⟩ ⟨some ⟨t2,0,none⟩,2,2⟩::blk t1 (.cells (G.f x).toArray G.tI (0,0))::blk t2 (.cells [.pointer (some ⟨b,0,none⟩),.pointer (some ⟨r,0,none⟩)].toArray G.tK (0,0))::xV G d 2 b M1::xV G d 2 r M2::zB0 G o old::zB0 G t6 v6::blk t (.cells [.pointer (some ⟨b2,0,none⟩),.int .i64 L.length].toArray G.tT (0,0))::Γ) ?_;refine zXj ?_;refine zA (Δ:=zB0 G o old::zB0 G t6 v6::blk t (.cells [.pointer (some ⟨b2,0,none⟩),.int .i64 L.length].toArray G.tT (0,0))::xV G (d+1) 1 b2 (M1++x::M2)::Γ) ?_;exact zPh ok (n:=n) hs hL hp h
theorem zVW(ok:zJA G c){t:Nat}{L:List G.It}{k:κ}{v:Cel G.nv}{Q:Array Value→Bool→K}(hL:L.length<1000000000)(h:∀L' old had,zIO c (G.z0 ok.vz) L k v L' old had→HG B (jv G c t L'::Γ) (Q old.1.toArray had)):
  HG B (jv G c t L::Γ) (zcb G (some ⟨t,0,none⟩) k v.1.toArray Q):=by
 refine zSj fun d b hs=>?_;unfold zcb;refine zD fun v5=>?_;refine zD fun t6=>?_;refine xg ?_;refine zVU ?_;refine uf ?_;refine jK (b:=t) (x:=some ⟨b,0,none⟩) ?_;refine jq (b:=v5) (off:=0) (l:=v.1) (l':=v.1) ?_ (zgh (ziF v.2.1)) v.2.1;refine zXa (cs:=G.f (k,v)) ?_ (zZ7 (ok.kf k) ok.vz.1 v.2.1);refine zBS ?_ ?_
 ·refine zA (Δ:=xV G d 1 b L::blk t (.cells [.pointer (some ⟨b,0,none⟩),.int .i64 L.length].toArray G.tT (0,0))::zB0 G t6 (G.z0 ok.vz)::Γ) ?_;refine zOQ ok d (m:=1) (zgu _) hs (fun M' old had hp=>?_) fun M1 x M2 old had r mb hp=>?_
  ·refine zD fun o=>?_;refine yX (b:=o) ?_ ok.vz.1 old.2.1 old.2.2;refine zA (Δ:=zB0 G o old::zB0 G t6 (G.z0 ok.vz)::blk t (.cells [.pointer (some ⟨b,0,none⟩),.int .i64 L.length].toArray G.tT (0,0))::xV G d 2 b M'::Γ) ?_;exact zUH ok (n:=0) hs hL hp (h _ _ _ hp)
  ·refine zD fun o=>?_;refine yX (b:=o) ?_ ok.vz.1 old.2.1 old.2.2;refine zA (Δ:=zB0 G o old::zB0 G t6 (G.z0 ok.vz)::blk t (.cells [.pointer (some ⟨b,0,none⟩),.int .i64 L.length].toArray G.tT (0,0))::blk mb (.cells (G.f x).toArray G.tI (0,0))::xV G d 2 b M1::xV G d 2 r M2::Γ) ?_;exact zQ1 ok (n:=0) hs hL hp (h _ _ _ hp)
 ·refine zD fun o=>?_;refine vS ?_;refine zA (Δ:=xV G d 1 b L::blk t (.cells [.pointer (some ⟨b,0,none⟩),.int .i64 L.length].toArray G.tT (0,0))::zB0 G t6 (G.z0 ok.vz)::zB0 G o (G.z0 ok.vz)::Γ) ?_;refine zOQ ok d (m:=1) (zgu _) hs (fun M' old had hp=>?_) fun M1 x M2 old had r mb hp=>?_
  ·refine yX (b:=o) ?_ ok.vz.1 old.2.1 old.2.2;refine zA (Δ:=zB0 G o old::zB0 G t6 (G.z0 ok.vz)::blk t (.cells [.pointer (some ⟨b,0,none⟩),.int .i64 L.length].toArray G.tT (0,0))::xV G d 2 b M'::Γ) ?_;exact zUH ok (n:=0) hs hL hp (h _ _ _ hp)
  ·refine yX (b:=o) ?_ ok.vz.1 old.2.1 old.2.2;refine zA (Δ:=zB0 G o old::zB0 G t6 (G.z0 ok.vz)::blk t (.cells [.pointer (some ⟨b,0,none⟩),.int .i64 L.length].toArray G.tT (0,0))::blk mb (.cells (G.f x).toArray G.tI (0,0))::xV G d 2 b M1::xV G d 2 r M2::Γ) ?_;exact zQ1 ok (n:=0) hs hL hp (h _ _ _ hp)
structure At(G:BtT κ) where
 d:Nat
 m:Nat
 b:Nat
 M:List G.It
 W:List zB
 A:List G.It
 C:List G.It
theorem zVX(ok:zJA G c){t:Nat}{L:List G.It}{k:κ}{Q:Array Value→Bool→K}(hfound:∀A v C,L=A++(k,v)::C→HG B (jv G c t L::Γ) (Q v.1.toArray true))(hnot:(∀A C,L=A++C→(∀x∈A,c x.1 k<0)→(∀x∈C,c k x.1<0)→HG B (jv G c t L::Γ) (Q G.vz.toArray false))):
  HG B (jv G c t L::Γ) (zcZ G (some ⟨t,0,none⟩) k Q):=by
 refine zSj fun d b hs=>?_;unfold zcZ;refine zD fun o=>?_;refine uf ?_;refine zh (b:=t) (x:=some ⟨b,0,none⟩) ?_
 let W0:List zB:=blk t (.cells [.pointer (some ⟨b,0,none⟩),.int .i64 L.length].toArray G.tT (0,0))::Γ
 refine zA (Δ:=xV G d 1 b L::zB0 G o (G.z0 ok.vz)::W0) ?_;refine qH (ι:=At G) (fun x i=>x=some ⟨i.b,0,none⟩∧L=i.A++i.M++i.C∧(∀x∈i.A,c x.1 k<0)∧(∀x∈i.C,c k x.1<0)∧∀k',HG B (jv G c t L::Γ) k'→HG B (xV G i.d i.m i.b i.M::i.W) k')
  (fun x i=>xV G i.d i.m i.b i.M::zB0 G o (G.z0 ok.vz)::i.W) (fun x i=>i.d) (⟨d,1,b,L,W0,[],[]⟩:At G) ⟨rfl,by simp,by simp,by simp,fun k' hk=>?_⟩ ?_
 ·refine zA (Δ:=blk t (.cells [.pointer (some ⟨b,0,none⟩),.int .i64 L.length].toArray G.tT (0,0))::xV G d 1 b L::Γ) ?_;exact zHM hs hk
 clear d b W0;rintro k' _ ⟨d,m,b,M,W,A,C⟩ ⟨rfl,hL,hA,hC,cl⟩ hk;simp only at hL hA hC cl hk ⊢;have hsM:Srt c M:=by rw[hL] at hs;exact(zgf.1 (zgf.1 hs).1).2.1
 unfold zUA;cases d with
 | zero=>
  refine zUD fun s kd hm hl=>?_;refine zJw ok (s:=s) (kd:=kd) hsM (by omega) (fun A' v C' e=>?_) fun A' C' e hA' hC'=>?_
  ·subst e;refine s_t ?_;refine uf ?_;refine yw s fun l1 l2 l3 l4=>?_;rw[zH G.f _ G.zAy] at l1;have hn:s.n=(A'++(k,v)::C').length:=(zgb (by omega) l1).symm;have hlen:(A'++(k,v)::C').length=A'.length+(C'.length+1):=zgK;refine zh (b:=b) (x:=s) ?_;refine zBk (s:=s) (i:=A'.length) ?_;refine zI8 (s:=s) (l':=v.1) zJx v.2.1 ?_;refine yX (b:=o) ?_ ok.vz.1 v.2.1 v.2.2;refine yC (b:=o) (off:=0) (l:=v.1) (l':=v.1) ?_ (zgh (ziF v.2.1)) v.2.1;refine zA (Δ:=jT G b s kd::zBt G s (A'++(k,v)::C')::zBn G kd []::W) ?_;refine zMV hm hl (cl _ (hfound (A++A') v (C'++C) ?_));rw[hL];simp
  ·subst e;refine s_f ?_;refine uf ?_;refine yw kd fun m1 m2 m3 m4=>?_;refine zh (b:=b) (x:=kd) ?_;refine s_t ?_ (by simpa using m1.symm);refine zKa (v:=G.z0 ok.vz) ?_;refine zA (Δ:=jT G b s kd::zBt G s (A'++C')::zBn G kd []::W) ?_;refine zMV hm hl (cl _ (hnot (A++A') (C'++C) ?_ (fun x hx=>?_) fun x hx=>?_))
   ·rw[hL];simp
   ·rcases zgP.1 hx with hx|hx
    ·exact hA x hx
    ·exact hA' x hx
   ·rcases zgP.1 hx with hx|hx
    ·exact hC' x hx
    ·exact hC x hx
 | succ d=>
  refine zUE fun s kd q0 ps hne hl hM=>?_;subst hM;refine zJw ok (s:=s) (kd:=kd) (hsM.sub (zL3 q0 ps)) (by simp;omega) (fun A' v C' e=>?_) fun A' C' e hA' hC'=>?_
  ·rw[e];refine s_t ?_;refine uf ?_;refine yw s fun l1 l2 l3 l4=>?_;rw[zH G.f _ G.zAy] at l1;have hn:s.n=(A'++(k,v)::C').length:=(zgb (by omega) l1).symm;have hlen:(A'++(k,v)::C').length=A'.length+(C'.length+1):=zgK;refine zh (b:=b) (x:=s) ?_;refine zBk (s:=s) (i:=A'.length) ?_;refine zI8 (s:=s) (l':=v.1) zJx v.2.1 ?_;refine yX (b:=o) ?_ ok.vz.1 v.2.1 v.2.2;refine yC (b:=o) (off:=0) (l:=v.1) (l':=v.1) ?_ (zgh (ziF v.2.1)) v.2.1;rw[←e];refine zA (Δ:=jT G b s kd::zBt G s (ps.map Prod.fst)::zBn G kd ((q0::ps.map Prod.snd).map ptr)::zAr G d (q0::ps.map Prod.snd)::W) ?_;obtain⟨A2,C2,e2⟩:∃A2 C2,psL q0 ps=A2++(k,v)::C2:=zhf ((zL3 q0 ps).subset (by rw[e];simp));refine zLG hne hl (cl _ (hfound (A++A2) v (C2++C) ?_));rw[hL,e2];simp
  ·obtain⟨l,q,r,rfl,rfl,hK,hL2,hlen⟩:=zSi (q0:=q0) e;rw[hK];rw[hL2] at hsM hL;refine s_f ?_;refine uf ?_;have hkl:((l.map Prod.fst++q::r.map Prod.snd).map ptr).length=l.length+r.length+1:=by simp;omega
   refine yw kd fun m1 m2 m3 m4=>?_;rw[zSg,hkl] at m1;refine zh (b:=b) (x:=kd) ?_;refine s_f ?_ (by simp;omega);refine zh (b:=b) (x:=kd) ?_;refine zBk (s:=kd) (i:=l.length) ?_ (by simp);refine zXc (s:=kd) (x:=ptr q) (by simp) ?_;refine qc (zAr G d (l.map Prod.fst++q::r.map Prod.snd)) ?_;refine zbT ?_;have hs1:=zgf.1 hsM;have hs2:=zgf.1 hs1.1;have hpre:=zSh ok l hs2.1 hA';have hpost:=zPf ok r hs1.2.1 hC';refine zA (Δ:=xV G d 2 q.1 q.2::zB0 G o (G.z0 ok.vz)::zAr G d (l.map Prod.fst++r.map Prod.snd)::jT G b s kd::zBt G s (ps.map Prod.fst)::zBn G kd ((l.map Prod.fst++q::r.map Prod.snd).map ptr)::W) ?_;refine hk _ (⟨d,2,q.1,q.2,zAr G d (l.map Prod.fst++r.map Prod.snd)::jT G b s kd::zBt G s (ps.map Prod.fst)::zBn G kd ((l.map Prod.fst++q::r.map Prod.snd).map ptr)::W,A++zJB l,zEm r++C⟩:At G) ⟨rfl,?_,fun x hx=>?_,fun x hx=>?_,fun k' hk'=>?_⟩ (Nat.lt_succ_self _)
   ·rw[hL];simp
   ·rcases zgP.1 hx with hx|hx
    ·exact hA x hx
    ·exact hpre x hx
   ·rcases zgP.1 hx with hx|hx
    ·exact hpost x hx
    ·exact hC x hx
   ·refine zH7 ?_;rw[←hK];refine zA (Δ:=jT G b s kd::zBt G s (ps.map Prod.fst)::zBn G kd ((q0::ps.map Prod.snd).map ptr)::zAr G d (q0::ps.map Prod.snd)::W) ?_;exact zLG hne hl (cl k' hk')
end
end Bt
end
end Go.Sep
namespace Go.Proofs.YtlelhlcjaapkoaaGreat
section
open Go Go.Sep
set_option maxHeartbeats 4000000
attribute [local irreducible] G Gp Cx Tx Ex Sx Dx Ox Ax Lx Rx Fx Bx Bj Al Do Ld LdN St StN New zI Ar DoU Rd Rd2 Pu Cd Ite Fv vZ zAe uZ yH jm zCj zCt zCx Ext Dead Dr yV Sv LdS xJ RdS zDD Nn Idx zBW zCs Fld Bld Slc zDE Cat All zq jE jY zAp
instance:AT Tryz.prog 208 4:=⟨by kernel_rfl⟩
instance:AT Tryz.prog 386 5:=⟨by kernel_rfl⟩
instance:CB Tryz.prog 229:=⟨by kernel_rfl⟩
instance:CB Tryz.prog 256:=⟨by kernel_rfl⟩
instance:CB Tryz.prog 265:=⟨by kernel_rfl⟩
instance:CB Tryz.prog 266:=⟨by kernel_rfl⟩
instance:CB Tryz.prog 293:=⟨by kernel_rfl⟩
instance:CB Tryz.prog 295:=⟨by kernel_rfl⟩
instance:CB Tryz.prog 297:=⟨by kernel_rfl⟩
instance:CB Tryz.prog 298:=⟨by kernel_rfl⟩
instance:CB Tryz.prog 299:=⟨by kernel_rfl⟩
instance:CB Tryz.prog 300:=⟨by kernel_rfl⟩
instance:CB Tryz.prog 301:=⟨by kernel_rfl⟩
instance:CB Tryz.prog 302:=⟨by kernel_rfl⟩
instance:CB Tryz.prog 303:=⟨by kernel_rfl⟩
instance:CB Tryz.prog 319:=⟨by kernel_rfl⟩
instance:CT Tryz.prog 218:=⟨by kernel_rfl⟩
instance:CT Tryz.prog 3:=⟨by kernel_rfl⟩
instance:CT Tryz.prog 308:=⟨by kernel_rfl⟩
instance:CT Tryz.prog 309:=⟨by kernel_rfl⟩
instance:CT Tryz.prog 310:=⟨by kernel_rfl⟩
instance:CT Tryz.prog 9:=⟨by kernel_rfl⟩
instance:FT Tryz.prog 312 0 0 1:=⟨by kernel_rfl⟩
instance:FT Tryz.prog 312 1 1 1:=⟨by kernel_rfl⟩
instance:FT Tryz.prog 314 0 0 1:=⟨by kernel_rfl⟩
instance:FT Tryz.prog 314 1 1 1:=⟨by kernel_rfl⟩
instance:FT Tryz.prog 386 0 0 1:=⟨by kernel_rfl⟩
instance:FT Tryz.prog 386 1 1 4:=⟨by kernel_rfl⟩
instance:MX Tryz.prog:=⟨mixed⟩
instance:PLT Tryz.prog 312 [(0,1),(1,1)]:=⟨_,Tryz.underlying312,by kernel_rfl⟩
instance:PLT Tryz.prog 314 [(0,1),(1,1)]:=⟨_,Tryz.underlying314,by kernel_rfl⟩
instance:PLT Tryz.prog 386 [(0,1),(1,4)]:=⟨_,Tryz.underlying386,by kernel_rfl⟩
instance:SLT Tryz.prog 309 386 5:=⟨by kernel_rfl⟩
instance:SLT Tryz.prog 310 308 1:=⟨by kernel_rfl⟩
instance:SZ Tryz.prog 208 4:=⟨by kernel_rfl⟩
instance:SZ Tryz.prog 3 1:=⟨by kernel_rfl⟩
instance:SZ Tryz.prog 308 1:=⟨by kernel_rfl⟩
instance:SZ Tryz.prog 309 1:=⟨by kernel_rfl⟩
instance:SZ Tryz.prog 310 1:=⟨by kernel_rfl⟩
instance:SZ Tryz.prog 386 5:=⟨by kernel_rfl⟩
instance:UN Tryz.prog 392 (.pointer 386):=⟨Tryz.underlying392⟩
instance:UN Tryz.prog 399 (.pointer 9):=⟨Tryz.underlying399⟩
instance:ZT Tryz.prog 208 (.agg #[(.bool false),(Sl.val ⟨none,0,0⟩),(.int .i64 0),(.int .u64 0)]):=⟨Tryz.t208,by kernel_rfl,by kernel_rfl⟩
instance:ZT Tryz.prog 308 (.pointer none):=⟨Tryz.t308,by kernel_rfl,by kernel_rfl⟩
instance:ZT Tryz.prog 312 (.agg #[(Sl.val ⟨none,0,0⟩),(Sl.val ⟨none,0,0⟩)]):=⟨Tryz.t312,by kernel_rfl,by kernel_rfl⟩
instance:ZT Tryz.prog 314 (.agg #[(.pointer none),(.int .i64 0)]):=⟨Tryz.t314,by kernel_rfl,by kernel_rfl⟩
instance:ZT Tryz.prog 386 (.agg #[(.string ⟨#[]⟩),(.bool false),(Sl.val ⟨none,0,0⟩),(.int .i64 0),(.int .u64 0)]):=⟨Tryz.t386,by kernel_rfl,by kernel_rfl⟩
def uV  (Q:Pt→K): K :=
 New 312 #[Sl.val ⟨none,0,0⟩,Sl.val ⟨none,0,0⟩] fun a=>
 New 314 #[(.pointer (some a)),.int .i64 0] fun b=>
 Q (some b)
theorem zEF(Q w)(h:uV  Q w):uV.call  Q w:=by
 exact zJ 5 h Tryz.func111
def qQ.b1(Q:Av→Bool→K)(s:Pt→K)(t:ByteArray)(a:Addr)(c:Pt): K :=
 qV.call c t fun d g=>
 Ite g
  (Nn c fun i=>
  Ld i Sl.val fun j=>
  Idx j d 5 fun k=>
  LdN (k.add 1) 4 fun l=>
  StN a 4 l<|
  LdN a 4 fun b=>
  Q b true)
  (Nn c fun f=>
  Ld (f.add 1) Sl.val fun m=>
  Ite (decide ((m.n:Int)=0))
   (LdN a 4 fun o=>
   StN a 4 o<|
   LdN a 4 fun b=>
   Q b false)
   (Ld (f.add 1) Sl.val fun p=>
   Idx p d 1 fun q=>
   Ld q Value.pointer fun r=>
   s r))
def qQ(d:Pt)(f:ByteArray)(Q:Av→Bool→K): K :=
 New 208 #[.bool false,Sl.val ⟨none,0,0⟩,.int .i64 0,.int .u64 0] fun a=>
 Nn d fun b=>
 Ld b Value.pointer fun c=>
 zq (α:=Pt) (fun X x=>qQ.b1 Q X f a x) c
theorem zC2(a b Q w)(h:qQ a b Q w):qQ.call a b Q w:=by
 have:∀c d,LH 2 (fun x:Pt=>[(1,.string c),(4,(.pointer (some d))),(6,.pointer x)]) (fun X x=>qQ.b1 Q X c d x):=fun _ _=>⟨⟩
 exact zJ 42 h Tryz.func202
def yL.s2(Q:Av→Bool→K)(a:Addr)(d:Bool): K :=
 LdN a 4 fun b=>
 StN a 4 b<|
 LdN a 4 fun c=>
 Q c d
def yL.s1(Q:Av→Bool→K)(b c:Addr)(a:Bool): K :=
 Ite a
  (Ld (b.add 1) (Value.int .i64) fun d=>
  Ar (IntKind.wrap .i64 (d-1)) fun f=>
  St (b.add 1) (.int .i64 f)<|
  yL.s2 Q c a)
  (yL.s2 Q c a)
def yL.s3(Q:Av→Bool→K)(a b:Addr)(c k:Bool): K :=
 Ite k
  (Ld a Value.pointer fun d=>
  Nn d fun f=>
  Ld (f.add 1) Sl.val fun g=>
  Idx g 0 1 fun i=>
  Ld i Value.pointer fun j=>
  St a (.pointer j)<|
  yL.s1 Q a b c)
  (yL.s1 Q a b c)
def yL(o:Pt)(p:ByteArray)(Q:Av→Bool→K): K :=
 New 208 #[.bool false,Sl.val ⟨none,0,0⟩,.int .i64 0,.int .u64 0] fun b=>
 Nn o fun a=>
 Ld a Value.pointer fun d=>
 yx.call d p fun f c=>
 StN b 4 f<|
 Ld a Value.pointer fun g=>
 Nn g fun i=>
 Ld i Sl.val fun j=>
 Ite (decide ((j.n:Int)=0))
  (Ld a Value.pointer fun k=>
  Nn k fun l=>
  Ld (l.add 1) Sl.val fun m=>
  yL.s3 Q a b c (decide ((m.n:Int)=1)))
  (yL.s3 Q a b c false)
def zP.s3(Q:Av→Bool→K)(a d:Addr)(f:Bool): K :=
 LdN d 4 fun b=>
 StN a 4 b<|
 LdN a 4 fun c=>
 Q c f
def zP.s2(Q:Av→Bool→K)(i:Pt)(c d:Addr)(a:Bool): K :=
 Ite (!a)
  (Nn i fun b=>
  Ld (b.add 1) (Value.int .i64) fun f=>
  Ar (IntKind.wrap .i64 (f+1)) fun g=>
  St (b.add 1) (.int .i64 g)<|
  zP.s3 Q c d a)
  (zP.s3 Q c d a)
def zP.s1(Q:Av→Bool→K)(n:Pt)(g j:Addr)(k:Bool)(o p:Pt): K :=
 Ite (!(o).isNone)
  (Dr<|yV fun S=>
  Nn o fun q=>
  Nn n fun a=>
  xJ S q 5 fun l=>
  LdS S a Value.pointer fun m=>
  All [
   (Bld #[(.string ⟨#[]⟩),.bool false,Sl.val ⟨none,0,0⟩,.int .i64 0,.int .u64 0] (fun i=>some (i*5,5)) [(0,.agg l)] fun b=>
   New 386 b fun c=>
   Sv S<|
   New 308 #[.pointer m,.pointer p] fun d=>
   Sv S<|
   New 312 #[(Sl.val (Sl.mk (some c) 1 1)),(Sl.val (Sl.mk (some d) 2 2))] fun f=>
   St a (.pointer (some f))<|
   zP.s2 Q (some a) g j k),
   (New 308 #[.pointer m,.pointer p] fun d=>
   Sv S<|
   Bld #[(.string ⟨#[]⟩),.bool false,Sl.val ⟨none,0,0⟩,.int .i64 0,.int .u64 0] (fun i=>some (i*5,5)) [(0,.agg l)] fun b=>
   New 386 b fun c=>
   Sv S<|
   New 312 #[(Sl.val (Sl.mk (some c) 1 1)),(Sl.val (Sl.mk (some d) 2 2))] fun f=>
   St a (.pointer (some f))<|
   zP.s2 Q (some a) g j k)
   ])
  (zP.s2 Q n g j k)
def zP(n:Pt)(o:ByteArray)(p:Av)(Q:Av→Bool→K): K :=
 New 208 p fun l=>
 New 208 #[.bool false,Sl.val ⟨none,0,0⟩,.int .i64 0,.int .u64 0] fun i=>
 Dr<|yV fun S=>
 Nn n fun b=>
 LdS S b Value.pointer fun j=>
 xJ S l 4 fun m=>
 Bld #[(.string ⟨#[]⟩),.bool false,Sl.val ⟨none,0,0⟩,.int .i64 0,.int .u64 0] ([(0,1),(1,4)][·]?) [(0,.string o),(1,.agg m)] fun k=>
 All [
  (zY.call j k fun c d f g=>
  New 208 #[.bool false,Sl.val ⟨none,0,0⟩,.int .i64 0,.int .u64 0] fun a=>
  StN a 4 c<|
  zP.s1 Q (some b) i a d f g),
  (New 208 #[.bool false,Sl.val ⟨none,0,0⟩,.int .i64 0,.int .u64 0] fun a=>
  Sv S<|
  zY.call j k fun c d f g=>
  StN a 4 c<|
  zP.s1 Q (some b) i a d f g)
  ]
theorem zC3(k l m Q w)(h:zP k l m Q w):zP.call k l m Q w:=by
 have:JH 6 fun D=>∃b c,D [(6,(.pointer (some b))),(8,(.pointer (some c)))] (fun C=>∀n,C [(6,(.pointer (some b))),(8,(.pointer (some c))),(9,.bool n)] (zP.s3 Q b c n)):=⟨fun _ ⟨_,_,h⟩=>⟨_,_,h⟩⟩
 have:JH 4 fun D=>∃d f g,D [(0,.pointer d),(6,(.pointer (some f))),(8,(.pointer (some g)))] (fun C=>∀o,C [(0,.pointer d),(6,(.pointer (some f))),(8,(.pointer (some g))),(9,.bool o)] (zP.s2 Q d f g o)):=⟨fun _ ⟨_,_,_,h⟩=>⟨_,_,h⟩⟩
 have:DH 3 2 [12,15] (.s [0,1,2,5,6,7,9,3,8] (.a [(4,1,.a [(10,1,.s [11] (.a [(12,0,.s [13,14] (.a [(15,0,.e)]))]))]),(10,1,.a [(4,1,.s [11] (.a [(12,0,.s [13,14] (.a [(15,0,.e)]))]))])])):=⟨⟩
 have:JH 2 fun D=>∃i j,D [(0,.pointer i),(6,(.pointer (some j)))] (fun C=>∀p q r t,C [(0,.pointer i),(6,(.pointer (some j))),(8,(.pointer (some p))),(9,.bool q),(10,.pointer r),(11,.pointer t)] (zP.s1 Q i j p q r t)):=⟨fun _ ⟨_,_,h⟩=>⟨_,_,h⟩⟩
 have:DH 1 2 [7,14] (.s [0,1,2,4,3,5,6] (.a [(7,0,.s [8,9,10,11,12] (.a [(13,0,.a [(14,0,.s [15,16,17] .e)])])),(13,1,.a [(7,0,.s [8,9,10,11,12] (.a [(14,0,.s [15,16,17] .e)]))])])):=⟨⟩
 exact zJ 53 h Tryz.func220
def qV(f:Pt)(g:ByteArray)(Q:Int→Bool→K): K :=
 Nn f fun a=>
 Ld a Sl.val fun b=>
 zC.call b g (.func (.func 294) #[] #[]) fun c d=>
 Q c d
theorem zCa(a b Q w)(h:qV a b Q w):qV.call a b Q w:=by
 exact zJ 14 h Tryz.func256
def yx.s1(Q:Av→Bool→K)(a:Addr)(d:Bool): K :=
 LdN a 4 fun b=>
 StN a 4 b<|
 LdN a 4 fun c=>
 Q c d
def yx.s2(Q:Av→Bool→K)(i:Pt)(aj:ByteArray)(a:Addr)(b:Int)(ak al:Bool): K :=
 Ite al
  (Nn i fun d=>
  Ld d Sl.val fun j=>
  Idx j b 5 fun k=>
  LdN (k.add 1) 4 fun l=>
  StN a 4 l<|
  Ld d Sl.val fun m=>
  Ar (IntKind.wrap .i64 (b+1)) fun o=>
  yQ.call m b o fun p=>
  St d (Sl.val p)<|
  LdN a 4 fun q=>
  StN a 4 q<|
  LdN a 4 fun f=>
  Q f true)
  (Ite ak
   (Nn i fun c=>
   Ld c Sl.val fun r=>
   Idx r b 5 fun s=>
   LdN (s.add 1) 4 fun t=>
   StN a 4 t<|
   Dr<|yV fun S=>
   LdS S c Sl.val fun u=>
   LdS S (c.add 1) Sl.val fun v=>
   Idx v b 1 fun x=>
   LdS S x Value.pointer fun y=>
   jo.call y fun z=>
   Sv S<|
   Idx u b 5 fun aa=>
   StN aa 5 z<|
   yU.call (some c) b<|
   LdN a 4 fun ab=>
   StN a 4 ab<|
   LdN a 4 fun f=>
   Q f true)
   (Nn i fun g=>
   Ld (g.add 1) Sl.val fun ac=>
   Ite (decide ((0:Int)<(ac.n:Int)))
    (Ld (g.add 1) Sl.val fun ad=>
    Idx ad b 1 fun ae=>
    Ld ae Value.pointer fun af=>
    yx.call af aj fun ag ah=>
    StN a 4 ag<|
    yU.call (some g) b<|
    yx.s1 Q a ah)
    (yx.s1 Q a false)))
def yx(a:Pt)(b:ByteArray)(Q:Av→Bool→K): K :=
 New 208 #[.bool false,Sl.val ⟨none,0,0⟩,.int .i64 0,.int .u64 0] fun c=>
 qV.call a b fun d g=>
 Ite g
  (Nn a fun f=>
  Ld (f.add 1) Sl.val fun i=>
  yx.s2 Q (some f) b c d true (decide ((i.n:Int)=0)))
  (yx.s2 Q a b c d false false)
def zY.s2(Q:Av→Bool→Pt→Pt→K)(a:Addr)(d:Bool)(f g:Addr): K :=
 LdN a 4 fun b=>
 StN a 4 b<|
 LdN a 4 fun c=>
 Q c d (some g) (some f)
def zY.s1(Q:Av→Bool→Pt→Pt→K)(ab:Pt)(b:Addr)(j:Bool): K :=
 Nn ab fun a=>
 Ld a Sl.val fun k=>
 Ite (decide ((k.n:Int)≤5))
  (LdN b 4 fun l=>
  StN b 4 l<|
  LdN b 4 fun m=>
  Q m j none none)
  (Ld a Sl.val fun o=>
  Idx o 2 5 fun p=>
  LdN p 5 fun q=>
  New 386 #[(.string ⟨#[]⟩),.bool false,Sl.val ⟨none,0,0⟩,.int .i64 0,.int .u64 0] fun d=>
  StN d 5 q<|
  Ld a Sl.val fun f=>
  Slc f 3 (f.n:Int) (f.c:Int) 5 fun r=>
  yD.call r fun s=>
  New 312 #[Sl.val s,Sl.val ⟨none,0,0⟩] fun g=>
  Ld a Sl.val fun t=>
  Slc t 0 2 2 5 fun u=>
  St a (Sl.val u)<|
  Ld (a.add 1) Sl.val fun v=>
  Ite (decide ((0:Int)<(v.n:Int)))
   (Ld (a.add 1) Sl.val fun i=>
   Slc i 3 (i.n:Int) (i.c:Int) 1 fun x=>
   yE.call x fun y=>
   St (g.add 1) (Sl.val y)<|
   Ld (a.add 1) Sl.val fun z=>
   Slc z 0 3 3 1 fun aa=>
   St (a.add 1) (Sl.val aa)<|
   zY.s2 Q b j g d)
   (zY.s2 Q b j g d))
def zY(f:Pt)(aw:Av)(Q:Av→Bool→Pt→Pt→K): K :=
 New 386 aw fun d=>
 New 208 #[.bool false,Sl.val ⟨none,0,0⟩,.int .i64 0,.int .u64 0] fun b=>
 Ld d Value.string fun l=>
 qV.call f l fun c m=>
 Ite m
  (Nn f fun g=>
  Ld g Sl.val fun o=>
  Idx o c 5 fun p=>
  LdN (p.add 1) 4 fun q=>
  StN b 4 q<|
  Dr<|
  Ld g Sl.val fun r=>
  LdN (d.add 1) 4 fun s=>
  Idx r c 5 fun t=>
  StN (t.add 1) 4 s<|
  LdN b 4 fun u=>
  StN b 4 u<|
  LdN b 4 fun v=>
  Q v true none none)
  (Nn f fun a=>
  Ld (a.add 1) Sl.val fun x=>
  Ite (decide ((x.n:Int)=0))
   (Dr<|yV fun S=>
   LdS S a Sl.val fun y=>
   xJ S d 5 fun z=>
   Bld #[(.string ⟨#[]⟩),.bool false,Sl.val ⟨none,0,0⟩,.int .i64 0,.int .u64 0] (fun i=>some (i*5,5)) [(0,.agg z)] fun aa=>
   New 386 aa fun ab=>
   Sv S<|
   zS.call y c (Sl.mk (some ab) 1 1) fun ac=>
   St a (Sl.val ac)<|
   zY.s1 Q (some a) b false)
   (Dr<|
   Ld (a.add 1) Sl.val fun ad=>
   Idx ad c 1 fun ae=>
   Ld ae Value.pointer fun af=>
   LdN d 5 fun ag=>
   zY.call af ag fun ah j k aj=>
   StN b 4 ah<|
   Ite (!(k).isNone)
    (Dr<|yV fun S=>
    Nn k fun ak=>
    LdS S a Sl.val fun al=>
    xJ S ak 5 fun am=>
    Bld #[(.string ⟨#[]⟩),.bool false,Sl.val ⟨none,0,0⟩,.int .i64 0,.int .u64 0] (fun i=>some (i*5,5)) [(0,.agg am)] fun an=>
    New 386 an fun ao=>
    Sv S<|
    zS.call al c (Sl.mk (some ao) 1 1) fun ap=>
    St a (Sl.val ap)<|
    Ld (a.add 1) Sl.val fun aq=>
    Ar (IntKind.wrap .i64 (c+1)) fun ar=>
    New 308 #[.pointer aj] fun au=>
    ze.call aq ar (Sl.mk (some au) 1 1) fun av=>
    St (a.add 1) (Sl.val av)<|
    zY.s1 Q (some a) b j)
    (zY.s1 Q (some a) b j)))
theorem zC4(i j Q w)(h:zY i j Q w):zY.call i j Q w:=by
 have:JH 22 fun D=>∃b c d,D [(4,(.pointer (some b))),(7,(.pointer (some c))),(12,(.pointer (some d)))] (fun C=>∀k,C [(4,(.pointer (some b))),(5,.bool k),(7,(.pointer (some c))),(12,(.pointer (some d)))] (zY.s2 Q b k c d)):=⟨fun _ ⟨_,_,_,h⟩=>⟨_,_,h⟩⟩
 have:JH 14 fun D=>∃f g,D [(0,.pointer f),(4,(.pointer (some g)))] (fun C=>∀l,C [(0,.pointer f),(4,(.pointer (some g))),(5,.bool l)] (zY.s1 Q f g l)):=⟨fun _ ⟨_,_,h⟩=>⟨_,_,h⟩⟩
 have:DH 10 1 [9] (.s [0,1,2,4,5,3,6,7,8] (.a [(9,0,.e)])):=⟨⟩
 have:DH 13 2 [8,11] (.s [0,1,2,3,5,4,6] (.a [(7,1,.a [(8,0,.s [9,10] (.a [(11,0,.e)]))])])):=⟨⟩
 have:DH 6 2 [10,13] (.s [0,1,2,3,5,6,7,4,8] (.a [(9,1,.a [(10,0,.s [11,12] (.a [(13,0,.e)]))])])):=⟨⟩
 have:DH 4 1 [8,14] (.s [0,1,2,4,3,5,6,7] (.a [(8,0,.s [9,10,11,12,13] (.a [(14,0,.s [15,16,17] .e)]))])):=⟨⟩
 exact zJ 156 h Tryz.func266
def vW(d:Av)(f:ByteArray)(Q:Int→K): K :=
 New 386 d fun a=>
 Ld a Value.string fun b=>
 zAT.call b f fun c=>
 Q c
theorem zCO(a b Q w)(h:vW a b Q w):vW.call a b Q w:=by
 exact zJ 9 h Tryz.func294
def jo(ab:Pt)(Q:Av→K): K :=
 New 386 #[(.string ⟨#[]⟩),.bool false,Sl.val ⟨none,0,0⟩,.int .i64 0,.int .u64 0] fun b=>
 Nn ab fun a=>
 Ld (a.add 1) Sl.val fun k=>
 Ar (IntKind.wrap .i64 ((k.n:Int)-1)) fun d=>
 Ite (decide ((0:Int)≤d))
  (Ld (a.add 1) Sl.val fun l=>
  Idx l d 1 fun m=>
  Ld m Value.pointer fun o=>
  jo.call o fun p=>
  New 386 #[(.string ⟨#[]⟩),.bool false,Sl.val ⟨none,0,0⟩,.int .i64 0,.int .u64 0] fun g=>
  StN g 5 p<|
  yU.call (some a) d<|
  LdN g 5 fun q=>
  StN b 5 q<|
  LdN b 5 fun f=>
  Q f)
  (Dr<|yV fun S=>
  LdS S a Sl.val fun r=>
  LdS S a Sl.val fun s=>
  Ar (IntKind.wrap .i64 ((s.n:Int)-1)) fun t=>
  Idx r t 5 fun u=>
  xJ S u 5 fun v=>
  New 386 #[(.string ⟨#[]⟩),.bool false,Sl.val ⟨none,0,0⟩,.int .i64 0,.int .u64 0] fun i=>
  Sv S<|
  StN i 5 v<|
  Dr<|
  Ld a Sl.val fun j=>
  Ld a Sl.val fun x=>
  Ar (IntKind.wrap .i64 ((x.n:Int)-1)) fun y=>
  Slc j 0 y (j.c:Int) 5 fun z=>
  St a (Sl.val z)<|
  LdN i 5 fun aa=>
  StN b 5 aa<|
  LdN b 5 fun f=>
  Q f)
def yU.s2(Q:K)(a:Addr)(d:Int)(g:Addr)(bg:Bool): K :=
 Ite bg
  (Ld (a.add 1) Sl.val fun k=>
  Ar (IntKind.wrap .i64 (d+1)) fun l=>
  Idx k l 1 fun m=>
  Ld m Value.pointer fun o=>
  Dr<|yV fun S=>
  LdS S g Sl.val fun p=>
  LdS S a Sl.val fun q=>
  Idx q d 5 fun r=>
  xJ S r 5 fun s=>
  Bld #[(.string ⟨#[]⟩),.bool false,Sl.val ⟨none,0,0⟩,.int .i64 0,.int .u64 0] (fun i=>some (i*5,5)) [(0,.agg s)] fun t=>
  New 386 t fun u=>
  Sv S<|
  Do Tryz.prog (Builtin.append_ #[309,309] 309 #[Sl.val p,(Sl.val (Sl.mk (some u) 1 1))]) Sl.val fun v=>
  St g (Sl.val v)<|
  Dr<|
  Nn o fun b=>
  Ld a Sl.val fun x=>
  Ld b Sl.val fun y=>
  Idx y 0 5 fun z=>
  LdN z 5 fun aa=>
  Idx x d 5 fun ab=>
  StN ab 5 aa<|
  Ld b Sl.val fun ac=>
  yQ.call ac 0 1 fun ad=>
  St b (Sl.val ad)<|
  Ld (b.add 1) Sl.val fun ae=>
  Ite (decide ((0:Int)<(ae.n:Int)))
   (Dr<|yV fun S=>
   LdS S (g.add 1) Sl.val fun af=>
   LdS S (b.add 1) Sl.val fun ag=>
   Idx ag 0 1 fun ah=>
   LdS S ah Value.pointer fun aj=>
   New 308 #[.pointer aj] fun ak=>
   Sv S<|
   Do Tryz.prog (Builtin.append_ #[310,310] 310 #[Sl.val af,(Sl.val (Sl.mk (some ak) 1 1))]) Sl.val fun al=>
   St (g.add 1) (Sl.val al)<|
   Ld (b.add 1) Sl.val fun am=>
   qL.call am 0 1 fun an=>
   St (b.add 1) (Sl.val an)<|
   Q)
   (Q))
  (Ar (if(1:Int)>d then 1 else d) fun c=>
  Dr<|
  Ld (a.add 1) Sl.val fun ao=>
  Ar (IntKind.wrap .i64 (c-1)) fun ap=>
  Idx ao ap 1 fun aq=>
  Ld aq Value.pointer fun ar=>
  Ld (a.add 1) Sl.val fun au=>
  Idx au c 1 fun av=>
  Ld av Value.pointer fun aw=>
  Dr<|yV fun S=>
  Nn ar fun f=>
  Ar (IntKind.wrap .i64 (c-1)) fun ax=>
  Nn aw fun j=>
  LdS S f Sl.val fun ay=>
  LdS S a Sl.val fun az=>
  Idx az ax 5 fun a0=>
  xJ S a0 5 fun a1=>
  LdS S j Sl.val fun a2=>
  Bld #[(.string ⟨#[]⟩),.bool false,Sl.val ⟨none,0,0⟩,.int .i64 0,.int .u64 0] (fun i=>some (i*5,5)) [(0,.agg a1)] fun a3=>
  New 386 a3 fun a4=>
  Sv S<|
  Do Tryz.prog (Builtin.append_ #[309,309] 309 #[Sl.val ay,(Sl.val (Sl.mk (some a4) 1 1))]) Sl.val fun a5=>
  Sv S<|
  Do Tryz.prog (Builtin.append_ #[309,309] 309 #[Sl.val a5,Sl.val a2]) Sl.val fun a6=>
  St f (Sl.val a6)<|
  Dr<|
  Ld (f.add 1) Sl.val fun a7=>
  Ld (j.add 1) Sl.val fun a8=>
  Do Tryz.prog (Builtin.append_ #[310,310] 310 #[Sl.val a7,Sl.val a8]) Sl.val fun a9=>
  St (f.add 1) (Sl.val a9)<|
  Ld a Sl.val fun ba=>
  Ar (IntKind.wrap .i64 (c-1)) fun bb=>
  yQ.call ba bb c fun bc=>
  St a (Sl.val bc)<|
  Ld (a.add 1) Sl.val fun bd=>
  Ar (IntKind.wrap .i64 (c+1)) fun be=>
  qL.call bd c be fun bf=>
  St (a.add 1) (Sl.val bf)<|
  Q)
def yU.s1(Q:K)(b:Addr)(d:Int)(f:Addr)(a2:Bool): K :=
 Ite a2
  (Ld (b.add 1) Sl.val fun l=>
  Ar (IntKind.wrap .i64 (d-1)) fun m=>
  Idx l m 1 fun o=>
  Ld o Value.pointer fun p=>
  Nn p fun a=>
  Ld a Sl.val fun q=>
  Ar (IntKind.wrap .i64 ((q.n:Int)-1)) fun g=>
  Dr<|yV fun S=>
  Ar (IntKind.wrap .i64 (d-1)) fun r=>
  LdS S f Sl.val fun s=>
  LdS S b Sl.val fun t=>
  Idx t r 5 fun u=>
  xJ S u 5 fun v=>
  Bld #[(.string ⟨#[]⟩),.bool false,Sl.val ⟨none,0,0⟩,.int .i64 0,.int .u64 0] (fun i=>some (i*5,5)) [(0,.agg v)] fun x=>
  New 386 x fun y=>
  Sv S<|
  zS.call s 0 (Sl.mk (some y) 1 1) fun z=>
  St f (Sl.val z)<|
  Dr<|
  Ar (IntKind.wrap .i64 (d-1)) fun aa=>
  Ld b Sl.val fun ab=>
  Ld a Sl.val fun ac=>
  Idx ac g 5 fun ad=>
  LdN ad 5 fun ae=>
  Idx ab aa 5 fun af=>
  StN af 5 ae<|
  Ld a Sl.val fun j=>
  Slc j 0 g (j.c:Int) 5 fun ag=>
  St a (Sl.val ag)<|
  Ld (a.add 1) Sl.val fun ah=>
  Ite (decide ((0:Int)<(ah.n:Int)))
   (Dr<|yV fun S=>
   Ar (IntKind.wrap .i64 (g+1)) fun aj=>
   LdS S (f.add 1) Sl.val fun ak=>
   LdS S (a.add 1) Sl.val fun al=>
   Idx al aj 1 fun am=>
   LdS S am Value.pointer fun an=>
   New 308 #[.pointer an] fun ao=>
   Sv S<|
   ze.call ak 0 (Sl.mk (some ao) 1 1) fun ap=>
   St (f.add 1) (Sl.val ap)<|
   Ld (a.add 1) Sl.val fun k=>
   Ar (IntKind.wrap .i64 (g+1)) fun aq=>
   Slc k 0 aq (k.c:Int) 1 fun ar=>
   St (a.add 1) (Sl.val ar)<|
   Q)
   (Q))
  (Ar (IntKind.wrap .i64 (d+1)) fun au=>
  Ld (b.add 1) Sl.val fun av=>
  Ite (decide (au<(av.n:Int)))
   (Ld (b.add 1) Sl.val fun aw=>
   Ar (IntKind.wrap .i64 (d+1)) fun ax=>
   Idx aw ax 1 fun ay=>
   Ld ay Value.pointer fun az=>
   Nn az fun a0=>
   Ld a0 Sl.val fun a1=>
   yU.s2 Q b d f (decide ((2:Int)<(a1.n:Int))))
   (yU.s2 Q b d f false))
def yU(q:Pt)(a:Int)(Q:K): K :=
 Nn q fun b=>
 Ld (b.add 1) Sl.val fun d=>
 Idx d a 1 fun f=>
 Ld f Value.pointer fun g=>
 Nn g fun c=>
 Ld c Sl.val fun i=>
 Ite (decide ((2:Int)≤(i.n:Int)))
  (Q)
  (Ite (decide ((0:Int)<a))
   (Ld (b.add 1) Sl.val fun j=>
   Ar (IntKind.wrap .i64 (a-1)) fun k=>
   Idx j k 1 fun l=>
   Ld l Value.pointer fun m=>
   Nn m fun o=>
   Ld o Sl.val fun p=>
   yU.s1 Q b a c (decide ((2:Int)<(p.n:Int))))
   (yU.s1 Q b a c false))
instance:CB Tryz.prog 321:=⟨by kernel_rfl⟩
instance:CB Tryz.prog 323:=⟨by kernel_rfl⟩
instance:CB Tryz.prog 328:=⟨by kernel_rfl⟩
instance:CB Tryz.prog 329:=⟨by kernel_rfl⟩
instance:CB Tryz.prog 331:=⟨by kernel_rfl⟩
instance:CB Tryz.prog 332:=⟨by kernel_rfl⟩
instance:EXT Tryz.prog 320 (Extern.SlicesOverlaps.overlaps #[309,309] #[4]):=zW4 Tryz.func320 (by kernel_rfl) (by kernel_rfl) (by kernel_rfl) (by kernel_rfl)
instance:EXT Tryz.prog 322 (Extern.SlicesOverlaps.overlaps #[310,310] #[4]):=zW4 Tryz.func322 (by kernel_rfl) (by kernel_rfl) (by kernel_rfl) (by kernel_rfl)
instance:INT Tryz.prog 291 .u64:=⟨by kernel_rfl⟩
instance:INT Tryz.prog 3 .i64:=⟨by kernel_rfl⟩
instance:UN Tryz.prog 309 (.slice 386):=⟨Tryz.underlying309⟩
instance:UN Tryz.prog 310 (.slice 308):=⟨Tryz.underlying310⟩
def zC.s2(Q:Int→Bool→K)(c:Int→Int→K)(a:Int)(b:Bool): K :=
 Q a b
def zC.b1(Q:Int→Bool→K)(b:Int→Int→K)(i:Sl)(j:ByteArray)(k:Value)(t a g:Int): K :=
 Ite (decide (a<g))
  (Ar (IntKind.wrap .i64 (a+g)) fun l=>
  Ar (IntKind.wrap .u64 l) fun m=>
  Cd (0≤(1:Int))<|
  Ar (zIo .u64 m 1) fun n=>
  Ar (IntKind.wrap .i64 n) fun c=>
  Idx i c 5 fun o=>
  LdN o 5 fun p=>
  vZ Tryz.prog k [.agg p,.string j]<|yH (fun(d:Int)=>(Value.int .i64) d) fun d=>
  Ite (decide (d<0))
   (Ar (IntKind.wrap .i64 (c+1)) fun q=>
   b q g)
   (b a c))
  (Ite (decide (a<t))
   (Idx i a 5 fun r=>
   LdN r 5 fun s=>
   vZ Tryz.prog k [.agg s,.string j]<|yH (fun(f:Int)=>(Value.int .i64) f) fun f=>
   zC.s2 Q b a (decide (f=0)))
   (zC.s2 Q b a false))
def zC(a:Sl)(d:ByteArray)(f:Value)(Q:Int→Bool→K): K :=
 zq (α:=Int×Int) (fun X x=>zC.b1 Q (fun b c=>X (b,c)) a d f (a.n:Int) x.1 x.2) (0,(a.n:Int))
theorem vO(c d f Q w)(h:zC c d f Q w):zC.call c d f Q w:=by
 have:∀g,XH 3 g→JH 1000008 fun D=>D [] (fun C=>∀i j,C [(6,.int .i64 i),(7,.bool j)] (zC.s2 Q (fun a b=>g (a,b)) i j)):=by intros;exact⟨fun _ h=>⟨_,_,h⟩⟩
 have:∀k l m n,LH 3 (fun x:Int×Int=>[(0,Sl.val k),(1,.string l),(2,m),(8,.int .i64 n),(9,.int .i64 x.1),(10,.int .i64 x.2)]) (fun X x=>zC.b1 Q (fun a b=>X (a,b)) k l m n x.1 x.2):=fun _ _ _ _=>⟨⟩
 exact zJ 49 h Tryz.func293
def yQ(a:Sl)(d f:Int)(Q:Sl→K): K :=
 Slc a d f (a.n:Int) 5 fun k=>
 Ite (decide (d=f))
  (Q a)
  (Dr<|
  Slc a 0 d (a.c:Int) 5 fun g=>
  Slc a f (a.n:Int) (a.c:Int) 5 fun i=>
  Do Tryz.prog (Builtin.append_ #[309,309] 309 #[Sl.val g,Sl.val i]) Sl.val fun b=>
  Slc b (b.n:Int) (a.n:Int) (b.c:Int) 5 fun j=>
  Do Tryz.prog (Builtin.clear_ #[309] 0 #[Sl.val j]) id fun _=>
  Q b)
def zS(b:Sl)(f:Int)(d:Sl)(Q:Sl→K): K :=
 Slc b f (b.n:Int) (b.c:Int) 5 fun ae=>
 Ite (decide ((d.n:Int)=0))
  (Q b)
  (Ite (decide (f=(b.n:Int)))
   (Do Tryz.prog (Builtin.append_ #[309,309] 309 #[Sl.val b,Sl.val d]) Sl.val fun i=>
   Q i)
   (Ar (IntKind.wrap .i64 ((b.n:Int)+(d.n:Int))) fun j=>
   Do Tryz.prog (Builtin.cap_ #[309] 3 #[Sl.val b]) (Value.int .i64) fun k=>
   Ite (decide (k<j))
    (Slc b 0 f (b.c:Int) 5 fun l=>
    Ar (IntKind.wrap .i64 ((b.n:Int)+(d.n:Int))) fun m=>
    Ar (IntKind.wrap .i64 (m-f)) fun o=>
    Do Tryz.prog (Builtin.append_ #[309,3] 309 #[Sl.val l,.int .i64 o]) Sl.val fun g=>
    Slc g f (g.n:Int) (g.c:Int) 5 fun p=>
    Do Tryz.prog (Builtin.copy_ #[309,309] 3 #[Sl.val p,Sl.val d]) (Value.int .i64) fun af=>
    Dr<|
    Ar (IntKind.wrap .i64 (f+(d.n:Int))) fun q=>
    Slc g q (g.n:Int) (g.c:Int) 5 fun r=>
    Slc b f (b.n:Int) (b.c:Int) 5 fun s=>
    Do Tryz.prog (Builtin.copy_ #[309,309] 3 #[Sl.val r,Sl.val s]) (Value.int .i64) fun ag=>
    Q g)
    (Ar (IntKind.wrap .i64 ((b.n:Int)+(d.n:Int))) fun t=>
    Slc b 0 t (b.c:Int) 5 fun a=>
    Ar (IntKind.wrap .i64 (f+(d.n:Int))) fun u=>
    Slc a u (a.n:Int) (a.c:Int) 5 fun v=>
    Rd Tryz.prog (Extern.SlicesOverlaps.overlaps #[309,309] #[4] [Sl.val d,Sl.val v].toArray) Value.bool fun x=>
    Ite (!x)
     (Dr<|
     Ar (IntKind.wrap .i64 (f+(d.n:Int))) fun y=>
     Slc a y (a.n:Int) (a.c:Int) 5 fun z=>
     Slc a f (a.n:Int) (a.c:Int) 5 fun aa=>
     Do Tryz.prog (Builtin.copy_ #[309,309] 3 #[Sl.val z,Sl.val aa]) (Value.int .i64) fun ah=>
     Slc a f (a.n:Int) (a.c:Int) 5 fun ab=>
     Do Tryz.prog (Builtin.copy_ #[309,309] 3 #[Sl.val ab,Sl.val d]) (Value.int .i64) fun aj=>
     Q a)
     (Slc a (b.n:Int) (a.n:Int) (a.c:Int) 5 fun ac=>
     Do Tryz.prog (Builtin.copy_ #[309,309] 3 #[Sl.val ac,Sl.val d]) (Value.int .i64) fun ak=>
     Slc a f (a.n:Int) (a.c:Int) 5 fun ad=>
     jI.call ad (d.n:Int)<|
     Q a))))
theorem ug(b c d Q w)(h:zS b c d Q w):zS.call b c d Q w:=by
 have:DH 11 0 [] (.s [0,1,2,3,4,5,6,7] (.a [(8,0,.e)])):=⟨⟩
 have:DH 15 0 [] (.s [0,1,2,3,4,5,6,7] (.a [(8,0,.e)])):=⟨⟩
 exact zJ 95 h Tryz.func300
def ze(b:Sl)(f:Int)(d:Sl)(Q:Sl→K): K :=
 Slc b f (b.n:Int) (b.c:Int) 1 fun ae=>
 Ite (decide ((d.n:Int)=0))
  (Q b)
  (Ite (decide (f=(b.n:Int)))
   (Do Tryz.prog (Builtin.append_ #[310,310] 310 #[Sl.val b,Sl.val d]) Sl.val fun i=>
   Q i)
   (Ar (IntKind.wrap .i64 ((b.n:Int)+(d.n:Int))) fun j=>
   Do Tryz.prog (Builtin.cap_ #[310] 3 #[Sl.val b]) (Value.int .i64) fun k=>
   Ite (decide (k<j))
    (Slc b 0 f (b.c:Int) 1 fun l=>
    Ar (IntKind.wrap .i64 ((b.n:Int)+(d.n:Int))) fun m=>
    Ar (IntKind.wrap .i64 (m-f)) fun o=>
    Do Tryz.prog (Builtin.append_ #[310,3] 310 #[Sl.val l,.int .i64 o]) Sl.val fun g=>
    Slc g f (g.n:Int) (g.c:Int) 1 fun p=>
    Do Tryz.prog (Builtin.copy_ #[310,310] 3 #[Sl.val p,Sl.val d]) (Value.int .i64) fun af=>
    Dr<|
    Ar (IntKind.wrap .i64 (f+(d.n:Int))) fun q=>
    Slc g q (g.n:Int) (g.c:Int) 1 fun r=>
    Slc b f (b.n:Int) (b.c:Int) 1 fun s=>
    Do Tryz.prog (Builtin.copy_ #[310,310] 3 #[Sl.val r,Sl.val s]) (Value.int .i64) fun ag=>
    Q g)
    (Ar (IntKind.wrap .i64 ((b.n:Int)+(d.n:Int))) fun t=>
    Slc b 0 t (b.c:Int) 1 fun a=>
    Ar (IntKind.wrap .i64 (f+(d.n:Int))) fun u=>
    Slc a u (a.n:Int) (a.c:Int) 1 fun v=>
    Rd Tryz.prog (Extern.SlicesOverlaps.overlaps #[310,310] #[4] [Sl.val d,Sl.val v].toArray) Value.bool fun x=>
    Ite (!x)
     (Dr<|
     Ar (IntKind.wrap .i64 (f+(d.n:Int))) fun y=>
     Slc a y (a.n:Int) (a.c:Int) 1 fun z=>
     Slc a f (a.n:Int) (a.c:Int) 1 fun aa=>
     Do Tryz.prog (Builtin.copy_ #[310,310] 3 #[Sl.val z,Sl.val aa]) (Value.int .i64) fun ah=>
     Slc a f (a.n:Int) (a.c:Int) 1 fun ab=>
     Do Tryz.prog (Builtin.copy_ #[310,310] 3 #[Sl.val ab,Sl.val d]) (Value.int .i64) fun aj=>
     Q a)
     (Slc a (b.n:Int) (a.n:Int) (a.c:Int) 1 fun ac=>
     Do Tryz.prog (Builtin.copy_ #[310,310] 3 #[Sl.val ac,Sl.val d]) (Value.int .i64) fun ak=>
     Slc a f (a.n:Int) (a.c:Int) 1 fun ad=>
     jJ.call ad (d.n:Int)<|
     Q a))))
theorem uh(b c d Q w)(h:ze b c d Q w):ze.call b c d Q w:=by
 have:DH 11 0 [] (.s [0,1,2,3,4,5,6,7] (.a [(8,0,.e)])):=⟨⟩
 have:DH 15 0 [] (.s [0,1,2,3,4,5,6,7] (.a [(8,0,.e)])):=⟨⟩
 exact zJ 95 h Tryz.func301
def yD(b:Sl)(Q:Sl→K): K :=
 Ite ((b).a.isNone)
  (Q (Sl.mk none 0 0))
  (New 386 #[] fun c=>
  Do Tryz.prog (Builtin.append_ #[309,309] 309 #[(Sl.val (Sl.mk (some c) 0 0)),Sl.val b]) Sl.val fun d=>
  Q d)
theorem uj(a Q w)(h:yD a Q w):yD.call a Q w:=by
 exact zJ 8 h Tryz.func302
def yE(b:Sl)(Q:Sl→K): K :=
 Ite ((b).a.isNone)
  (Q (Sl.mk none 0 0))
  (New 308 #[] fun c=>
  Do Tryz.prog (Builtin.append_ #[310,310] 310 #[(Sl.val (Sl.mk (some c) 0 0)),Sl.val b]) Sl.val fun d=>
  Q d)
theorem uo(a Q w)(h:yE a Q w):yE.call a Q w:=by
 exact zJ 8 h Tryz.func303
def qL(a:Sl)(d f:Int)(Q:Sl→K): K :=
 Slc a d f (a.n:Int) 1 fun k=>
 Ite (decide (d=f))
  (Q a)
  (Dr<|
  Slc a 0 d (a.c:Int) 1 fun g=>
  Slc a f (a.n:Int) (a.c:Int) 1 fun i=>
  Do Tryz.prog (Builtin.append_ #[310,310] 310 #[Sl.val g,Sl.val i]) Sl.val fun b=>
  Slc b (b.n:Int) (a.n:Int) (b.c:Int) 1 fun j=>
  Do Tryz.prog (Builtin.clear_ #[310] 0 #[Sl.val j]) id fun _=>
  Q b)
def jI(a:Sl)(c:Int)(Q:K): K :=
 Ar (IntKind.wrap .i64 ((a.n:Int)-c)) fun b=>
 jR.call a b<|
 Q
def jJ(a:Sl)(c:Int)(Q:K): K :=
 Ar (IntKind.wrap .i64 ((a.n:Int)-c)) fun b=>
 jS.call a b<|
 Q
def jR(a:Sl)(b:Int)(Q:K): K :=
 Slc a 0 b (a.c:Int) 5 fun d=>
 zZ.call d<|
 Slc a b (a.n:Int) (a.c:Int) 5 fun f=>
 zZ.call f<|
 zZ.call a<|
 Q
def jS(a:Sl)(b:Int)(Q:K): K :=
 Slc a 0 b (a.c:Int) 1 fun d=>
 za.call d<|
 Slc a b (a.n:Int) (a.c:Int) 1 fun f=>
 za.call f<|
 za.call a<|
 Q
def zZ.b1(Q:K)(n:Int→Int→K)(a:Sl)(b c:Int): K :=
 Ite (decide (b<c))
  (Dr<|
  Idx a c 5 fun d=>
  Idx a b 5 fun f=>
  LdN d 5 fun g=>
  LdN f 5 fun i=>
  Idx a b 5 fun j=>
  StN j 5 g<|
  Idx a c 5 fun k=>
  StN k 5 i<|
  Ar (IntKind.wrap .i64 (b+1)) fun l=>
  Ar (IntKind.wrap .i64 (c-1)) fun m=>
  n l m)
  (Q)
def zZ(a:Sl)(Q:K): K :=
 Ar (IntKind.wrap .i64 ((a.n:Int)-1)) fun b=>
 zq (α:=Int×Int) (fun X x=>zZ.b1 Q (fun c d=>X (c,d)) a x.1 x.2) (0,b)
def za.b1(Q:K)(n:Int→Int→K)(a:Sl)(b c:Int): K :=
 Ite (decide (b<c))
  (Dr<|
  Idx a c 1 fun d=>
  Idx a b 1 fun f=>
  Ld d Value.pointer fun g=>
  Ld f Value.pointer fun i=>
  Idx a b 1 fun j=>
  St j (.pointer g)<|
  Idx a c 1 fun k=>
  St k (.pointer i)<|
  Ar (IntKind.wrap .i64 (b+1)) fun l=>
  Ar (IntKind.wrap .i64 (c-1)) fun m=>
  n l m)
  (Q)
def za(a:Sl)(Q:K): K :=
 Ar (IntKind.wrap .i64 ((a.n:Int)-1)) fun b=>
 zq (α:=Int×Int) (fun X x=>za.b1 Q (fun c d=>X (c,d)) a x.1 x.2) (0,b)
instance:CB Tryz.prog 272:=⟨by kernel_rfl⟩
instance:CB Tryz.prog 273:=⟨by kernel_rfl⟩
instance:CB Tryz.prog 315:=⟨by kernel_rfl⟩
instance:SLT Tryz.prog 94 3 1:=⟨by kernel_rfl⟩
def zAT(a b:ByteArray)(Q:Int→K): K :=
 cmp_isNaN_string.call a fun d=>
 cmp_isNaN_string.call b fun c=>
 Ite d
  (Ite c
   (Q 0)
   (Q (-1)))
  (Ite c
   (Q 1)
   (Ite (Op.bytesLess a.toList b.toList)
    (Q (-1))
    (Ite (!(Op.bytesLess a.toList b.toList||a.toList==b.toList))
     (Q 1)
     (Q 0))))
theorem zGe(a b Q w)(h:zAT a b Q w):zAT.call a b Q w:=by
 exact zJ 20 h Tryz.func295
def cmp_isNaN_string(a:ByteArray)(Q:Bool→K): K :=
 Q (!(a.toList==a.toList))
theorem zIP(a Q w)(h:cmp_isNaN_string a Q w):cmp_isNaN_string.call a Q w:=by
 exact zJ 6 h Tryz.func315
instance:SLT Tryz.prog 88 5 1:=⟨by kernel_rfl⟩
instance:UN Tryz.prog 88 (.slice 5):=⟨Tryz.underlying88⟩
instance:ZT Tryz.prog 5 (.int .u8 0):=⟨Tryz.t5,by kernel_rfl,by kernel_rfl⟩
def bytes_Equal(c d:Sl)(Q:Bool→K): K :=
 Rd Tryz.prog (convert 88 9 (Sl.val c)) Value.string fun a=>
 Rd Tryz.prog (convert 88 9 (Sl.val d)) Value.string fun b=>
 Q (a.toList==b.toList)
def uG(b:Sl)(Q:Sl→K): K :=
 Ite ((b).a.isNone)
  (Q (Sl.mk none 0 0))
  (New 5 #[] fun c=>
  Do Tryz.prog (Builtin.append_ #[88,88] 88 #[(Sl.val (Sl.mk (some c) 0 0)),Sl.val b]) Sl.val fun d=>
  Q d)
theorem zFC(a Q w)(h:uG a Q w):uG.call a Q w:=by
 exact zJ 8 h Tryz.func109
instance:AT Tryz.prog 210 5:=⟨by kernel_rfl⟩
instance:CB Tryz.prog 100:=⟨by kernel_rfl⟩
instance:CB Tryz.prog 101:=⟨by kernel_rfl⟩
instance:CB Tryz.prog 102:=⟨by kernel_rfl⟩
instance:CB Tryz.prog 104:=⟨by kernel_rfl⟩
instance:CB Tryz.prog 109:=⟨by kernel_rfl⟩
instance:CB Tryz.prog 111:=⟨by kernel_rfl⟩
instance:CB Tryz.prog 138:=⟨by kernel_rfl⟩
instance:CB Tryz.prog 160:=⟨by kernel_rfl⟩
instance:CB Tryz.prog 161:=⟨by kernel_rfl⟩
instance:CB Tryz.prog 162:=⟨by kernel_rfl⟩
instance:CB Tryz.prog 163:=⟨by kernel_rfl⟩
instance:CB Tryz.prog 164:=⟨by kernel_rfl⟩
instance:CB Tryz.prog 174:=⟨by kernel_rfl⟩
instance:CB Tryz.prog 175:=⟨by kernel_rfl⟩
instance:CB Tryz.prog 176:=⟨by kernel_rfl⟩
instance:CB Tryz.prog 202:=⟨by kernel_rfl⟩
instance:CB Tryz.prog 217:=⟨by kernel_rfl⟩
instance:CB Tryz.prog 218:=⟨by kernel_rfl⟩
instance:CB Tryz.prog 219:=⟨by kernel_rfl⟩
instance:CB Tryz.prog 220:=⟨by kernel_rfl⟩
instance:CB Tryz.prog 39:=⟨by kernel_rfl⟩
instance:CB Tryz.prog 81:=⟨by kernel_rfl⟩
instance:CB Tryz.prog 86:=⟨by kernel_rfl⟩
instance:CB Tryz.prog 88:=⟨by kernel_rfl⟩
instance:CB Tryz.prog 97:=⟨by kernel_rfl⟩
instance:CT Tryz.prog 105:=⟨by kernel_rfl⟩
instance:CT Tryz.prog 179:=⟨by kernel_rfl⟩
instance:CT Tryz.prog 27:=⟨by kernel_rfl⟩
instance:CT Tryz.prog 4:=⟨by kernel_rfl⟩
instance:CT Tryz.prog 88:=⟨by kernel_rfl⟩
instance:FT Tryz.prog 208 0 0 1:=⟨by kernel_rfl⟩
instance:FT Tryz.prog 208 1 1 1:=⟨by kernel_rfl⟩
instance:FT Tryz.prog 208 2 2 1:=⟨by kernel_rfl⟩
instance:FT Tryz.prog 208 3 3 1:=⟨by kernel_rfl⟩
instance:FT Tryz.prog 210 0 0 1:=⟨by kernel_rfl⟩
instance:FT Tryz.prog 210 1 1 4:=⟨by kernel_rfl⟩
instance:FT Tryz.prog 221 0 0 1:=⟨by kernel_rfl⟩
instance:FT Tryz.prog 221 1 1 1:=⟨by kernel_rfl⟩
instance:FT Tryz.prog 279 0 0 1:=⟨by kernel_rfl⟩
instance:FT Tryz.prog 279 1 1 1:=⟨by kernel_rfl⟩
instance:INT Tryz.prog 27 .u64:=⟨by kernel_rfl⟩
instance:INT Tryz.prog 5 .u8:=⟨by kernel_rfl⟩
instance:PLT Tryz.prog 202 [(0,1)]:=⟨_,Tryz.underlying202,by kernel_rfl⟩
instance:PLT Tryz.prog 210 [(0,1),(1,4)]:=⟨_,Tryz.underlying210,by kernel_rfl⟩
instance:PLT Tryz.prog 221 [(0,1),(1,1)]:=⟨_,Tryz.underlying221,by kernel_rfl⟩
instance:PLT Tryz.prog 279 [(0,1),(1,1)]:=⟨_,Tryz.underlying279,by kernel_rfl⟩
instance:SLT Tryz.prog 105 210 5:=⟨by kernel_rfl⟩
instance:STT Tryz.prog 9:=⟨by kernel_rfl⟩
instance:SZ Tryz.prog 105 1:=⟨by kernel_rfl⟩
instance:SZ Tryz.prog 210 5:=⟨by kernel_rfl⟩
instance:SZ Tryz.prog 27 1:=⟨by kernel_rfl⟩
instance:SZ Tryz.prog 4 1:=⟨by kernel_rfl⟩
instance:SZ Tryz.prog 88 1:=⟨by kernel_rfl⟩
instance:SZ Tryz.prog 9 1:=⟨by kernel_rfl⟩
instance:ZT Tryz.prog 105 (Sl.val ⟨none,0,0⟩):=⟨Tryz.t105,by kernel_rfl,by kernel_rfl⟩
instance:ZT Tryz.prog 202 (.agg #[(Sl.val ⟨none,0,0⟩)]):=⟨Tryz.t202,by kernel_rfl,by kernel_rfl⟩
instance:ZT Tryz.prog 210 (.agg #[(.string ⟨#[]⟩),(.bool false),(Sl.val ⟨none,0,0⟩),(.int .i64 0),(.int .u64 0)]):=⟨Tryz.t210,by kernel_rfl,by kernel_rfl⟩
instance:ZT Tryz.prog 221 (.agg #[(.int .i64 0),(.pointer none)]):=⟨Tryz.t221,by kernel_rfl,by kernel_rfl⟩
instance:ZT Tryz.prog 279 (.agg #[(.pointer none),(.bool false)]):=⟨Tryz.t279,by kernel_rfl,by kernel_rfl⟩
def zBr.s1(Q:Pt→Int→K)(c:Int)(d:Bool): K :=
 Ite d
  (Q none 1)
  (uV.call  fun a=>
  New 221 #[.int .i64 c,.pointer a] fun b=>
  Q (some b) 0)
def zBr(a:Int)(Q:Pt→Int→K): K :=
 Ite (decide (a<1))
  (zBr.s1 Q a true)
  (zBr.s1 Q a (decide ((3:Int)<a)))
theorem zPi(b Q w)(h:zBr b Q w):zBr.call b Q w:=by
 have:JH 2 fun D=>∃a,D [(0,.int .i64 a)] (fun C=>∀c,C [(0,.int .i64 a),(9,.bool c)] (zBr.s1 Q a c)):=⟨fun _ ⟨_,h⟩=>⟨_,_,h⟩⟩
 exact zJ 14 h Tryz.func39
def qX.s1(Q:Av→K)(b a:Addr): K :=
 Ld (a.add 1) Sl.val fun c=>
 uG.call c fun d=>
 St (a.add 1) (Sl.val d)<|
 LdN a 4 fun f=>
 StN b 4 f<|
 LdN b 4 fun g=>
 Q g
def qX(l:Pt)(d:ByteArray)(Q:Av→K): K :=
 New 208 #[.bool false,Sl.val ⟨none,0,0⟩,.int .i64 0,.int .u64 0] fun b=>
 Nn l fun c=>
 Ld (c.add 1) Value.pointer fun f=>
 qQ.call f d fun g i=>
 New 208 #[.bool false,Sl.val ⟨none,0,0⟩,.int .i64 0,.int .u64 0] fun a=>
 StN a 4 g<|
 Ite (!i)
  (Ld c (Value.int .i64) fun j=>
  j4.call d j fun k=>
  St (a.add 2) (.int .i64 k)<|
  qX.s1 Q b a)
  (qX.s1 Q b a)
theorem zJC(c d Q w)(h:qX c d Q w):qX.call c d Q w:=by
 have:JH 4 fun D=>∃a b,D [(4,(.pointer (some a))),(5,(.pointer (some b)))] (fun C=>C [(4,(.pointer (some a))),(5,(.pointer (some b)))] (qX.s1 Q a b)):=⟨fun _ ⟨_,_,h⟩=>⟨_,_,h⟩⟩
 exact zJ 30 h Tryz.func138
def j4.b1(Q:Int→K)(k:Int→Int→K)(l:ByteArray)(b m c a:Int): K :=
 Ite (decide (a<m))
  (zCs l a fun d=>
  Ar (IntKind.wrap .i64 d) fun f=>
  Ar (IntKind.wrap .i64 (c+f)) fun g=>
  Cd (b≠0)<|
  Ar (Int.tmod g b) fun i=>
  Ar (IntKind.wrap .i64 (a+1)) fun j=>
  k i j)
  (Q c)
def j4(a:ByteArray)(b:Int)(Q:Int→K): K :=
 Ite (decide (b<1))
  (Q 0)
  (zq (α:=Int×Int) (fun X x=>j4.b1 Q (fun c d=>X (c,d)) a b (a.size:Int) x.1 x.2) (0,0))
theorem zKb(a b Q w)(h:j4 a b Q w):j4.call a b Q w:=by
 have:∀c d f,LH 5 (fun x:Int×Int=>[(0,.string c),(1,.int .i64 d),(5,.int .i64 x.1),(10,.int .i64 f),(11,.int .i64 x.2)]) (fun X x=>j4.b1 Q (fun g i=>X (g,i)) c d f x.1 x.2):=fun _ _ _=>⟨⟩
 exact zJ 24 h Tryz.func163
def vG.s1(Q:K)(a:Pt)(b:ByteArray)(j:Addr)(k:Bool): K :=
 Ite k
  (Nn a fun c=>
  Ld (c.add 1) Value.pointer fun d=>
  yL.call d b fun l m=>
  Q)
  (Dr<|
  Nn a fun f=>
  Ld (f.add 1) Value.pointer fun g=>
  LdN j 4 fun i=>
  zP.call g b i fun n o=>
  Q)
def vG(b:Pt)(c:ByteArray)(g:Av)(Q:K): K :=
 New 208 g fun a=>
 Ld a Value.bool fun d=>
 Ite (!d)
  (Ld (a.add 3) (Value.int .u64) fun f=>
  vG.s1 Q b c a (decide (f=0)))
  (vG.s1 Q b c a false)
theorem zJD(f g i Q w)(h:vG f g i Q w):vG.call f g i Q w:=by
 have:DH 3 1 [6] (.s [0,1,2,4,3,5] (.a [(6,0,.e)])):=⟨⟩
 have:JH 2 fun D=>∃b c d,D [(0,.pointer b),(1,.string c),(5,(.pointer (some d)))] (fun C=>∀j,C [(0,.pointer b),(1,.string c),(5,(.pointer (some d))),(13,.bool j)] (vG.s1 Q b c d j)):=⟨fun _ ⟨_,_,_,h⟩=>⟨_,_,h⟩⟩
 exact zJ 27 h Tryz.func164
def vE.s1(Q:Int→K)(g:Pt)(i:ByteArray)(j:Int)(a:Addr)(k:Bool): K :=
 Ite k
  (Q 1)
  (Ld (a.add 3) (Value.int .u64) fun b=>
  Ite (decide (b=18446744073709551615))
   (Q 111)
   (St (a.add 2) (.int .i64 j)<|
   Ld (a.add 3) (Value.int .u64) fun c=>
   Ar (IntKind.wrap .u64 (c+1)) fun d=>
   St (a.add 3) (.int .u64 d)<|
   LdN a 4 fun f=>
   vG.call g i f<|
   Q 0))
def vE(c:Pt)(d:ByteArray)(a:Int)(Q:Int→K): K :=
 qX.call c d fun g=>
 New 208 #[.bool false,Sl.val ⟨none,0,0⟩,.int .i64 0,.int .u64 0] fun b=>
 StN b 4 g<|
 Ite (decide (a<0))
  (vE.s1 Q c d a b true)
  (Nn c fun f=>
  Ld f (Value.int .i64) fun i=>
  vE.s1 Q (some f) d a b (decide (i≤a)))
theorem zIQ(f g i Q w)(h:vE f g i Q w):vE.call f g i Q w:=by
 have:JH 3 fun D=>∃a b c d,D [(0,.pointer a),(1,.string b),(2,.int .i64 c),(7,(.pointer (some d)))] (fun C=>∀j,C [(0,.pointer a),(1,.string b),(2,.int .i64 c),(7,(.pointer (some d))),(11,.bool j)] (vE.s1 Q a b c d j)):=⟨fun _ ⟨_,_,_,_,h⟩=>⟨_,_,h⟩⟩
 exact zJ 36 h Tryz.func241
def zGa(b:Pt)(c:ByteArray)(i:Sl)(Q:K): K :=
 qX.call b c fun d=>
 New 208 #[.bool false,Sl.val ⟨none,0,0⟩,.int .i64 0,.int .u64 0] fun a=>
 StN a 4 d<|
 uG.call i fun f=>
 St a (.bool true)<|
 St (a.add 1) (Sl.val f)<|
 LdN a 4 fun g=>
 vG.call b c g<|
 Q
def zAS(b:Pt)(c:ByteArray)(Q:K): K :=
 qX.call b c fun d=>
 New 208 #[.bool false,Sl.val ⟨none,0,0⟩,.int .i64 0,.int .u64 0] fun a=>
 StN a 4 d<|
 St a (.bool false)<|
 St (a.add 1) (Sl.val (Sl.mk none 0 0))<|
 LdN a 4 fun f=>
 vG.call b c f<|
 Q
theorem zGf(a b Q w)(h:zAS a b Q w):zAS.call a b Q w:=by
 exact zJ 14 h Tryz.func243
instance:AT Tryz.prog 42 5:=⟨by kernel_rfl⟩
instance:AT Tryz.prog 46 4:=⟨by kernel_rfl⟩
instance:AT Tryz.prog 54 10:=⟨by kernel_rfl⟩
instance:CB Tryz.prog 106:=⟨by kernel_rfl⟩
instance:CB Tryz.prog 121:=⟨by kernel_rfl⟩
instance:CB Tryz.prog 186:=⟨by kernel_rfl⟩
instance:FT Tryz.prog 231 1 1 1:=⟨by kernel_rfl⟩
instance:FT Tryz.prog 231 2 2 1:=⟨by kernel_rfl⟩
instance:PLT Tryz.prog 231 [(0,1),(1,1),(2,1)]:=⟨_,Tryz.underlying231,by kernel_rfl⟩
instance:PLT Tryz.prog 54 [(0,4),(4,5),(9,1)]:=⟨_,Tryz.underlying54,by kernel_rfl⟩
instance:SLT Tryz.prog 39 9 1:=⟨by kernel_rfl⟩
instance:SLT Tryz.prog 52 231 3:=⟨by kernel_rfl⟩
instance:SZ Tryz.prog 54 10:=⟨by kernel_rfl⟩
instance:ZT Tryz.prog 231 (.agg #[(.string ⟨#[]⟩),(.int .i64 0),(.int .u64 0)]):=⟨Tryz.t231,by kernel_rfl,by kernel_rfl⟩
instance:ZT Tryz.prog 54 (.agg #[(.int .i64 0),(.int .u64 0),(.int .u64 0),(.int .i64 0),(.int .i64 0),(Sl.val ⟨none,0,0⟩),(Sl.val ⟨none,0,0⟩),(Sl.val ⟨none,0,0⟩),(.int .i64 0),(Sl.val ⟨none,0,0⟩)]):=⟨Tryz.t54,by kernel_rfl,by kernel_rfl⟩
def zEC(m:Pt)(n o:Av)(Q:Av→K): K :=
 New 46 n fun c=>
 New 42 o fun a=>
 New 54 #[.int .i64 0,.int .u64 0,.int .u64 0,.int .i64 0,.int .i64 0,Sl.val ⟨none,0,0⟩,Sl.val ⟨none,0,0⟩,Sl.val ⟨none,0,0⟩,.int .i64 0,Sl.val ⟨none,0,0⟩] fun b=>
 Dr<|yV fun S=>
 xJ S c 4 fun d=>
 xJ S a 5 fun f=>
 xJ S a 5 fun g=>
 zBV.call f fun i=>
 Sv S<|
 zA7.call m g fun j=>
 Sv S<|
 Bld #[.int .i64 0,.int .u64 0,.int .u64 0,.int .i64 0,.int .i64 0,Sl.val ⟨none,0,0⟩,Sl.val ⟨none,0,0⟩,Sl.val ⟨none,0,0⟩,.int .i64 0,Sl.val ⟨none,0,0⟩] ([(0,4),(4,5),(9,1)][·]?) [(0,.agg d),(1,.agg i),(2,Sl.val j)] fun k=>
 StN b 10 k<|
 LdN b 10 fun l=>
 Q l
theorem zNk(b c d Q w)(h:zEC b c d Q w):zEC.call b c d Q w:=by
 have:DH 1 2 [7] (.s [3,0,1,4] (.a [(2,1,.a [(5,1,.s [6] (.a [(7,0,.e)]))])])):=⟨⟩
 exact zJ 14 h Tryz.func112
def zAD.s1(Q:Int→K)(a:Bool): K :=
 Ite a
  (Q 0)
  (Q 2)
def zAD(k l:Av)(Q:Int→K): K :=
 New 208 k fun a=>
 New 231 l fun b=>
 Ld (b.add 2) (Value.int .u64) fun c=>
 Ld (a.add 3) (Value.int .u64) fun d=>
 Ite (decide (d<c))
  (Q 1)
  (Ld (b.add 2) (Value.int .u64) fun f=>
  Ld (a.add 3) (Value.int .u64) fun g=>
  Ite (decide (f=g))
   (Ld (b.add 1) (Value.int .i64) fun i=>
   Ld (a.add 2) (Value.int .i64) fun j=>
   zAD.s1 Q (decide (i=j)))
   (zAD.s1 Q false))
theorem zNl(a b Q w)(h:zAD a b Q w):zAD.call a b Q w:=by
 have:JH 4 fun D=>D [] (fun C=>∀c,C [(11,.bool c)] (zAD.s1 Q c)):=⟨fun _ h=>⟨_,_,h⟩⟩
 exact zJ 24 h Tryz.func137
def zA7.b1(Q:Sl→K)(p:Sl→Int→K)(q:Pt)(r:Sl)(s:Int)(d:Sl)(b:Int): K :=
 Ite (decide (b<s))
  (Idx r b 1 fun f=>
  Ld f Value.string fun c=>
  qX.call q c fun g=>
  New 208 #[.bool false,Sl.val ⟨none,0,0⟩,.int .i64 0,.int .u64 0] fun a=>
  StN a 4 g<|
  Ld (a.add 2) (Value.int .i64) fun j=>
  Ld (a.add 3) (Value.int .u64) fun k=>
  Bld #[(.string ⟨#[]⟩),.int .i64 0,.int .u64 0] (fun i=>some (i*3,3)) [(0,(.agg #[.string c,.int .i64 j,.int .u64 k]))] fun l=>
  New 231 l fun m=>
  Do Tryz.prog (Builtin.append_ #[52,52] 52 #[Sl.val d,(Sl.val (Sl.mk (some m) 1 1))]) Sl.val fun n=>
  Ar (IntKind.wrap .i64 (b+1)) fun o=>
  p n o)
  (Q d)
def zA7(g:Pt)(i:Av)(Q:Sl→K): K :=
 New 42 i fun b=>
 LdN b 5 fun c=>
 zDQ.call c fun a=>
 zq (α:=Sl×Int) (fun X x=>zA7.b1 Q (fun d f=>X (d,f)) g a (a.n:Int) x.1 x.2) ((Sl.mk none 0 0),0)
theorem zMW(a b Q w)(h:zA7 a b Q w):zA7.call a b Q w:=by
 have:∀c d f,LH 2 (fun x:Sl×Int=>[(0,.pointer c),(4,Sl.val x.1),(9,Sl.val d),(10,.int .i64 f),(11,.int .i64 x.2)]) (fun X x=>zA7.b1 Q (fun g i=>X (g,i)) c d f x.1 x.2):=fun _ _ _=>⟨⟩
 exact zJ 29 h Tryz.func186
instance:AT Tryz.prog 217 4:=⟨by kernel_rfl⟩
instance:AT Tryz.prog 252 7:=⟨by kernel_rfl⟩
instance:CB Tryz.prog 133:=⟨by kernel_rfl⟩
instance:CB Tryz.prog 157:=⟨by kernel_rfl⟩
instance:CB Tryz.prog 191:=⟨by kernel_rfl⟩
instance:CB Tryz.prog 193:=⟨by kernel_rfl⟩
instance:CB Tryz.prog 194:=⟨by kernel_rfl⟩
instance:CB Tryz.prog 199:=⟨by kernel_rfl⟩
instance:CB Tryz.prog 200:=⟨by kernel_rfl⟩
instance:CB Tryz.prog 222:=⟨by kernel_rfl⟩
instance:CB Tryz.prog 223:=⟨by kernel_rfl⟩
instance:CB Tryz.prog 234:=⟨by kernel_rfl⟩
instance:CB Tryz.prog 235:=⟨by kernel_rfl⟩
instance:CB Tryz.prog 236:=⟨by kernel_rfl⟩
instance:CB Tryz.prog 262:=⟨by kernel_rfl⟩
instance:CB Tryz.prog 263:=⟨by kernel_rfl⟩
instance:CB Tryz.prog 270:=⟨by kernel_rfl⟩
instance:CB Tryz.prog 271:=⟨by kernel_rfl⟩
instance:CB Tryz.prog 274:=⟨by kernel_rfl⟩
instance:CB Tryz.prog 296:=⟨by kernel_rfl⟩
instance:CB Tryz.prog 304:=⟨by kernel_rfl⟩
instance:CB Tryz.prog 305:=⟨by kernel_rfl⟩
instance:CB Tryz.prog 306:=⟨by kernel_rfl⟩
instance:CB Tryz.prog 307:=⟨by kernel_rfl⟩
instance:CB Tryz.prog 308:=⟨by kernel_rfl⟩
instance:CB Tryz.prog 309:=⟨by kernel_rfl⟩
instance:CB Tryz.prog 310:=⟨by kernel_rfl⟩
instance:CB Tryz.prog 311:=⟨by kernel_rfl⟩
instance:CB Tryz.prog 324:=⟨by kernel_rfl⟩
instance:CT Tryz.prog 137:=⟨by kernel_rfl⟩
instance:CT Tryz.prog 155:=⟨by kernel_rfl⟩
instance:CT Tryz.prog 39:=⟨by kernel_rfl⟩
instance:CT Tryz.prog 63:=⟨by kernel_rfl⟩
instance:SLT Tryz.prog 119 137 1:=⟨by kernel_rfl⟩
instance:SLT Tryz.prog 128 155 1:=⟨by kernel_rfl⟩
instance:SLT Tryz.prog 250 252 7:=⟨by kernel_rfl⟩
instance:SLT Tryz.prog 358 39 1:=⟨by kernel_rfl⟩
instance:SLT Tryz.prog 40 217 4:=⟨by kernel_rfl⟩
instance:SLT Tryz.prog 47 118 2:=⟨by kernel_rfl⟩
instance:SLT Tryz.prog 63 46 4:=⟨by kernel_rfl⟩
instance:SZ Tryz.prog 252 7:=⟨by kernel_rfl⟩
instance:SZ Tryz.prog 39 1:=⟨by kernel_rfl⟩
instance:SZ Tryz.prog 46 4:=⟨by kernel_rfl⟩
instance:SZ Tryz.prog 63 1:=⟨by kernel_rfl⟩
instance:UN Tryz.prog 39 (.slice 9):=⟨Tryz.underlying39⟩
instance:UN Tryz.prog 40 (.slice 217):=⟨Tryz.underlying40⟩
instance:UN Tryz.prog 47 (.slice 118):=⟨Tryz.underlying47⟩
instance:UN Tryz.prog 52 (.slice 231):=⟨Tryz.underlying52⟩
instance:ZT Tryz.prog 118 (.agg #[(.bool false),(Sl.val ⟨none,0,0⟩)]):=⟨Tryz.t118,by kernel_rfl,by kernel_rfl⟩
instance:ZT Tryz.prog 217 (.agg #[(.int .i64 0),(.string ⟨#[]⟩),(Sl.val ⟨none,0,0⟩),(.int .i64 0)]):=⟨Tryz.t217,by kernel_rfl,by kernel_rfl⟩
instance:ZT Tryz.prog 252 (.agg #[(.int .i64 0),(.int .u64 0),(.int .u64 0),(.int .i64 0),(.string ⟨#[]⟩),(.int .i64 0),(.int .u64 0)]):=⟨Tryz.t252,by kernel_rfl,by kernel_rfl⟩
instance:ZT Tryz.prog 46 (.agg #[(.int .i64 0),(.int .u64 0),(.int .u64 0),(.int .i64 0)]):=⟨Tryz.t46,by kernel_rfl,by kernel_rfl⟩
instance:ZT Tryz.prog 9 (.string ⟨#[]⟩):=⟨Tryz.t9,by kernel_rfl,by kernel_rfl⟩
def yc.s2(Q:Sl→K)(b:Int→Int→K)(f:Sl)(g:Value)(c d:Int): K :=
 Ar (IntKind.wrap .i64 (d+1)) fun a=>
 b c a
def yc.b1(Q:Sl→K)(j:Int→Int→K)(a:Sl)(g:Value)(b d:Int): K :=
 Ite (decide (d<(a.n:Int)))
  (Idx a d 1 fun k=>
  Ld k (Value.int .i64) fun i=>
  vZ Tryz.prog g [.int .i64 i]<|yH (fun(f:Bool)=>Value.bool f) fun f=>
  Ite (!f)
   (Idx a b 1 fun l=>
   St l (.int .i64 i)<|
   Ar (IntKind.wrap .i64 (b+1)) fun m=>
   yc.s2 Q j a g m d)
   (yc.s2 Q j a g b d))
  (Slc a b (a.n:Int) (a.c:Int) 1 fun o=>
  Do Tryz.prog (Builtin.clear_ #[94] 0 #[Sl.val o]) id fun _=>
  Slc a 0 b (a.c:Int) 1 fun p=>
  Q p)
def yc(b:Sl)(c:Value)(Q:Sl→K): K :=
 xL.call b c fun a=>
 Ite (decide (a=(-1)))
  (Q b)
  (Ar (IntKind.wrap .i64 (a+1)) fun d=>
  zq (α:=Int×Int) (fun X x=>yc.b1 Q (fun f g=>X (f,g)) b c x.1 x.2) (a,d))
theorem zEG(g i Q w)(h:yc g i Q w):yc.call g i Q w:=by
 have:∀j,XH 5 j→JH 6 fun D=>∃c d f,D [(0,Sl.val c),(1,d),(6,.int .i64 f)] (fun C=>∀k,C [(0,Sl.val c),(1,d),(5,.int .i64 k),(6,.int .i64 f)] (yc.s2 Q (fun a b=>j (a,b)) c d k f)):=by intros;exact⟨fun _ ⟨_,_,_,h⟩=>⟨_,_,h⟩⟩
 have:∀l m,LH 5 (fun x:Int×Int=>[(0,Sl.val l),(1,m),(5,.int .i64 x.1),(6,.int .i64 x.2)]) (fun X x=>yc.b1 Q (fun a b=>X (a,b)) l m x.1 x.2):=fun _ _=>⟨⟩
 exact zJ 42 h Tryz.func62
def vB(b:Sl)(Q:Sl→K): K :=
 Ite ((b).a.isNone)
  (Q (Sl.mk none 0 0))
  (New 118 #[] fun c=>
  Do Tryz.prog (Builtin.append_ #[47,47] 47 #[(Sl.val (Sl.mk (some c) 0 0)),Sl.val b]) Sl.val fun d=>
  Q d)
theorem zDc(a Q w)(h:vB a Q w):vB.call a Q w:=by
 exact zJ 8 h Tryz.func108
def qP(b:Sl)(Q:Sl→K): K :=
 Ite ((b).a.isNone)
  (Q (Sl.mk none 0 0))
  (New 231 #[] fun c=>
  Do Tryz.prog (Builtin.append_ #[52,52] 52 #[(Sl.val (Sl.mk (some c) 0 0)),Sl.val b]) Sl.val fun d=>
  Q d)
theorem zA8(a Q w)(h:qP a Q w):qP.call a Q w:=by
 exact zJ 8 h Tryz.func113
def uJ(b:Sl)(c:Int)(Q:Bool→K): K :=
 xq.call b c fun a=>
 Q (decide ((0:Int)≤a))
theorem zEh(a b Q w)(h:uJ a b Q w):uJ.call a b Q w:=by
 exact zJ 9 h Tryz.func122
def yg.b1(Q g:Int→K)(i:Sl)(j:Value)(k a:Int): K :=
 Ite (decide (a<k))
  (Idx i a 1 fun c=>
  Ld c Value.pointer fun d=>
  vZ Tryz.prog j [.pointer d]<|yH (fun(b:Bool)=>Value.bool b) fun b=>
  Ite b
   (Q a)
   (Ar (IntKind.wrap .i64 (a+1)) fun f=>
   g f))
  (Q (-1))
def yg(a:Sl)(b:Value)(Q:Int→K): K :=
 zq (α:=Int) (fun X x=>yg.b1 Q X a b (a.n:Int) x) 0
theorem zAK(a b Q w)(h:yg a b Q w):yg.call a b Q w:=by
 have:∀c d f,LH 2 (fun x:Int=>[(0,Sl.val c),(1,d),(7,.int .i64 f),(8,.int .i64 x)]) (fun X x=>yg.b1 Q X c d f x):=fun _ _ _=>⟨⟩
 exact zJ 19 h Tryz.func124
def xu(a:Sl)(d f:Int)(Q:Sl→K): K :=
 Slc a d f (a.n:Int) 1 fun k=>
 Ite (decide (d=f))
  (Q a)
  (Dr<|
  Slc a 0 d (a.c:Int) 1 fun g=>
  Slc a f (a.n:Int) (a.c:Int) 1 fun i=>
  Do Tryz.prog (Builtin.append_ #[128,128] 128 #[Sl.val g,Sl.val i]) Sl.val fun b=>
  Slc b (b.n:Int) (a.n:Int) (b.c:Int) 1 fun j=>
  Do Tryz.prog (Builtin.clear_ #[128] 0 #[Sl.val j]) id fun _=>
  Q b)
theorem zCb(b c d Q w)(h:xu b c d Q w):xu.call b c d Q w:=by
 have:DH 5 0 [] (.s [0,1,2,3,4,5] (.a [(6,0,.s [7] .e)])):=⟨⟩
 exact zJ 33 h Tryz.func129
def zBR(a:Sl)(Q:K): K :=
 Ar (IntKind.wrap .u64 (a.n:Int)) fun b=>
 zIr.call b fun c=>
 zFN.call a 0 (a.n:Int) c<|
 Q
def yA.s3(Q:Sl→K)(f:Int→K)(b:Int→Int→K)(g:Sl)(c:Int)(i:Sl)(d:Int): K :=
 Ar (IntKind.wrap .i64 (d+1)) fun a=>
 b c a
def yA.b2(Q:Sl→K)(g:Int→K)(i:Int→Int→K)(a b:Sl)(f d:Int): K :=
 Ite (decide (d<(b.n:Int)))
  (Dr<|
  Idx b d 1 fun j=>
  Ld j (Value.int .i64) fun k=>
  Ar (IntKind.wrap .i64 (d-1)) fun l=>
  Idx b l 1 fun m=>
  Ld m (Value.int .i64) fun o=>
  Ite (decide (k≠o))
   (Idx b d 1 fun p=>
   Ld p (Value.int .i64) fun q=>
   Idx a f 1 fun r=>
   St r (.int .i64 q)<|
   Ar (IntKind.wrap .i64 (f+1)) fun s=>
   yA.s3 Q g i a s b d)
   (yA.s3 Q g i a f b d))
  (Slc a f (a.n:Int) (a.c:Int) 1 fun t=>
  Do Tryz.prog (Builtin.clear_ #[94] 0 #[Sl.val t]) id fun _=>
  Slc a 0 f (a.c:Int) 1 fun u=>
  Q u)
def yA.b1(Q:Sl→K)(d:Int→K)(a:Sl)(b:Int): K :=
 Ite (decide (b<(a.n:Int)))
  (Dr<|
  Idx a b 1 fun f=>
  Ld f (Value.int .i64) fun g=>
  Ar (IntKind.wrap .i64 (b-1)) fun i=>
  Idx a i 1 fun j=>
  Ld j (Value.int .i64) fun k=>
  Ite (decide (g=k))
   (Slc a b (a.n:Int) (a.c:Int) 1 fun l=>
   zq (α:=Int×Int) (fun X x=>yA.b2 Q d (fun m o=>X (m,o)) a l x.1 x.2) (b,1))
   (Ar (IntKind.wrap .i64 (b+1)) fun p=>
   d p))
  (Q a)
def yA(a:Sl)(Q:Sl→K): K :=
 Ite (decide ((a.n:Int)<2))
  (Q a)
  (zq (α:=Int) (fun X x=>yA.b1 Q X a x) 1)
theorem zEw(i Q w)(h:yA i Q w):yA.call i Q w:=by
 have:∀a,XH 4 a→∀j,XH 9 j→JH 10 fun D=>∃d f g,D [(0,Sl.val d),(4,Sl.val f),(5,.int .i64 g)] (fun C=>∀k,C [(0,Sl.val d),(3,.int .i64 k),(4,Sl.val f),(5,.int .i64 g)] (yA.s3 Q a (fun b c=>j (b,c)) d k f g)):=by intros;exact⟨fun _ ⟨_,_,_,h⟩=>⟨_,_,h⟩⟩
 have:∀a,XH 4 a→∀l m,LH 9 (fun x:Int×Int=>[(0,Sl.val l),(3,.int .i64 x.1),(4,Sl.val m),(5,.int .i64 x.2)]) (fun X x=>yA.b2 Q a (fun b c=>X (b,c)) l m x.1 x.2):=by intros;exact⟨⟩
 have:∀n,LH 4 (fun x:Int=>[(0,Sl.val n),(3,.int .i64 x)]) (fun X x=>yA.b1 Q X n x):=fun _=>⟨⟩
 exact zJ 61 h Tryz.func132
def xL.b1(Q g:Int→K)(i:Sl)(j:Value)(k a:Int): K :=
 Ite (decide (a<k))
  (Idx i a 1 fun c=>
  Ld c (Value.int .i64) fun d=>
  vZ Tryz.prog j [.int .i64 d]<|yH (fun(b:Bool)=>Value.bool b) fun b=>
  Ite b
   (Q a)
   (Ar (IntKind.wrap .i64 (a+1)) fun f=>
   g f))
  (Q (-1))
def xL(a:Sl)(b:Value)(Q:Int→K): K :=
 zq (α:=Int) (fun X x=>xL.b1 Q X a b (a.n:Int) x) 0
theorem zEb(a b Q w)(h:xL a b Q w):xL.call a b Q w:=by
 have:∀c d f,LH 2 (fun x:Int=>[(0,Sl.val c),(1,d),(7,.int .i64 f),(8,.int .i64 x)]) (fun X x=>xL.b1 Q X c d f x):=fun _ _ _=>⟨⟩
 exact zJ 19 h Tryz.func133
def yT(b:Sl)(c:Value)(Q:Bool→K): K :=
 zm.call b c fun a=>
 Q (decide ((0:Int)≤a))
theorem zBT(a b Q w)(h:yT a b Q w):yT.call a b Q w:=by
 exact zJ 9 h Tryz.func135
def jQ(b:Sl)(Q:Sl→K): K :=
 Ite ((b).a.isNone)
  (Q (Sl.mk none 0 0))
  (New 5 #[] fun c=>
  Do Tryz.prog (Builtin.append_ #[88,88] 88 #[(Sl.val (Sl.mk (some c) 0 0)),Sl.val b]) Sl.val fun d=>
  Q d)
theorem zEx(a Q w)(h:jQ a Q w):jQ.call a Q w:=by
 exact zJ 8 h Tryz.func159
def xw(b:Sl)(c:Value)(Q:Bool→K): K :=
 q8.call b c fun a=>
 Q (decide ((0:Int)≤a))
theorem zCc(a b Q w)(h:xw a b Q w):xw.call a b Q w:=by
 exact zJ 9 h Tryz.func180
def xS(b:Sl)(Q:Sl→K): K :=
 Ite ((b).a.isNone)
  (Q (Sl.mk none 0 0))
  (New 9 #[] fun c=>
  Do Tryz.prog (Builtin.append_ #[39,39] 39 #[(Sl.val (Sl.mk (some c) 0 0)),Sl.val b]) Sl.val fun d=>
  Q d)
theorem zD1(a Q w)(h:xS a Q w):xS.call a Q w:=by
 exact zJ 8 h Tryz.func181
def vN(b:Sl)(Q:Sl→K): K :=
 Ite ((b).a.isNone)
  (Q (Sl.mk none 0 0))
  (New 217 #[] fun c=>
  Do Tryz.prog (Builtin.append_ #[40,40] 40 #[(Sl.val (Sl.mk (some c) 0 0)),Sl.val b]) Sl.val fun d=>
  Q d)
theorem zD2(a Q w)(h:vN a Q w):vN.call a Q w:=by
 exact zJ 8 h Tryz.func182
def yj.b1(Q g:Int→K)(i:Sl)(j:Value)(k a:Int): K :=
 Ite (decide (a<k))
  (Idx i a 1 fun c=>
  Ld c Value.pointer fun d=>
  vZ Tryz.prog j [.pointer d]<|yH (fun(b:Bool)=>Value.bool b) fun b=>
  Ite b
   (Q a)
   (Ar (IntKind.wrap .i64 (a+1)) fun f=>
   g f))
  (Q (-1))
def yj(a:Sl)(b:Value)(Q:Int→K): K :=
 zq (α:=Int) (fun X x=>yj.b1 Q X a b (a.n:Int) x) 0
theorem zBo(a b Q w)(h:yj a b Q w):yj.call a b Q w:=by
 have:∀c d f,LH 2 (fun x:Int=>[(0,Sl.val c),(1,d),(7,.int .i64 f),(8,.int .i64 x)]) (fun X x=>yj.b1 Q X c d f x):=fun _ _ _=>⟨⟩
 exact zJ 19 h Tryz.func183
def xG(a:Sl)(d f:Int)(Q:Sl→K): K :=
 Slc a d f (a.n:Int) 1 fun k=>
 Ite (decide (d=f))
  (Q a)
  (Dr<|
  Slc a 0 d (a.c:Int) 1 fun g=>
  Slc a f (a.n:Int) (a.c:Int) 1 fun i=>
  Do Tryz.prog (Builtin.append_ #[119,119] 119 #[Sl.val g,Sl.val i]) Sl.val fun b=>
  Slc b (b.n:Int) (a.n:Int) (b.c:Int) 1 fun j=>
  Do Tryz.prog (Builtin.clear_ #[119] 0 #[Sl.val j]) id fun _=>
  Q b)
theorem zB8(b c d Q w)(h:xG b c d Q w):xG.call b c d Q w:=by
 have:DH 5 0 [] (.s [0,1,2,3,4,5] (.a [(6,0,.s [7] .e)])):=⟨⟩
 exact zJ 33 h Tryz.func185
def zX.s2(Q:Sl→K)(b:Int→Int→K)(f:Sl)(c:Int)(g:Sl)(i d:Int): K :=
 Ar (IntKind.wrap .i64 (d+1)) fun a=>
 b c a
def zX.b3(Q:Sl→K)(l:Int→Int→K)(i:Sl→Int→K)(j:Sl)(k:Int)(b:Sl)(a:Int): K :=
 Ite (decide (a<k))
  (Idx j a 1 fun c=>
  Ld c Sl.val fun d=>
  Do Tryz.prog (Builtin.append_ #[39,39] 39 #[Sl.val b,Sl.val d]) Sl.val fun f=>
  Ar (IntKind.wrap .i64 (a+1)) fun g=>
  i f g)
  (Q b)
def zX.b1(Q:Sl→K)(d:Int→Int→K)(a f:Sl)(g i b:Int): K :=
 Ite (decide (b<g))
  (Idx f b 1 fun j=>
  Ld j Sl.val fun k=>
  Ar (IntKind.wrap .i64 (i+(k.n:Int))) fun c=>
  Ite (decide (c<0))
   (Rd Tryz.prog (Instr.makeInterface 9 (.string ⟨#[108,101,110,32,111,117,116,32,111,102,32,114,97,110,103,101]⟩)) id fun p=>
   Dead)
   (zX.s2 Q d a c f g b))
  (yJ.call (Sl.mk none 0 0) i fun l=>
  zq (α:=Sl×Int) (fun X x=>zX.b3 Q d (fun m o=>X (m,o)) a (a.n:Int) x.1 x.2) (l,0))
def zX(a:Sl)(Q:Sl→K): K :=
 zq (α:=Int×Int) (fun X x=>zX.b1 Q (fun b c=>X (b,c)) a a (a.n:Int) x.1 x.2) (0,0)
theorem zDm(j Q w)(h:zX j Q w):zX.call j Q w:=by
 have:∀c,XH 3 c→JH 8 fun D=>∃d f g i,D [(0,Sl.val d),(9,Sl.val f),(10,.int .i64 g),(11,.int .i64 i)] (fun C=>∀k,C [(0,Sl.val d),(3,.int .i64 k),(9,Sl.val f),(10,.int .i64 g),(11,.int .i64 i)] (zX.s2 Q (fun a b=>c (a,b)) d k f g i)):=by intros;exact⟨fun _ ⟨_,_,_,_,h⟩=>⟨_,_,h⟩⟩
 have:∀c,XH 3 c→∀l m,LH 11 (fun x:Sl×Int=>[(6,Sl.val x.1),(25,Sl.val l),(26,.int .i64 m),(27,.int .i64 x.2)]) (fun X x=>zX.b3 Q (fun a b=>c (a,b)) (fun q r=>X (q,r)) l m x.1 x.2):=by intros;exact⟨⟩
 have:∀n o p,LH 3 (fun x:Int×Int=>[(0,Sl.val n),(3,.int .i64 x.1),(9,Sl.val o),(10,.int .i64 p),(11,.int .i64 x.2)]) (fun X x=>zX.b1 Q (fun a b=>X (a,b)) n o p x.1 x.2):=fun _ _ _=>⟨⟩
 exact zJ 36 h Tryz.func190
def uW(a:Sl)(Q:K): K :=
 Ar (IntKind.wrap .u64 (a.n:Int)) fun b=>
 zIr.call b fun c=>
 zEf.call a 0 (a.n:Int) c<|
 Q
def zW.s3(Q:Sl→K)(f:Int→K)(b:Int→Int→K)(g:Sl)(c:Int)(i:Sl)(d:Int): K :=
 Ar (IntKind.wrap .i64 (d+1)) fun a=>
 b c a
def zW.b2(Q:Sl→K)(g:Int→K)(i:Int→Int→K)(a b:Sl)(f d:Int): K :=
 Ite (decide (d<(b.n:Int)))
  (Dr<|
  Idx b d 1 fun j=>
  Ld j Value.string fun k=>
  Ar (IntKind.wrap .i64 (d-1)) fun l=>
  Idx b l 1 fun m=>
  Ld m Value.string fun o=>
  Ite (!(k.toList==o.toList))
   (Idx b d 1 fun p=>
   Ld p Value.string fun q=>
   Idx a f 1 fun r=>
   St r (.string q)<|
   Ar (IntKind.wrap .i64 (f+1)) fun s=>
   zW.s3 Q g i a s b d)
   (zW.s3 Q g i a f b d))
  (Slc a f (a.n:Int) (a.c:Int) 1 fun t=>
  Do Tryz.prog (Builtin.clear_ #[39] 0 #[Sl.val t]) id fun _=>
  Slc a 0 f (a.c:Int) 1 fun u=>
  Q u)
def zW.b1(Q:Sl→K)(d:Int→K)(a:Sl)(b:Int): K :=
 Ite (decide (b<(a.n:Int)))
  (Dr<|
  Idx a b 1 fun f=>
  Ld f Value.string fun g=>
  Ar (IntKind.wrap .i64 (b-1)) fun i=>
  Idx a i 1 fun j=>
  Ld j Value.string fun k=>
  Ite (g.toList==k.toList)
   (Slc a b (a.n:Int) (a.c:Int) 1 fun l=>
   zq (α:=Int×Int) (fun X x=>zW.b2 Q d (fun m o=>X (m,o)) a l x.1 x.2) (b,1))
   (Ar (IntKind.wrap .i64 (b+1)) fun p=>
   d p))
  (Q a)
def zW(a:Sl)(Q:Sl→K): K :=
 Ite (decide ((a.n:Int)<2))
  (Q a)
  (zq (α:=Int) (fun X x=>zW.b1 Q X a x) 1)
theorem zDd(i Q w)(h:zW i Q w):zW.call i Q w:=by
 have:∀a,XH 4 a→∀j,XH 9 j→JH 10 fun D=>∃d f g,D [(0,Sl.val d),(4,Sl.val f),(5,.int .i64 g)] (fun C=>∀k,C [(0,Sl.val d),(3,.int .i64 k),(4,Sl.val f),(5,.int .i64 g)] (zW.s3 Q a (fun b c=>j (b,c)) d k f g)):=by intros;exact⟨fun _ ⟨_,_,_,h⟩=>⟨_,_,h⟩⟩
 have:∀a,XH 4 a→∀l m,LH 9 (fun x:Int×Int=>[(0,Sl.val l),(3,.int .i64 x.1),(4,Sl.val m),(5,.int .i64 x.2)]) (fun X x=>zW.b2 Q a (fun b c=>X (b,c)) l m x.1 x.2):=by intros;exact⟨⟩
 have:∀n,LH 4 (fun x:Int=>[(0,Sl.val n),(3,.int .i64 x)]) (fun X x=>zW.b1 Q X n x):=fun _=>⟨⟩
 exact zJ 61 h Tryz.func192
def xq.b1(Q f:Int→K)(g:Sl)(i j a:Int): K :=
 Ite (decide (a<j))
  (Idx g a 1 fun b=>
  Ld b (Value.int .i64) fun c=>
  Ite (decide (i=c))
   (Q a)
   (Ar (IntKind.wrap .i64 (a+1)) fun d=>
   f d))
  (Q (-1))
def xq(a:Sl)(b:Int)(Q:Int→K): K :=
 zq (α:=Int) (fun X x=>xq.b1 Q X a b (a.n:Int) x) 0
theorem zFO(a b Q w)(h:xq a b Q w):xq.call a b Q w:=by
 have:∀c d f,LH 2 (fun x:Int=>[(0,Sl.val c),(1,.int .i64 d),(7,.int .i64 f),(8,.int .i64 x)]) (fun X x=>xq.b1 Q X c d f x):=fun _ _ _=>⟨⟩
 exact zJ 19 h Tryz.func193
def zm.b1(Q g:Int→K)(i:Sl)(j:Value)(k a:Int): K :=
 Ite (decide (a<k))
  (Idx i a 7 fun c=>
  LdN c 7 fun d=>
  vZ Tryz.prog j [.agg d]<|yH (fun(b:Bool)=>Value.bool b) fun b=>
  Ite b
   (Q a)
   (Ar (IntKind.wrap .i64 (a+1)) fun f=>
   g f))
  (Q (-1))
def zm(a:Sl)(b:Value)(Q:Int→K): K :=
 zq (α:=Int) (fun X x=>zm.b1 Q X a b (a.n:Int) x) 0
theorem vY(a b Q w)(h:zm a b Q w):zm.call a b Q w:=by
 have:∀c d f,LH 2 (fun x:Int=>[(0,Sl.val c),(1,d),(7,.int .i64 f),(8,.int .i64 x)]) (fun X x=>zm.b1 Q X c d f x):=fun _ _ _=>⟨⟩
 exact zJ 19 h Tryz.func194
def jh(b:Value)(Q:Sl→K): K :=
 jN.call b fun a=>
 uW.call a<|
 Q a
theorem zFv(a Q w)(h:jh a Q w):jh.call a Q w:=by
 exact zJ 9 h Tryz.func213
def x9(b:Sl)(c:Value)(Q:Bool→K): K :=
 q9.call b c fun a=>
 Q (decide ((0:Int)≤a))
theorem zCd(a b Q w)(h:x9 a b Q w):x9.call a b Q w:=by
 exact zJ 9 h Tryz.func231
def qW(b:Sl)(c:ByteArray)(Q:Bool→K): K :=
 qY.call b c fun a=>
 Q (decide ((0:Int)≤a))
theorem zDJ(a b Q w)(h:qW a b Q w):qW.call a b Q w:=by
 exact zJ 9 h Tryz.func233
def q8.b1(Q g:Int→K)(i:Sl)(j:Value)(k a:Int): K :=
 Ite (decide (a<k))
  (Idx i a 4 fun c=>
  LdN c 4 fun d=>
  vZ Tryz.prog j [.agg d]<|yH (fun(b:Bool)=>Value.bool b) fun b=>
  Ite b
   (Q a)
   (Ar (IntKind.wrap .i64 (a+1)) fun f=>
   g f))
  (Q (-1))
def q8(a:Sl)(b:Value)(Q:Int→K): K :=
 zq (α:=Int) (fun X x=>q8.b1 Q X a b (a.n:Int) x) 0
theorem zC5(a b Q w)(h:q8 a b Q w):q8.call a b Q w:=by
 have:∀c d f,LH 2 (fun x:Int=>[(0,Sl.val c),(1,d),(7,.int .i64 f),(8,.int .i64 x)]) (fun X x=>q8.b1 Q X c d f x):=fun _ _ _=>⟨⟩
 exact zJ 19 h Tryz.func234
def yJ.s2(Q:Sl→K)(a:Sl): K :=
 Q a
def yJ.s1(Q:Sl→K)(a:Sl)(l:Int): K :=
 Do Tryz.prog (Builtin.cap_ #[39] 3 #[Sl.val a]) (Value.int .i64) fun f=>
 Ar (IntKind.wrap .i64 (f-(a.n:Int))) fun g=>
 Ar (IntKind.wrap .i64 (l-g)) fun b=>
 Ite (decide ((0:Int)<b))
  (Do Tryz.prog (Builtin.cap_ #[39] 3 #[Sl.val a]) (Value.int .i64) fun i=>
  Slc a 0 i (a.c:Int) 1 fun j=>
  Do Tryz.prog (Builtin.append_ #[39,3] 39 #[Sl.val j,.int .i64 b]) Sl.val fun d=>
  Slc d 0 (a.n:Int) (d.c:Int) 1 fun k=>
  yJ.s2 Q k)
  (yJ.s2 Q a)
def yJ(b:Sl)(a:Int)(Q:Sl→K): K :=
 Ite (decide (a<0))
  (Rd Tryz.prog (Instr.makeInterface 9 (.string ⟨#[99,97,110,110,111,116,32,98,101,32,110,101,103,97,116,105,118,101]⟩)) id fun c=>
  Dead)
  (yJ.s1 Q b a)
theorem zEH(c d Q w)(h:yJ c d Q w):yJ.call c d Q w:=by
 have:JH 6 fun D=>D [] (fun C=>∀f,C [(0,Sl.val f)] (yJ.s2 Q f)):=⟨fun _ h=>⟨_,_,h⟩⟩
 have:JH 3 fun D=>∃a b,D [(0,Sl.val a),(1,.int .i64 b)] (fun C=>C [(0,Sl.val a),(1,.int .i64 b)] (yJ.s1 Q a b)):=⟨fun _ ⟨_,_,h⟩=>⟨_,_,h⟩⟩
 exact zJ 27 h Tryz.func235
def zL.s2(Q:Sl→K)(b:Int→Int→K)(f:Sl)(g:Value)(c d:Int): K :=
 Ar (IntKind.wrap .i64 (d+1)) fun a=>
 b c a
def zL.b1(Q:Sl→K)(j:Int→Int→K)(a:Sl)(i:Value)(b d:Int): K :=
 Ite (decide (d<(a.n:Int)))
  (Idx a d 7 fun k=>
  LdN k 7 fun l=>
  New 252 #[.int .i64 0,.int .u64 0,.int .u64 0,.int .i64 0,(.string ⟨#[]⟩),.int .i64 0,.int .u64 0] fun f=>
  StN f 7 l<|
  LdN f 7 fun m=>
  vZ Tryz.prog i [.agg m]<|yH (fun(g:Bool)=>Value.bool g) fun g=>
  Ite (!g)
   (LdN f 7 fun o=>
   Idx a b 7 fun p=>
   StN p 7 o<|
   Ar (IntKind.wrap .i64 (b+1)) fun q=>
   zL.s2 Q j a i q d)
   (zL.s2 Q j a i b d))
  (Slc a b (a.n:Int) (a.c:Int) 7 fun r=>
  Do Tryz.prog (Builtin.clear_ #[250] 0 #[Sl.val r]) id fun _=>
  Slc a 0 b (a.c:Int) 7 fun s=>
  Q s)
def zL(b:Sl)(c:Value)(Q:Sl→K): K :=
 zm.call b c fun a=>
 Ite (decide (a=(-1)))
  (Q b)
  (Ar (IntKind.wrap .i64 (a+1)) fun d=>
  zq (α:=Int×Int) (fun X x=>zL.b1 Q (fun f g=>X (f,g)) b c x.1 x.2) (a,d))
theorem jU(g i Q w)(h:zL g i Q w):zL.call g i Q w:=by
 have:∀j,XH 5 j→JH 6 fun D=>∃c d f,D [(0,Sl.val c),(1,d),(6,.int .i64 f)] (fun C=>∀k,C [(0,Sl.val c),(1,d),(5,.int .i64 k),(6,.int .i64 f)] (zL.s2 Q (fun a b=>j (a,b)) c d k f)):=by intros;exact⟨fun _ ⟨_,_,_,h⟩=>⟨_,_,h⟩⟩
 have:∀l m,LH 5 (fun x:Int×Int=>[(0,Sl.val l),(1,m),(5,.int .i64 x.1),(6,.int .i64 x.2)]) (fun X x=>zL.b1 Q (fun a b=>X (a,b)) l m x.1 x.2):=fun _ _=>⟨⟩
 exact zJ 42 h Tryz.func237
def q9.b1(Q g:Int→K)(i:Sl)(j:Value)(k a:Int): K :=
 Ite (decide (a<k))
  (Idx i a 1 fun c=>
  Ld c Value.string fun d=>
  vZ Tryz.prog j [.string d]<|yH (fun(b:Bool)=>Value.bool b) fun b=>
  Ite b
   (Q a)
   (Ar (IntKind.wrap .i64 (a+1)) fun f=>
   g f))
  (Q (-1))
def q9(a:Sl)(b:Value)(Q:Int→K): K :=
 zq (α:=Int) (fun X x=>q9.b1 Q X a b (a.n:Int) x) 0
theorem zC6(a b Q w)(h:q9 a b Q w):q9.call a b Q w:=by
 have:∀c d f,LH 2 (fun x:Int=>[(0,Sl.val c),(1,d),(7,.int .i64 f),(8,.int .i64 x)]) (fun X x=>q9.b1 Q X c d f x):=fun _ _ _=>⟨⟩
 exact zJ 19 h Tryz.func262
def jN(b:Value)(Q:Sl→K): K :=
 vR.call (Sl.mk none 0 0) b fun a=>
 Q a
theorem zFf(a Q w)(h:jN a Q w):jN.call a Q w:=by
 exact zJ 5 h Tryz.func263
def qY.b1(Q f:Int→K)(g:Sl)(i:ByteArray)(j a:Int): K :=
 Ite (decide (a<j))
  (Idx g a 1 fun b=>
  Ld b Value.string fun c=>
  Ite (i.toList==c.toList)
   (Q a)
   (Ar (IntKind.wrap .i64 (a+1)) fun d=>
   f d))
  (Q (-1))
def qY(a:Sl)(b:ByteArray)(Q:Int→K): K :=
 zq (α:=Int) (fun X x=>qY.b1 Q X a b (a.n:Int) x) 0
theorem zD3(a b Q w)(h:qY a b Q w):qY.call a b Q w:=by
 have:∀c d f,LH 2 (fun x:Int=>[(0,Sl.val c),(1,.string d),(7,.int .i64 f),(8,.int .i64 x)]) (fun X x=>qY.b1 Q X c d f x):=fun _ _ _=>⟨⟩
 exact zJ 19 h Tryz.func274
def vR(k:Sl)(l:Value)(Q:Sl→K): K :=
 New 39 #[Sl.val k] fun a=>
 jE Tryz.prog l Value.string (fun b c=>
  Ld a Sl.val fun d=>
  New 9 #[.string c] fun f=>
  Do Tryz.prog (Builtin.append_ #[39,39] 39 #[Sl.val d,(Sl.val (Sl.mk (some f) 1 1))]) Sl.val fun g=>
  St a (Sl.val g)<|
  b)
 fun i=>
 Ld a Sl.val fun j=>
 zAp i<|
 Q j
theorem zC7(a b Q w)(h:vR a b Q w):vR.call a b Q w:=by
 exact zJ 13 h Tryz.func296
end
section
open Go Go.Sep Go.Sep.Bt
noncomputable def btS:BtT ByteArray where
 P:=Tryz.prog
 tI:=zD0
 tSI:=zDb
 tV:=zw
 tK:=zDa
 tSK:=zC0
 tN:=zDy
 tT:=zDz
 nv:=4
 kz:=.string ⟨#[]⟩
 vz:=[.bool false,Sl.val ⟨none,0,0⟩,.int .i64 0,.int .u64 0]
 kV:=Value.string
 cv:=.func (.func 294) #[] #[]
 bsC:=zC.call
 nsearchC:=qV.call
 nputC:=zY.call
 insIC:=zS.call
 insKC:=ze.call
 cloneIC:=yD.call
 cloneKC:=yE.call
def uX(a b:ByteArray):Int:=if a.toList<b.toList then -1 else if a.toList=b.toList then 0 else 1
theorem toList_inj{a b:ByteArray}(h:a.toList=b.toList):a=b:=by
 obtain⟨x,rfl⟩:=zJt a;obtain⟨y,rfl⟩:=zJt b;rw[qZ,qZ] at h;rw[h]
theorem zC8{a b:ByteArray}:uX a b<0↔a.toList<b.toList:=by
 unfold uX;split
 ·simp[*]
 ·split <;> simp[*]
theorem zE2{a b:ByteArray}:uX a b=0↔a=b:=by
 unfold uX;split
 ·rename_i h;simp only[show ¬((-1:Int)=0) by omega,false_iff];rintro rfl;exact zhM _ h
 ·split
  ·rename_i h;simp[toList_inj h]
  ·rename_i h;simp only[show ¬((1:Int)=0) by omega,false_iff];rintro rfl;exact h rfl
theorem zQ2{x y:List UInt8}(h1:¬x<y)(h2:¬x=y):y<x:=by
 have h4:y≤x:=by rw[←List.not_lt];exact h1
 rcases zh4.1 h4 with h5|h5
 ·exact h5
 ·exact absurd h5.symm h2
theorem zMX{a b:ByteArray}:0<uX a b↔b.toList<a.toList:=by
 unfold uX;split
 ·rename_i h;simp only[show ¬(0<(-1:Int)) by omega,false_iff];exact fun h2=>zhM _ (ziA h h2)
 ·split
  ·rename_i h;simp only[show ¬(0<(0:Int)) by omega,false_iff];rw[h];exact zhM _
  ·rename_i h1 h2;simp only[show 0<(1:Int) by omega,true_iff];exact zQ2 h1 h2
theorem zMY{B:World}{Γ:List zB}{x:ByteArray}{q:Bool→K}(h:HG B Γ (q false)):HG B Γ (cmp_isNaN_string.call x q):=fun w hw=>zIP _ _ _ (by unfold cmp_isNaN_string;simpa using h w hw)
theorem zPj{B:World}{Γ:List zB}{x y:ByteArray}{q:Int→K}(h:HG B Γ (q (uX x y))):HG B Γ (zAT.call x y q):=fun w hw=>by
 refine zGe _ _ _ _ ?_;refine hg hw ?_;unfold zAT;refine zMY (zMY ?_);refine s_f ?_ rfl;refine s_f ?_ rfl;rw[zXh,zCM];refine zF (fun h1=>?_) fun h1=>?_
 ·have e:uX x y = -1:=by unfold uX;rw[if_pos (by simpa using h1)]
  rw[e] at h;exact h
 refine zF (fun h2=>?_) fun h2=>?_
 ·have h3:y.toList<x.toList:=by simpa using h2
  have e:uX x y=1:=by
   unfold uX;rw[if_neg (by simpa using h1),if_neg fun h4=>by rw[h4] at h3;exact zhM _ h3]
  rw[e] at h;exact h
 ·have h3:¬y.toList<x.toList:=by simpa using h2
  have e:uX x y=0:=by
   unfold uX;rw[if_neg (by simpa using h1),if_pos (Classical.byContradiction fun h4=>h3 (zQ2 (by simpa using h1) h4))]
  rw[e] at h;exact h
theorem zHN:zJA btS uX where
 kf:=fun _=>rfl
 kzf:=rfl
 vz:=⟨rfl,rfl⟩
 TI:=by kernel_rfl
 ZI:=by kernel_rfl
 TK:=by kernel_rfl
 ZK:=by kernel_rfl
 tr:=fun h1 h2=>zC8.2 (ziA (zC8.1 h1) (zC8.1 h2))
 eq:=zE2
 sw:=by intro a b;rw[zC8,zMX]
 cmp:=fun a b vs q hl h=>by
  refine zZ5 ?_;refine fun w hw=>zCO _ _ _ _ ?_;refine hg hw ?_;clear hw w;unfold vW;refine zD fun t=>?_;refine zh (b:=t) (x:=a) ?_;refine zPj ?_;exact zA h
 bs:=fun s k Q w h=>vO _ _ _ _ _ h
 search:=fun n k Q w h=>zCa _ _ _ _ h
 put:=fun n x Q w h=>zC4 _ _ _ _ h
 zGd:=⟨_,_,fun s i v Q w h=>ug _ _ _ _ _ h⟩
 zSf:=⟨_,_,fun s i v Q w h=>uh _ _ _ _ _ h⟩
 cloneI:=fun s Q w h=>uj _ _ _ h
 zI9:=fun s Q w h=>uo _ _ _ h
section
variable{B:World}{Γ:List zB}
theorem zSk{Q:Option Addr→K}(h:∀t,HG B (jv btS uX t []::Γ) (Q (some ⟨t,0,none⟩))):HG B Γ (uV.call Q):=fun w hw=>
 zEF _ _ (show zcY btS Q w from hg hw (zVV h))
theorem zSl{t:Nat}{L:List btS.It}{k:ByteArray}{Q:Array Value→Bool→K}(hfound:∀A v C,L=A++(k,v)::C→HG B (jv btS uX t L::Γ) (Q v.1.toArray true))(hnot:(∀A C,L=A++C→(∀x∈A,uX x.1 k<0)→(∀x∈C,uX k x.1<0)→HG B (jv btS uX t L::Γ) (Q btS.vz.toArray false))):
  HG B (jv btS uX t L::Γ) (qQ.call (some ⟨t,0,none⟩) k Q):=fun w hw=>
 zC2 _ _ _ _ (show zcZ btS (some ⟨t,0,none⟩) k Q w from hg hw (zVX zHN hfound hnot))
theorem zSm{t:Nat}{L:List btS.It}{k:ByteArray}{v:Cel btS.nv}{Q:Array Value→Bool→K}(hL:L.length<1000000000)(h:∀L' old had,zIO uX (btS.z0 zHN.vz) L k v L' old had→HG B (jv btS uX t L'::Γ) (Q old.1.toArray had)):
  HG B (jv btS uX t L::Γ) (zP.call (some ⟨t,0,none⟩) k v.1.toArray Q):=fun w hw=>
 zC3 _ _ _ _ _ (show zcb btS (some ⟨t,0,none⟩) k v.1.toArray Q w from hg hw (zVW zHN hL h))
end
end
section
open Go Go.Sep
section
variable{B w:World}{Γ:List zB}
theorem zKc{b:Sl}{xs:List UInt8}{k:Sl→K}(h:Holds B Γ w)(hr:∀w,Holds B Γ w→RdB w b xs)(hl:xs.length≤1000000000)
  (hk:∀s w,Holds B (Bytes qO s xs::Γ) w→s.a.isNone=b.a.isNone→k s w):uG.call b k w:=by
 refine zFC _ _ _ ?_;unfold uG;refine zdc (fun hb=>?_) (fun hb=>?_)
 ·have hx:xs=[]:=by
   have h1:=(hr w h).nil (by simpa using hb);have h2:=(hr w h).len;rw[h1] at h2;simpa using h2
  subst hx;exact hk _ _ (h.ji _ _) (by rw[hb];rfl)
 ·refine zQX h ?_;clear h;intro t w h
  try simp only[jD,zg8,Nat.reduceAdd]
  have hn:b.n=xs.length:=by have h2:=(hr w h.tail).len;simpa using h2.symm
  refine zHG (vs:=[]) (h.imp (zAq rfl rfl)) (by kernel_rfl) (by kernel_rfl) (by':=1) (by kernel_rfl) zIq rfl (hr w h.tail) (zED _) (by simp only[hn];omega) (by decide) fun s w h hs ha=>?_;refine hk s w h ?_;rw[hb];have:=ha rfl;cases hh:s.a <;> simp[hh] at this ⊢
end
end
section
open Go Go.Sep Go.Sep.Bt
structure Rec where
 has:Bool
 val:List UInt8
 home:Int
 cnt:Int
def Rec.ok(r:Rec):Prop:=0≤r.cnt∧r.cnt≤18446744073709551615∧r.val.length≤1000000000
abbrev zDn(r:Rec)(s:Sl):List Value:=[.bool r.has,s.val,.int .i64 r.home,.int .u64 r.cnt]
abbrev zLY(r:Rec)(s:Sl):Array Value:=#[.bool r.has,s.val,.int .i64 r.home,.int .u64 r.cnt]
abbrev recC(x:Rec×Sl):Cel 4:=⟨zDn x.1 x.2,rfl,rfl⟩
abbrev zo:=List (ByteArray×Rec)
abbrev zCF:=ByteArray×(Rec×Sl)
abbrev zFD(x:zCF):zB:=Bytes qO x.2.2 x.2.1.val
abbrev zB9(x:zCF):btS.It:=(x.1,recC x.2)
abbrev zEI(x:zCF):ByteArray×Rec:=(x.1,x.2.1)
def zCP(k:List UInt8)(n:Nat):Nat:=k.foldl (fun s b=>(s+b.toNat)%n) 0
def getM(M:zo)(k:ByteArray):Option Rec:=(M.find? fun x=>decide (x.1=k)).map Prod.snd
def zB1(M:zo)(k:ByteArray)(r:Rec):zo:=match M with
 | []=>[(k,r)]
 | x::M=>if uX x.1 k<0 then x::zB1 M k r else if x.1=k then(k,r)::M else(k,r)::x::M
def yt(n:Nat)(M:zo)(k:ByteArray):Rec:=(getM M k).getD ⟨false,[],zCP k.toList n,0⟩
def jw(n:Nat)(M:zo)(k:ByteArray)(h:Int):zo×Int :=
 if h<0∨(n:Int)≤h then(M,1) else if(yt n M k).cnt=18446744073709551615 then(M,111) else(zB1 M k { yt n M k with home:=h,cnt:=(yt n M k).cnt+1 },0)
theorem zXk(M:zo)(k k':ByteArray)(r:Rec):getM (zB1 M k r) k'=if k'=k then some r else getM M k':=by
 induction M with
 | nil=>by_cases h:k'=k <;> simp[zB1,getM,h,eq_comm]
 | cons x M ih=>
  unfold zB1;split
  ·rename_i h;have hx:x.1≠k:=fun e=>by rw[e] at h;have:=zC8.1 h;exact zhM _ this
   by_cases h2:k'=k
   ·subst h2;have:=ih;simp only[getM,List.find?_cons,zhX] at this ⊢;rw[show decide (x.1=k')=false by simpa using hx];simpa using this
   ·simp only[if_neg h2] at ih ⊢;by_cases h3:x.1=k'
    ·simp[getM,List.find?_cons,h3]
    ·simp only[getM,List.find?_cons,show decide (x.1=k')=false by simpa using h3];simpa[getM] using ih
  ·split
   ·rename_i h h1;by_cases h2:k'=k
    ·subst h2;simp[getM]
    ·simp[getM,List.find?_cons,h2,Ne.symm h2,h1]
   ·rename_i h h1;by_cases h2:k'=k
    ·subst h2;simp[getM]
    ·simp[getM,List.find?_cons,h2,Ne.symm h2]
theorem zMZ(M:zo)(k:ByteArray)(r:Rec):(zB1 M k r).length≤M.length+1:=by
 induction M with
 | nil=>simp[zB1]
 | cons x M ih=>
  unfold zB1;split
  ·simp;omega
  ·split <;> simp
theorem zMa{M:zo}{k:ByteArray}{r:Rec}{x:ByteArray×Rec}(h:x∈zB1 M k r):x=(k,r)∨x∈M:=by
 induction M with
 | nil=>simpa[zB1] using h
 | cons y M ih=>
  unfold zB1 at h;split at h
  ·rcases zgS.1 h with rfl|h
   ·exact .inr zgN
   ·rcases ih h with h|h
    ·exact .inl h
    ·exact .inr (zgI _ h)
  ·split at h
   ·rcases zgS.1 h with rfl|h
    ·exact .inl rfl
    ·exact .inr (zgI _ h)
   ·rcases zgS.1 h with rfl|h
    ·exact .inl rfl
    ·exact .inr h
theorem zJy(n:Nat)(M:zo)(k k':ByteArray)(r:Rec):yt n (zB1 M k r) k'=if k'=k then r else yt n M k':=by
 unfold yt;rw[zXk];split <;> simp
theorem zMb{M:zo}{k:ByteArray}{r:Rec}(h:getM M k=some r):(k,r)∈M:=by
 simp only[getM,Option.map_eq_some_iff] at h;obtain⟨x,hx,rfl⟩:=h;have h1:=List.mem_of_find?_eq_some hx;have h2:=List.find?_some hx;simp only[zgH] at h2;rw[←h2];exact h1
theorem zQ3{A C:zo}{k:ByteArray}{r:Rec}(hA:∀x∈A,x.1≠k):getM (A++(k,r)::C) k=some r:=by
 unfold getM;rw[List.find?_append,List.find?_eq_none.2 (fun x hx=>by simpa using hA x hx)];simp
theorem getM_none{M:zo}{k:ByteArray}(h:∀x∈M,x.1≠k):getM M k=none:=by
 unfold getM;rw[List.find?_eq_none.2 (fun x hx=>by simpa using h x hx)];rfl
theorem zXl{A C:zo}{k:ByteArray}{r0 r:Rec}(hA:∀x∈A,uX x.1 k<0):zB1 (A++(k,r0)::C) k r=A++(k,r)::C:=by
 induction A with
 | nil=>
  have:¬uX k k<0:=fun h=>zhM _ (zC8.1 h);simp[zB1,this]
 | cons x A ih=>
  rw[zhC,zB1,if_pos (hA x zgN),ih (fun y hy=>hA y (zgI _ hy))];rfl
theorem zXm{A C:zo}{k:ByteArray}{r:Rec}(hA:∀x∈A,uX x.1 k<0)(hC:∀x∈C,uX k x.1<0):zB1 (A++C) k r=A++(k,r)::C:=by
 induction A with
 | nil=>
  cases C with
  | nil=>rfl
  | cons y C=>
   have h:=zC8.1 (hC y zgN);have h1:¬uX y.1 k<0:=fun h2=>zhM _ (ziA h (zC8.1 h2));have h2:¬y.1=k:=fun e=>by rw[e] at h;exact zhM _ h
   simp[zB1,h1,h2]
 | cons x A ih=>
  rw[zhC,zB1,if_pos (hA x zgN),ih (fun y hy=>hA y (zgI _ hy))];rfl
def yM(st n:Nat)(M:zo):zB:=ex fun t=>ex fun X:List zCF=>Sep.stars [pur (M=X.map zEI∧(∀x∈M,x.2.ok)∧1≤n∧n≤3),blk st (.cells [.int .i64 n,.pointer (some ⟨t,0,none⟩)].toArray xX (0,0)),jv btS uX t (X.map zB9),Sep.stars (X.map zFD)]
section
variable{B:World}{Γ Δ:List zB}
instance(priority:=high) zdE{st n:Nat}{M:zo}:Sep.Own st (yM st n M::Γ) (yM st n M) Γ:=⟨.refl _⟩
theorem zL4{st n:Nat}{M:zo}{k:K}(h:∀t (X:List zCF),M=X.map zEI→(∀x∈M,x.2.ok)→1≤n→n≤3→HG B (blk st (.cells [.int .i64 n,.pointer (some ⟨t,0,none⟩)].toArray xX (0,0))::jv btS uX t (X.map zB9)::Sep.stars (X.map zFD)::Γ) k):HG B (yM st n M::Γ) k :=
 zCE fun t=>zCE fun X=>zBL<|zHK fun⟨h1,h2,h3,h4⟩=>h t X h1 h2 h3 h4
theorem zEJ{st n t:Nat}{X:List zCF}{k:K}(h2:∀x∈X.map zEI,x.2.ok)(h3:1≤n)(h4:n≤3)(h:HG B (yM st n (X.map zEI)::Γ) k):HG B (blk st (.cells [.int .i64 n,.pointer (some ⟨t,0,none⟩)].toArray xX (0,0))::jv btS uX t (X.map zB9)::Sep.stars (X.map zFD)::Γ) k:=fun w hw=>by
 refine h w ?_;have h3:Holds B (Sep.stars [pur (X.map zEI=X.map zEI∧(∀x∈X.map zEI,x.2.ok)∧1≤n∧n≤3),blk st (.cells [.int .i64 n,.pointer (some ⟨t,0,none⟩)].toArray xX (0,0)),jv btS uX t (X.map zB9),Sep.stars (X.map zFD)]::Γ) w:=Holds.flat.2 (Holds.pur.2 ⟨⟨rfl,h2,h3,h4⟩,hw⟩);exact h3.imp fun g hg=>⟨t,X,hg⟩
theorem zPk{k:ByteArray}{n:Nat}{q:Int→K}(h1:1≤n)(hn:n≤1000)(hk:k.size<1000000000000)(h:HG B Γ (q (zCP k.toList n:Nat))):HG B Γ (j4.call k n q):=fun w hw=>by
 refine zKb _ _ _ _ ?_;refine hg hw ?_;clear hw w;unfold j4;refine s_f ?_;obtain⟨l,rfl⟩:=zJt k;rw[qZ] at h;have hsz:(bs l).size=l.length:=rfl;refine zAa (fun x:Int×Int=>∃i s:Nat,x=((s:Int),(i:Int))∧i≤l.length∧s=zCP (l.take i) n∧s<n) (fun x=>l.length-x.2.toNat) ⟨0,0,rfl,zgW _,rfl,by omega⟩ fun k' x hx hk'=>?_;obtain⟨i,s,rfl,hi,hs,hsn⟩:=hx;unfold j4.b1;dsimp only;refine zF (fun hb=>?_) fun hb=>?_
 ·have hil:i<l.length:=by simp only[zgH] at hb;omega
  refine fun w hw=>⟨(l[i].toNat:Int),l[i],by omega,?_,rfl,hg hw ?_⟩
  ·show(bs l)[((i:Nat):Int).toNat]?=_;rw[zgw];exact zg0 (xs:=l.toArray) (by simpa using hil)
  have hb8:l[i].toNat<256:=l[i].toNat_lt;refine qJ ?_;refine qJ ?_;refine zSe (by omega) ?_;refine zAw (e':=(((s+l[i].toNat)%n:Nat):Int)) ?_ ?_
  ·rw[Int.tmod_eq_emod_of_nonneg (by omega)];simp
  refine qJ ?_;refine hk' _ ⟨i+1,(s+l[i].toNat)%n,by simp,hil,?_,Nat.mod_lt _ (by omega)⟩ (by simp only;omega);rw[hs,zgJ hil,zCP,zCP,zhQ];rfl
 ·have hil:i=l.length:=by simp only[zgF] at hb;omega
  rw[hil,zgQ] at hs;rw[hs];exact h
theorem zNm{b:Sl}{xs:List UInt8}{q:Sl→K}(hr:∀w,Holds B Γ w→RdB w b xs)(hl:xs.length≤1000000000)(hk:∀s,s.a.isNone=b.a.isNone→HG B (Bytes qO s xs::Γ) (q s)):HG B Γ (uG.call b q):=fun w hw=>
 zKc hw hr hl fun s w h hs=>hk s hs w h
theorem zIt{n:Nat}{q:Option Addr→Int→K}(h1:1≤n)(h3:n≤3)(h:∀st,HG B (yM st n []::Γ) (q (some ⟨st,0,none⟩) 0)):HG B Γ (zBr.call n q):=fun w hw=>by
 refine zPi _ _ _ ?_;refine hg hw ?_;clear hw w;unfold zBr;refine s_f ?_;unfold zBr.s1;refine s_f ?_;refine zSk fun t=>?_;show HG B (jv btS uX t (([]:List zCF).map zB9)::Γ) _;refine zD fun st=>?_;refine fun w hw=>?_;refine hg (show Holds B (Sep.stars (([]:List zCF).map zFD)::_) w from Holds.flat.2 hw) ?_;refine zA (Δ:=blk st (.cells [.int .i64 n,.pointer (some ⟨t,0,none⟩)].toArray xX (0,0))::jv btS uX t (([]:List zCF).map zB9)::Sep.stars (([]:List zCF).map zFD)::Γ) ?_;exact zEJ (by simp) h1 h3 (h st)
theorem zOR{X:List zCF}{A C:List btS.It}{k:ByteArray}{v:Cel btS.nv}(e:X.map zB9=A++((k,v):btS.It)::C):∃XA r XC,X=XA++(k,r)::XC∧A=XA.map zB9∧C=XC.map zB9∧v=recC r:=by
 obtain⟨XA,X2,rfl,rfl,h2⟩:=List.map_eq_append_iff.1 e;obtain⟨⟨k',r⟩,XC,rfl,h3,rfl⟩:=List.map_eq_cons_iff.1 h2;simp only[zB9,zhj] at h3;obtain⟨rfl,rfl⟩:=h3;exact⟨XA,r,XC,rfl,rfl,rfl,rfl⟩
theorem zOS{X:List zCF}{A C:List btS.It}(e:X.map zB9=A++C):∃XA XC,X=XA++XC∧A=XA.map zB9∧C=XC.map zB9:=by
 obtain⟨XA,X2,rfl,rfl,rfl⟩:=List.map_eq_append_iff.1 e;exact⟨XA,X2,rfl,rfl,rfl⟩
theorem zOT{X Y:List zCF}{k:ByteArray}{r:Rec×Sl}(h:Srt uX ((X++(k,r)::Y).map zB9)):∀x∈X,uX x.1 k<0:=fun x hx=>by
 rw[zgT] at h;exact(zgf.1 h).2.2 (zB9 x) (zgV.2 ⟨x,hx,rfl⟩) (zB9 (k,r)) (by simp)
theorem ne_of_lt{a b:ByteArray}(h:uX a b<0):a≠b:=fun e=>by rw[e] at h;exact zhM _ (zC8.1 h)
theorem zbU{t4 r5:Nat}{r:Rec}{s:Sl}{z:List Value}{q:Array Value→K}(hz:z.length=4)(hzf:z.all qD=true)(hr:∀w,Holds B Γ w→RdB w s r.val)(hl:r.val.length≤1000000000)(h:∀s',s'.a.isNone=s.a.isNone→HG B (Bytes qO s' r.val::Γ) (q (zLY r s'))):
  HG B (blk r5 (.cells (zDn r s).toArray zw (0,0))::blk t4 (.cells z.toArray zw (0,0))::Γ) (qX.s1 q ⟨t4,0,none⟩ ⟨r5,0,none⟩):=by
 unfold qX.s1;refine zh (b:=r5) (x:=s) ?_;refine zNm (fun w hw=>hr w hw.tail.tail) hl fun s' hs'=>?_;refine zCN (b:=r5) ?_;refine yC (b:=r5) ?_;refine yX (b:=t4) ?_ hz rfl rfl;refine yC (b:=t4) ?_;exact zA (h s' hs')
theorem zBi{st n:Nat}{M:zo}{k:ByteArray}{q:Array Value→K}(hk:k.size<1000000000000)(h:∀s,(yt n M k).ok→HG B (Bytes qO s (yt n M k).val::yM st n M::Γ) (q (zLY (yt n M k) s))):HG B (yM st n M::Γ) (qX.call (some ⟨st,0,none⟩) k q):=fun w hw=>by
 refine zJC _ _ _ _ ?_;refine hg hw ?_;clear hw w;refine zL4 fun t X hM hok h1 h3=>?_;unfold qX;refine zD fun t4=>?_;refine uf ?_;refine zh (b:=st) (x:=some ⟨t,0,none⟩) ?_;refine yN t ?_;refine zQ0 fun hs=>?_;refine zSl (fun A v C e=>?_) fun A C e hA hC=>?_
 ·obtain⟨XA,r,XC,rfl,rfl,rfl,rfl⟩:=zOR e;have hlt:=zOT hs;have hg':getM M k=some r.1:=by
   rw[hM,zgT];exact zQ3 fun x hx=>by
    obtain⟨y,hy,rfl⟩:=zgV.1 hx;exact ne_of_lt (hlt y hy)
  have hr:yt n M k=r.1:=by unfold yt;rw[hg'];rfl
  have hrok:r.1.ok:=hok (k,r.1) (zMb hg');rw[hr] at h;refine zD fun r5=>?_;refine yX (b:=r5) (l':=zDn r.1 r.2) ?_;refine s_f ?_;refine zA (Δ:=blk r5 (.cells (zDn r.1 r.2).toArray zw (0,0))::blk t4 (.cells [.bool false,Sl.val ⟨none,0,0⟩,.int .i64 0,.int .u64 0].toArray zw (0,0))::blk st (.cells [.int .i64 n,.pointer (some ⟨t,0,none⟩)].toArray xX (0,0))::jv btS uX t ((XA++(k,r)::XC).map zB9)::Sep.stars ((XA++(k,r)::XC).map zFD)::Γ) ?_;refine zbU (r:=r.1) rfl rfl (fun w hw=>?_) hrok.2.2 fun s' hs'=>?_
  ·have h5:Holds B (zFD (k,r)::_) w:=(Holds.flat.1 (hw.tail.tail)).perm zHL |>.perm zhq;exact h5.rdC zgN
  ·rw[hM] at h;refine zA (Δ:=blk st (.cells [.int .i64 n,.pointer (some ⟨t,0,none⟩)].toArray xX (0,0))::jv btS uX t ((XA++(k,r)::XC).map zB9)::Sep.stars ((XA++(k,r)::XC).map zFD)::Bytes qO s' r.1.val::Γ) ?_;refine zEJ (by rw[←hM];exact hok) h1 h3 ?_;exact zA (h s' hrok)
 ·obtain⟨XA,XC,rfl,rfl,rfl⟩:=zOS e;have hg':getM M k=none:=by
   rw[hM,zgT];refine getM_none fun x hx=>?_;rcases zgP.1 hx with hx|hx
   ·obtain⟨y,hy,rfl⟩:=zgV.1 hx;exact ne_of_lt (hA (zB9 y) (zgV.2 ⟨y,hy,rfl⟩))
   ·obtain⟨y,hy,rfl⟩:=zgV.1 hx;exact Ne.symm (ne_of_lt (hC (zB9 y) (zgV.2 ⟨y,hy,rfl⟩)))
  have hr:yt n M k=⟨false,[],zCP k.toList n,0⟩:=by unfold yt;rw[hg'];rfl
  rw[hr] at h;refine zD fun r5=>?_;refine yX (b:=r5) (l':=zDn ⟨false,[],0,0⟩ ⟨none,0,0⟩) ?_;refine s_t ?_;refine zh (b:=st) (x:=(n:Int)) ?_;refine zPk h1 (by omega) hk ?_;refine zCN (b:=r5) ?_;refine zA (Δ:=blk r5 (.cells (zDn ⟨false,[],zCP k.toList n,0⟩ ⟨none,0,0⟩).toArray zw (0,0))::blk t4 (.cells [.bool false,Sl.val ⟨none,0,0⟩,.int .i64 0,.int .u64 0].toArray zw (0,0))::blk st (.cells [.int .i64 n,.pointer (some ⟨t,0,none⟩)].toArray xX (0,0))::jv btS uX t ((XA++XC).map zB9)::Sep.stars ((XA++XC).map zFD)::Γ) ?_;refine zbU (r:=⟨false,[],zCP k.toList n,0⟩) rfl rfl (fun w hw=>RdC.none') (by simp) fun s' hs'=>?_;rw[hM] at h;refine zA (Δ:=blk st (.cells [.int .i64 n,.pointer (some ⟨t,0,none⟩)].toArray xX (0,0))::jv btS uX t ((XA++XC).map zB9)::Sep.stars ((XA++XC).map zFD)::Bytes qO s' []::Γ) ?_;refine zEJ (by rw[←hM];exact hok) h1 h3 ?_;exact zA (h s' ⟨by simp,by simp,by simp⟩)
end
end
section
open Go Go.Sep Go.Sep.Bt
section
variable{B:World}{Γ Δ:List zB}
theorem zQ4{st t n:Nat}{X:List zCF}{k:ByteArray}{r:Rec}{s:Sl}{q:Array Value→Bool→K}(hok:∀x∈X.map zEI,x.2.ok)(hr:r.ok)(h1:1≤n)(h3:n≤3)(hL:X.length<1000000000)
  (h:∀a b,HG B (yM st n (zB1 (X.map zEI) k r)::Γ) (q a b)) :
  HG B (blk st (.cells [.int .i64 n,.pointer (some ⟨t,0,none⟩)].toArray xX (0,0))::jv btS uX t (X.map zB9)::Sep.stars (X.map zFD)::Bytes qO s r.val::Γ) (zP.call (some ⟨t,0,none⟩) k (zLY r s) q):=by
 refine yN t ?_;refine zQ0 fun hs=>?_;refine zSm (v:=recC (r,s)) (by simpa using hL) fun L' old had hp=>?_;have hput:∀x∈zB1 (X.map zEI) k r,x.2.ok:=fun x hx=>by
  rcases zMa hx with rfl|hx
  ·exact hr
  ·exact hok x hx
 rcases hp with⟨A,C,e,rfl,rfl⟩|⟨A,C,e,hA,hC,rfl,rfl,rfl⟩
 ·obtain⟨XA,r0,XC,rfl,rfl,rfl,rfl⟩:=zOR e;have hlt:=zOT hs;have e2:zB1 ((XA++(k,r0)::XC).map zEI) k r=(XA++(k,(r,s))::XC).map zEI:=by
   rw[zgT,zgd];rw[show zEI (k,r0)=(k,r0.1) from rfl,zXl (fun x hx=>by
    obtain⟨y,hy,rfl⟩:=zgV.1 hx;exact hlt y hy)]
   simp
  rw[e2] at h hput;refine qc (Sep.stars ((XA++(k,r0)::XC).map zFD)) ?_;refine zFB ?_;have e3:XA.map zB9++((k,recC (r,s)):btS.It)::XC.map zB9=(XA++(k,(r,s))::XC).map zB9:=by simp
  refine zA (Δ:=zFD (k,(r,s))::Sep.stars ((XA++XC).map zFD)::blk st (.cells [.int .i64 n,.pointer (some ⟨t,0,none⟩)].toArray xX (0,0))::jv btS uX t (XA.map zB9++((k,recC (r,s)):btS.It)::XC.map zB9)::Γ) ?_;refine zAb ?_;rw[e3];refine zA (Δ:=blk st (.cells [.int .i64 n,.pointer (some ⟨t,0,none⟩)].toArray xX (0,0))::jv btS uX t ((XA++(k,(r,s))::XC).map zB9)::Sep.stars ((XA++(k,(r,s))::XC).map zFD)::Γ) ?_;exact zEJ hput h1 h3 (h _ _)
 ·obtain⟨XA,XC,rfl,rfl,rfl⟩:=zOS e;have e2:zB1 ((XA++XC).map zEI) k r=(XA++(k,(r,s))::XC).map zEI:=by
   rw[zgT,zXm (fun x hx=>by
    obtain⟨y,hy,rfl⟩:=zgV.1 hx;exact hA (zB9 y) (zgV.2 ⟨y,hy,rfl⟩)) (fun x hx=>by
    obtain⟨y,hy,rfl⟩:=zgV.1 hx;exact hC (zB9 y) (zgV.2 ⟨y,hy,rfl⟩))]
   simp
  rw[e2] at h hput;have e3:XA.map zB9++((k,recC (r,s)):btS.It)::XC.map zB9=(XA++(k,(r,s))::XC).map zB9:=by simp
  refine zA (Δ:=zFD (k,(r,s))::Sep.stars ((XA++XC).map zFD)::blk st (.cells [.int .i64 n,.pointer (some ⟨t,0,none⟩)].toArray xX (0,0))::jv btS uX t (XA.map zB9++((k,recC (r,s)):btS.It)::XC.map zB9)::Γ) ?_;refine zAb ?_;rw[e3];refine zA (Δ:=blk st (.cells [.int .i64 n,.pointer (some ⟨t,0,none⟩)].toArray xX (0,0))::jv btS uX t ((XA++(k,(r,s))::XC).map zB9)::Sep.stars ((XA++(k,(r,s))::XC).map zFD)::Γ) ?_;exact zEJ hput h1 h3 (h _ _)
theorem zIu{st n:Nat}{M:zo}{k:ByteArray}{r:Rec}{s:Sl}{q:K}(hr:r.ok)(hne:r.has=true∨r.cnt≠0)(hL:M.length<1000000000)(h:HG B (yM st n (zB1 M k r)::Γ) q):HG B (yM st n M::Bytes qO s r.val::Γ) (vG.call (some ⟨st,0,none⟩) k (zLY r s) q):=fun w hw=>by
 refine zJD _ _ _ _ _ ?_;refine hg hw ?_;clear hw w;refine zL4 fun t X hM hok h1 h3=>?_;subst hM;unfold vG;refine zD fun r5=>?_;refine zh (b:=r5) (x:=r.has) ?_;have key:HG B (blk r5 (.cells (zDn r s).toArray zw (0,0))::blk st (.cells [.int .i64 n,.pointer (some ⟨t,0,none⟩)].toArray xX (0,0))::jv btS uX t (X.map zB9)::Sep.stars (X.map zFD)::Bytes qO s r.val::Γ) (vG.s1 q (some ⟨st,0,none⟩) k ⟨r5,0,none⟩ false):=by
  unfold vG.s1;refine s_f ?_;refine xg ?_;refine uf ?_;refine zh (b:=st) (x:=some ⟨t,0,none⟩) ?_;refine yC (b:=r5) ?_;refine zA (Δ:=blk st (.cells [.int .i64 n,.pointer (some ⟨t,0,none⟩)].toArray xX (0,0))::jv btS uX t (X.map zB9)::Sep.stars (X.map zFD)::Bytes qO s r.val::Γ) ?_;exact zQ4 hok hr h1 h3 (by simpa using hL) fun _ _=>h
 refine zF (fun hb=>?_) fun hb=>key;refine zh (b:=r5) (x:=r.cnt) ?_;have hc:r.cnt≠0:=hne.resolve_left (by simpa using hb);rw[show decide (r.cnt=0)=false by simpa using hc];exact key
theorem zMc{st n:Nat}{M:zo}{k:ByteArray}{to:Int}{q:Int→K}(hk:k.size<1000000000000)(hL:M.length<1000000000)(h:HG B (yM st n (jw n M k to).1::Γ) (q (jw n M k to).2)):HG B (yM st n M::Γ) (vE.call (some ⟨st,0,none⟩) k to q):=fun w hw=>by
 refine zIQ _ _ _ _ _ ?_;refine hg hw ?_;clear hw w;unfold vE;refine zBi hk fun s hok=>?_;generalize hR:yt n M k=r at *;refine zD fun r7=>?_;refine yX (b:=r7) (l':=zDn r s) ?_;have bad:to<0∨(n:Int)≤to→∀s0,HG B (blk r7 (.cells (zDn r s).toArray zw (0,0))::Bytes qO s r.val::yM st n M::Γ) (vE.s1 q s0 k to ⟨r7,0,none⟩ true):=fun hb s0=>by
  unfold vE.s1;refine s_t ?_;have e:jw n M k to=(M,1):=by unfold jw;rw[if_pos hb]
  rw[e] at h;exact zA h
 refine zF (fun hb=>bad (.inl (by simpa using hb)) _) fun hb=>?_;refine uf ?_;refine yN st ?_;refine zL4 fun t X hM hok2 h1 h3=>?_;refine zh (b:=st) (x:=(n:Int)) ?_;subst hM;refine zEJ hok2 h1 h3 ?_;refine zA (Δ:=blk r7 (.cells (zDn r s).toArray zw (0,0))::Bytes qO s r.val::yM st n (X.map zEI)::Γ) ?_;by_cases hb2:(n:Int)≤to
 ·rw[show decide ((n:Int)≤to)=true by simpa using hb2];exact bad (.inr hb2) _
 rw[show decide ((n:Int)≤to)=false by simpa using hb2];have hnb:¬(to<0∨(n:Int)≤to):=by
  simp only[zgF] at hb;omega
 unfold vE.s1;refine s_f ?_;refine zh (b:=r7) (x:=r.cnt) ?_;refine zF (fun hc=>?_) fun hc=>?_
 ·have e:jw n (X.map zEI) k to=(X.map zEI,111):=by unfold jw;rw[if_neg hnb,hR,if_pos (by simpa using hc)]
  rw[e] at h;exact zA h
 have hc':r.cnt≠18446744073709551615:=by simpa using hc
 obtain⟨o1,o2,o3⟩:=hok;refine zCN (b:=r7) ?_;refine zh (b:=r7) (x:=r.cnt) ?_;refine zAw (zCk (by omega) (by omega)) ?_;refine zCN (b:=r7) ?_;refine yC (b:=r7) (l':=zDn { r with home:=to,cnt:=r.cnt+1 } s) ?_;refine zA (Δ:=yM st n (X.map zEI)::Bytes qO s r.val::Γ) ?_;refine zIu (r:={ r with home:=to,cnt:=r.cnt+1 }) ⟨by simp only;omega,by simp only;omega,o3⟩ (.inr (by simp only;omega)) hL ?_;have e:jw n (X.map zEI) k to=(zB1 (X.map zEI) k { r with home:=to,cnt:=r.cnt+1 },0):=by unfold jw;rw[if_neg hnb,hR,if_neg hc']
 rw[e] at h;exact h
end
end
section
open Go Go.Sep
def zDo:Sh:=(.sl (.fld 0 1 (.int .i64) (.fld 1 1 (.int .i64) (.fld 2 1 (.int .i64) (.fld 3 5 (.fld 0 1 (.int .i64) (.fld 1 1 (.sl .str 1) (.fld 2 1 (.sl .str 1) (.fld 3 1 (.sl (.fld 0 1 (.int .i64) (.fld 1 1 .str (.fld 2 1 (.sl (.int .u8) 1) (.fld 3 1 (.int .i64) .nil)))) 4) (.fld 4 1 (.int .i64) .nil))))) (.fld 8 4 (.fld 0 3 (.fld 0 1 (.int .i64) (.fld 1 1 (.int .u64) (.fld 2 1 (.int .u64) .nil))) (.fld 3 1 (.int .i64) .nil)) (.fld 12 2 (.fld 0 1 (.int .i64) (.fld 1 1 (.sl (.fld 0 1 .bool (.fld 1 1 (.sl (.int .u8) 1) .nil)) 2) .nil)) (.fld 14 1 .str .nil))))))) 15)
theorem zeH:zQt Tryz.prog 9 22=zDo:=by kernel_rfl
end
end Go.Proofs.YtlelhlcjaapkoaaGreat
namespace Go.Proofs.YtlelhlcjaapkoaaGreat
open Go Go.Sep Go.Sep.Bt
def zBa(cnt mc home mh:Int):Int:=if cnt<mc then 1 else if mc=cnt∧mh=home then 0 else 2
section
variable{B:World}{Γ Δ:List zB}
theorem zSn{hs:Bool}{vl:Sl}{home cnt:Int}{key:ByteArray}{mh mc:Int}{q:Int→K}(h:HG B Γ (q (zBa cnt mc home mh))):
  HG B Γ (zAD.call #[.bool hs,vl.val,.int .i64 home,.int .u64 cnt] #[.string key,.int .i64 mh,.int .u64 mc] q):=fun w hw=>by
 refine zNl _ _ _ _ ?_;refine hg hw ?_;clear hw w;unfold zAD;refine zD fun r=>?_;refine zD fun m=>?_;refine zA (Δ:=blk m (.cells [.string key,.int .i64 mh,.int .u64 mc].toArray zi (0,0))::blk r (.cells [.bool hs,vl.val,.int .i64 home,.int .u64 cnt].toArray zw (0,0))::Γ) ?_;refine zh (b:=m) (x:=mc) ?_;refine zh (b:=r) (x:=cnt) ?_;refine zF (fun hb=>?_) fun hb=>?_
 ·have e:zBa cnt mc home mh=1:=by unfold zBa;rw[if_pos (by simpa using hb)]
  rw[e] at h;exact zA h
 have hb':¬cnt<mc:=by simpa using hb
 refine zh (b:=m) (x:=mc) ?_;refine zh (b:=r) (x:=cnt) ?_;refine zF (fun hc=>?_) fun hc=>?_
 ·have hc':mc=cnt:=by simpa using hc
  refine zh (b:=m) (x:=mh) ?_;refine zh (b:=r) (x:=home) ?_;unfold zAD.s1;refine zF (fun hd=>?_) fun hd=>?_
  ·have e:zBa cnt mc home mh=0:=by unfold zBa;rw[if_neg hb',if_pos ⟨hc',by simpa using hd⟩]
   rw[e] at h;exact zA h
  ·have e:zBa cnt mc home mh=2:=by unfold zBa;rw[if_neg hb',if_neg fun x=>by simp[x.2] at hd]
   rw[e] at h;exact zA h
 ·unfold zAD.s1;refine s_f ?_;have e:zBa cnt mc home mh=2:=by unfold zBa;rw[if_neg hb',if_neg fun x=>by simp[x.1] at hc]
  rw[e] at h;exact zA h
end
end Go.Proofs.YtlelhlcjaapkoaaGreat
namespace Go.Proofs.YtlelhlcjaapkoaaGreat
open Go Go.Sep Go.RowKit
end Go.Proofs.YtlelhlcjaapkoaaGreat
namespace Go.Sep
section
open Go Go.RowKit Go.MapKept
section
variable{α β:Type}[DecidableEq α]
def qj(k:α):List (α×β)→Option β
 | []=>none
 | p::m=>if k=p.1 then some p.2 else qj k m
def uH(k:α)(v:β):List (α×β)→List (α×β)
 | []=>[(k,v)]
 | p::m=>if k=p.1 then(k,v)::m else p::uH k v m
def zJE(k:α):List (α×β)→List (α×β)
 | []=>[]
 | p::m=>if k=p.1 then m else p::zJE k m
theorem zFE(k:α):∀m:List (α×β),(qj k m=none∧(∀v,uH k v m=m++[(k,v)])∧zJE k m=m∧∀p∈m,p.1≠k) ∨
  ∃j x,j<m.length∧m[j]?=some (k,x)∧(∀i,i<j→∀p,m[i]?=some p→p.1≠k)∧qj k m=some x∧(∀v,uH k v m=m.set j (k,v))∧zJE k m=m.eraseIdx j
 | []=>.inl ⟨rfl,fun _=>rfl,rfl,by simp⟩
 | p::m=>by
  by_cases hk:k=p.1
  ·refine .inr ⟨0,p.2,by simp,by rw[hk];rfl,fun i hi=>by omega,by simp[qj,hk],fun v=>by simp[uH,hk],by simp[zJE,hk]⟩
  ·rcases zFE k m with⟨h1,h2,h3,h4⟩|⟨j,x,hj,h0,hb,h1,h2,h3⟩
   ·refine .inl ⟨by simp[qj,hk,h1],fun v=>by simp[uH,hk,h2],by simp[zJE,hk,h3],fun q hq=>?_⟩;rcases zgS.1 hq with rfl|hq
    ·exact fun e=>hk e.symm
    ·exact h4 q hq
   ·refine .inr ⟨j+1,x,by simpa using hj,by simpa using h0,fun i hi q hq=>?_,by simp[qj,hk,h1],fun v=>by simp[uH,hk,h2],by simp[zJE,hk,h3]⟩;cases i with
    | zero=>simp at hq;subst hq;exact fun e=>hk e.symm
    | succ i=>exact hb i (by omega) q (by simpa using hq)
end
structure zLZ{α:Type}(d:TypeDesc)(enc:α→Value):Prop where
 key:∀a,IsKey d (enc a)
 inj:∀a b,enc a=enc b→a=b
 bits:∀a,Instr.sameBits 10000 (enc a) (enc a)=true
theorem zQ5:zLZ .string Value.string:=⟨fun _=>trivial,fun a b h=>by injection h,fun a=>by
 show(a==a)=true;rw[bytes_beq]⟩
section
variable{α β:Type}[DecidableEq α]{P:Program}{B w:World}{Γ:List zB}{enc:α→Value}{cV:β→Value}
def zFF(enc:α→Value)(cV:β→Value)(es:Array MapEntry)(m:List (α×β)):Prop:=es.toList.map (fun e=>(e.key,e.val))=m.map fun p=>(enc p.1,cV p.2)
def stamps(es:Array MapEntry)(c:Nat):Prop:=(es.toList.map (·.born)).Nodup∧∀e∈es.toList,e.born<c
theorem zSo(c:Nat):stamps #[] c:=⟨by simp,by simp⟩
theorem zHO{es:Array MapEntry}{c:Nat}(h:stamps es c)(k v:Value):stamps (es.push { key:=k,val:=v,born:=c }) (c+1):=by
 refine⟨?_,fun e he=>?_⟩
 ·simp only[zht,zgT,zgd,zhp];rw[zhd];refine⟨h.1,by simp,fun x hx y hy=>?_⟩;simp only[zgM] at hy;subst hy;obtain⟨e,he,rfl⟩:=zgV.1 hx;have:=h.2 e he;omega
 ·simp only[zht] at he;rcases zgP.1 he with he|he
  ·have:=h.2 e he;omega
  ·simp only[zgM] at he;subst he;exact Nat.lt_succ_self _
theorem zFg{es:Array MapEntry}{c:Nat}(h:stamps es c)(j:Nat)(k v:Value):stamps (es.modify j fun e=>{ e with key:=k,val:=v }) c:=by
 have e1:(es.modify j fun e=>{ e with key:=k,val:=v }).toList.map (·.born)=es.toList.map (·.born):=by
  apply zhV;intro i;simp only[zgk,zhR,zhI];split
  ·cases es[i]? <;> rfl
  ·rfl
 refine⟨by rw[e1];exact h.1,fun e he=>?_⟩;have:e.born∈es.toList.map (·.born):=by rw[←e1];exact List.mem_map_of_mem he
 obtain⟨e',he',hb⟩:=zgV.1 this;rw[←hb];exact h.2 e' he'
theorem zPl{es:Array MapEntry}{c:Nat}(h:stamps es c)(j:Nat):stamps (es.eraseIdxIfInBounds j) c:=by
 have hs:List.Sublist (es.eraseIdxIfInBounds j).toList es.toList:=by
  unfold Array.eraseIdxIfInBounds;split
  ·rw[Array.toList_eraseIdx];exact List.eraseIdx_sublist _ _
  ·exact List.Sublist.refl _
 exact⟨h.1.sublist (hs.map _),fun e he=>h.2 e (hs.subset he)⟩
def vv(enc:α→Value)(cV:β→Value)(b:Nat)(m:List (α×β)):zB:=ex fun es:Array MapEntry=>ex fun c:Nat=>fun g=>(zFF enc cV es m∧stamps es c)∧blk b (.map es c) g
theorem vv.opens{b:Nat}{m:List (α×β)}(h:Holds B (vv enc cV b m::Γ) w):∃es c,(zFF enc cV es m∧stamps es c)∧Holds B (blk b (.map es c)::Γ) w:=by
 obtain⟨es,h⟩:=Holds.ex.1 h;obtain⟨c,h⟩:=Holds.ex.1 h;exact⟨es,c,h.fact fun g hg=>hg.1,h.imp fun g hg=>hg.2⟩
theorem vv.shuts{b:Nat}{m:List (α×β)}{es:Array MapEntry}{c:Nat}(hr:zFF enc cV es m∧stamps es c)(h:Holds B (blk b (.map es c)::Γ) w):Holds B (vv enc cV b m::Γ) w :=
 Holds.ex.2 ⟨es,Holds.ex.2 ⟨c,h.imp fun g hg=>⟨hr,hg⟩⟩⟩
theorem zFW{es:Array MapEntry}{m:List (α×β)}(hr:zFF enc cV es m)(i:Nat):(es.toList[i]?).map (fun e=>(e.key,e.val))=(m[i]?).map fun p=>(enc p.1,cV p.2):=by
 have:=congrArg (·[i]?) hr;simpa using this
theorem zVY{d:TypeDesc}(hE:zLZ d enc){es:Array MapEntry}{m:List (α×β)}(hr:zFF enc cV es m):∀x∈es.toList,IsKey d x.key:=by
 intro x hx;have:(x.key,x.val)∈m.map fun p=>(enc p.1,cV p.2):=by rw[←hr];exact List.mem_map_of_mem hx
 obtain⟨p,_,hp⟩:=zgV.1 this;have:enc p.1=x.key:=congrArg Prod.fst hp;rw[←this];exact hE.key _
theorem zSp{d:TypeDesc}(hE:zLZ d enc){es:Array MapEntry}{m:List (α×β)}(hr:zFF enc cV es m)(k:α):
  (Instr.findNow d (enc k) es.toList 0=some none∧qj k m=none∧(∀v,uH k v m=m++[(k,v)])∧zJE k m=m) ∨
  ∃j x,Instr.findNow d (enc k) es.toList 0=some (some (j,cV x))∧j<m.length∧m[j]?=some (k,x)∧qj k m=some x∧(∀v,uH k v m=m.set j (k,v))∧zJE k m=m.eraseIdx j:=by
 have hlen:es.toList.length=m.length:=by have:=congrArg List.length hr;simpa using this
 rcases zFE k m with⟨h1,h2,h3,h4⟩|⟨j,x,hj,h0,hb,h1,h2,h3⟩
 ·refine .inl ⟨?_,h1,h2,h3⟩;rcases findNow_spec (hE.key k) es.toList 0 (zVY hE hr) with⟨g1,_⟩|⟨i,e,g1,g2,g3⟩
  ·exact g1
  ·have:=zFW hr i;rw[g2] at this;cases hm:m[i]? with
   | none=>rw[hm] at this;simp at this
   | some p=>
    rw[hm] at this;simp only[zg1,zg4,zhj] at this;exact absurd (hE.inj _ _ (this.1.symm.trans g3)) (h4 p (zgx hm))
 ·have key:∀(l:List MapEntry) (m:List (α×β)) (j i:Nat),l.map (fun e=>(e.key,e.val))=m.map (fun p=>(enc p.1,cV p.2))→m[j]?=some (k,x)→(∀i,i<j→∀p,m[i]?=some p→p.1≠k) →
    Instr.findNow d (enc k) l i=some (some (i+j,cV x)):=by
   intro l
   induction l with
   | nil=>intro m j i hr hm _;cases m <;> simp at hr hm
   | cons e l ih=>
    intro m j i hr hm hb;cases m with
    | nil=>simp at hr
    | cons p m=>
     simp only[zgd,zhZ,zhj] at hr;obtain⟨⟨e1,e2⟩,hr⟩:=hr;obtain⟨r,hs,hiff⟩:=sameNow_of_keys (hE.key k) (hE.key p.1);unfold Instr.findNow;rw[e1,hs];cases j with
     | zero=>
      simp only[List.getElem?_cons_zero,zg4] at hm;subst hm;have:r=true:=hiff.2 rfl;subst this;simp only[e2,zho]
     | succ j=>
      have hne:p.1≠k:=hb 0 (by omega) p rfl;have:r=false:=by
       cases r with
       | false=>rfl
       | true=>exact absurd (hE.inj _ _ (hiff.1 rfl)) (fun e=>hne e.symm)
      subst this;simp only;rw[ih m j (i+1) hr (by simpa using hm) (fun i' hi' q hq=>hb (i'+1) (by omega) q (by simpa using hq))];congr 3;omega
  refine .inr ⟨j,x,?_,hj,h0,h1,h2,h3⟩;have:=key es.toList m j 0 hr h0 hb;rwa[zg8] at this
def zFw(P:Program)(T:TypeId)(d:TypeDesc)(E:TypeId):Prop:=∃kt,P.underlying T=some (.map kt E)∧P.underlying kt=some d
theorem zQ6{T E:TypeId}{d:TypeDesc}{b:Nat}{m:List (α×β)}{z:β}{a:α}(hT:zFw P T d E)(hE:zLZ d enc)(hz:zCD P E (cV z)){es:Array MapEntry}{c:Nat}(hb:w.heap[b]?=some (.map es c))(hr:zFF enc cV es m)(ok:Bool):
  (Instr.lookup T (.map (some b)) (enc a) ok).run P w = .ok (if ok then .tuple #[cV ((qj a m).getD z),.bool (qj a m).isSome] else cV ((qj a m).getD z)) w:=by
 obtain⟨kt,hT,hd⟩:=hT;unfold Instr.lookup;simp only[Sem.run_bind,run_underlying hT,Result.andThen,MapKept.run_getObj_map hb,run_checkKey hd (hE.key a),Sem.run_pure];rcases zSp hE hr a with⟨h1,h2,_⟩|⟨j,x,h1,_,_,h2,_⟩
 ·simp only[run_findKey hd h1,Result.andThen,Sem.run_bind,zBH hz,Sem.run_pure,h2];cases ok <;> rfl
 ·simp only[run_findKey hd h1,Result.andThen,Sem.run_bind,Sem.run_pure,h2];cases ok <;> rfl
theorem zZ8{T E:TypeId}{d:TypeDesc}{b:Nat}{m:List (α×β)}{z:β}{a:α}{k:β→K}(hT:zFw P T d E)(hE:zLZ d enc)(hz:zCD P E (cV z))(h:Holds B (vv enc cV b m::Γ) w)
  (hk:k ((qj a m).getD z) w):Rd P (Instr.lookup T (.map (some b)) (enc a) false) cV k w:=by
 obtain⟨es,c,⟨hr,hst⟩,h⟩:=vv.opens h;exact⟨_,zQ6 hT hE hz h.block hr false,hk⟩
theorem Holds.zGK{b:Nat}{es es':Array MapEntry}{c c':Nat}(h:Holds B (blk b (.map es c)::Γ) w):(setObj b (.map es' c')).run P w = .ok () { w with heap:=w.heap.setIfInBounds b (.map es' c') } ∧
  Holds B (blk b (.map es' c')::Γ) { w with heap:=w.heap.setIfInBounds b (.map es' c') } :=
 ⟨run_setObj_map _ h.block,h.setBlock rfl⟩
theorem zXn{γ:Type}{cG:γ→Value}{g:β→γ}{T E:TypeId}{d:TypeDesc}{b:Nat}{m:List (α×β)}{z:β}{a:α}{k:γ→Bool→K}(hc:∀x,cV x=cG (g x))(hT:zFw P T d E)(hE:zLZ d enc)(hz:zCD P E (cV z))(h:Holds B (vv enc cV b m::Γ) w)
  (hk:k (g ((qj a m).getD z)) (qj a m).isSome w):Rd2 P (Instr.lookup T (.map (some b)) (enc a) true) (fun x y=>.tuple #[cG x,.bool y]) k w:=by
 obtain⟨es,c,⟨hr,hst⟩,h⟩:=vv.opens h;have:=zQ6 (a:=a) hT hE hz h.block hr true;exact⟨g ((qj a m).getD z),_,by rw[hc] at this;exact this,hk⟩
theorem zeI{T E:TypeId}{d:TypeDesc}{b:Nat}{m:List (α×β)}{a:α}{v:β}{k:K}(hT:zFw P T d E)(hE:zLZ d enc)(h:Holds B (vv enc cV b m::Γ) w)
  (hk:∀w',Holds B (vv enc cV b (uH a v m)::Γ) w'→k w'):DoU P (Instr.mapUpdate T (.map (some b)) (enc a) (cV v)) k w:=by
 obtain⟨kt,hT,hd⟩:=hT;obtain⟨es,c,⟨hr,hst⟩,h⟩:=vv.opens h;have hb:=h.block;have hlen:es.size=m.length:=by have:=congrArg List.length hr;simpa using this
 unfold Instr.mapUpdate DoU;simp only[Sem.run_bind,run_underlying hT,Result.andThen,MapKept.run_getObj_map hb,run_checkKey hd (hE.key a)];rcases zSp hE hr a with⟨h1,_,h2,_⟩|⟨j,x,h1,hj,h0,_,h2,_⟩
 ·simp only[run_findKey hd h1,Result.andThen];obtain⟨e1,h3⟩:=h.zGK (P:=P) (es':=es.push { key:=enc a,val:=cV v,born:=c }) (c':=c+1);refine⟨_,_,e1,hk _ (vv.shuts ⟨?_,zHO hst _ _⟩ h3)⟩;rw[h2];simp only[zFF,zht,zgT,zgd,zhp];rw[show es.toList.map (fun e=>(e.key,e.val))=_ from hr]
 ·have hes:∃e,es.toList[j]?=some e∧e.key=enc a:=by
   have:=zFW hr j;rw[h0] at this;cases he:es.toList[j]? with
   | none=>rw[he] at this;simp at this
   | some e=>
    rw[he] at this;simp only[zg1,zg4,zhj] at this;exact⟨e,rfl,this.1⟩
  obtain⟨e,he,hek⟩:=hes;have he2:es[j]?=some e:=by rw[←he,zhR]
  simp only[run_findKey hd h1,Result.andThen,Sem.run_bind,he2,zg1,zhP,hek,Instr.keyThatStays,hE.bits,zhX,Sem.run_pure];obtain⟨e1,h3⟩:=h.zGK (P:=P) (es':=es.modify j fun e=>{ e with key:=enc a,val:=cV v }) (c':=c);refine⟨_,_,e1,hk _ (vv.shuts ⟨?_,zFg hst _ _ _⟩ h3)⟩;rw[h2];simp only[zFF];apply zhV;intro i;have hi:=zFW hr i;simp only[zgk,zhR,zhI] at hi ⊢;by_cases hij:j=i
  ·subst hij;rw[zhO hj,he2];simp
  ·rw[zhl hij,if_neg hij];exact hi
end
section
variable{α β γ:Type}[DecidableEq α]
theorem zJz(g:β→γ)(k:α):∀m:List (α×β),qj k (m.map fun p=>(p.1,g p.2))=(qj k m).map g
 | []=>rfl
 | p::m=>by
  simp only[zgd,qj];split
  ·rfl
  ·exact zJz g k m
theorem zQ7(g:β→γ)(k:α)(v:β):∀m:List (α×β),uH k (g v) (m.map fun p=>(p.1,g p.2))=(uH k v m).map fun p=>(p.1,g p.2)
 | []=>rfl
 | p::m=>by
  simp only[zgd,uH];split
  ·rfl
  ·rw[zgd,zQ7 g k v m]
theorem zH8{k:α}{v:β}{m:List (α×β)}(h:qj k m=none):uH k v m=m++[(k,v)]:=by
 rcases zFE k m with⟨_,h2,_⟩|⟨_,_,_,_,_,h1,_⟩
 ·exact h2 v
 ·rw[h] at h1;cases h1
end
end
section
open Go Go.RowKit
section
variable{α β:Type}[DecidableEq α]{P:Program}{B w:World}{Γ Δ:List zB}{enc:α→Value}{cV:β→Value}{k:K}
instance(priority:=high) zej{α β:Type}[DecidableEq α]{enc:α→Value}{cV:β→Value}{b:Nat}{m:List (α×β)}{Γ:List zB}:Own b (vv enc cV b m::Γ) (vv enc cV b m) Γ:=⟨.refl _⟩
theorem zGL{T:TypeId}{k:Option Nat→K}(h:∀b,HG B (vv enc cV b []::Γ) (k (some b))):HG B Γ (Do P (Instr.makeMap T none) Value.map k):=fun w hw=>by
 refine⟨some w.heap.size,{ w with heap:=w.heap.push (.map #[] 0) },rfl,h _ _ (vv.shuts (es:=#[]) (c:=0) ⟨rfl,zSo 0⟩ (hw.alloc _))⟩
theorem zZ9{γ:Type}{cG:γ→Value}{g:β→γ}{T E:TypeId}{d:TypeDesc}{b:Nat}{m:List (α×β)}{z:β}{a:α}{k:γ→Bool→K}(hc:∀x,cV x=cG (g x))(hT:zFw P T d E)(hE:zLZ d enc)(hz:zCD P E (cV z))(h:HG B Γ (k (g ((qj a m).getD z)) (qj a m).isSome))[p:Own b Γ (vv enc cV b m) Δ]:
  HG B Γ (Rd2 P (Instr.lookup T (.map (some b)) (enc a) true) (fun x y=>.tuple #[cG x,.bool y]) k):=fun w hw=>zXn hc hT hE hz (hw.perm p.perm) (h w hw)
theorem zaA{γ:Type}{cG:γ→Value}{g:β→γ}{T E:TypeId}{d:TypeDesc}{b:Nat}{m:List (α×β)}{z:β}{a:α}{k:γ→K}(hc:∀x,cV x=cG (g x))(hT:zFw P T d E)(hE:zLZ d enc)(hz:zCD P E (cV z))(h:HG B Γ (k (g ((qj a m).getD z))))[p:Own b Γ (vv enc cV b m) Δ]:
  HG B Γ (Rd P (Instr.lookup T (.map (some b)) (enc a) false) cG k):=fun w hw=>by
 obtain⟨x,hx,hk⟩:=zZ8 (P:=P) (T:=T) (a:=a) (k:=fun y w=>y=(qj a m).getD z∧k (g y) w) hT hE hz (hw.perm p.perm) ⟨rfl,h w hw⟩;obtain⟨rfl,hk⟩:=hk;exact⟨_,by rw[hx,hc],hk⟩
theorem zbV{γ:Type}{cG:γ→Value}{T E:TypeId}{d:TypeDesc}{b:Nat}{m:List (α×β)}{a:α}{v:β}{x:Value}(hx:x=cV v)(hT:zFw P T d E)(hE:zLZ d enc)(h:HG B (vv enc cV b (uH a v m)::Δ) k)[p:Own b Γ (vv enc cV b m) Δ]:
  HG B Γ (DoU P (Instr.mapUpdate T (.map (some b)) (enc a) x) k):=fun w hw=>by subst hx;exact zeI hT hE (hw.perm p.perm) fun w' h'=>h w' h'
theorem zCv{zero:Array Value}{pl:Nat→Option (Nat×Nat)}{vs:List (Nat×Value)}{cs:List Value}{k:Array Value→K}(h:HG B Γ (k cs.toArray))(hc:Instr.fill pl zero vs=some cs.toArray:=by rfl):HG B Γ (Bld zero pl vs k):=fun w hw=>⟨_,hc,h w hw⟩
theorem zce{F:α×β→zB}{m:List (α×β)}{a:α}{v:β}(h:HG B (Sep.stars ((uH a v m).map F)::Γ) k):HG B (F (a,v)::Sep.stars (m.map F)::Γ) k:=by
 rcases zFE a m with⟨_,h2,_,_⟩|⟨j,x,hj,h0,_,_,h2,_⟩
 ·rw[h2 v] at h;have e:m=m++[]:=by simp
  rw[e];exact zAb (A:=m) (C:=[]) (x:=(a,v)) h
 ·rw[h2 v] at h;have hj':=zgZ.1 h0;have e1:m=m.take j++(a,x)::m.drop (j+1):=by
   obtain⟨h3,h4⟩:=hj';rw[←h4,←zgj h3,zgz]
  have e2:m.set j (a,v)=m.take j++(a,v)::m.drop (j+1):=by
   rw[List.set_eq_take_append_cons_drop,if_pos hj]
  rw[e2] at h;rw[e1];refine zGG ?_;refine zFB ?_;refine zA (Δ:=F (a,v)::Sep.stars ((m.take j++m.drop (j+1)).map F)::Γ) ?_;exact zAb h
theorem zDS(m:List (α×β))(a a':α)(v:β):qj a' (uH a v m)=if a'=a then some v else qj a' m:=by
 induction m with
 | nil=>simp[uH,qj]
 | cons p m ih=>
  unfold uH;split
  ·rename_i h;subst h;by_cases h2:a'=p.1 <;> simp[qj,h2]
  ·rename_i h;by_cases h2:a'=p.1
   ·simp[qj,h2];intro h3;exact absurd h3.symm h
   ·simp[qj,h2,ih]
theorem zEK(m:List (α×β))(a:α)(v:β):(uH a v m).map Prod.fst=if a∈m.map Prod.fst then m.map Prod.fst else m.map Prod.fst++[a]:=by
 induction m with
 | nil=>simp[uH]
 | cons p m ih=>
  unfold uH;split
  ·rename_i h;simp[h]
  ·rename_i h;simp only[zgd,ih,zgS,h,false_or];split <;> simp
theorem zFx{m:List (α×β)}{a:α}{v:β}(h:qj a m=some v):(a,v)∈m:=by
 induction m with
 | nil=>cases h
 | cons p m ih=>
  unfold qj at h;split at h
  ·rename_i h1;injection h with h;subst h1;subst h;exact zgN
  ·exact zgI _ (ih h)
end
end
section
open Go Go.RowKit
class Nx(B:World)(Γ:List zB)(k:K)(Δ:outParam (List zB))(j:outParam K):Prop where h:HG B Δ j→HG B Γ k
class zQ8(l:List Value)(n:Nat)(v:outParam Value):Prop where h:nth l n=some v
class Cv{α:Type}(c:α→Value)(v:Value)(x:outParam α):Prop where h:v=c x
class zaB(l:List Value)(n:Nat)(v:Value)(l':outParam (List Value)):Prop where h:l.set n v=l'∧n<l.length
class zMd(l:List Value)(m n:Nat)(l':outParam (List Value)):Prop where h:(l.drop m).take n=l'∧l'.length=n
class zLH(v:Value):Prop where h:qD v=true
class zUI(l:List Value):Prop where h:l.all qD=true
class zQ9(l:List Value)(n:outParam Nat):Prop where h:l.length=n
class zIv(b:Bool)(v:outParam Bool):Prop where h:b=v
instance zft{v:Value}{l:List Value}:zQ8 (v::l) 0 v:=⟨rfl⟩
instance zfu{v u:Value}{l:List Value}{n:Nat}[h:zQ8 l n v]:zQ8 (u::l) (n+1) v:=⟨h.h⟩
instance zfM{b:Bool}:Cv Value.bool (.bool b) b:=⟨rfl⟩
instance zfv{k:IntKind}{n:Int}:Cv (Value.int k) (.int k n) n:=⟨rfl⟩
instance zfw{b:ByteArray}:Cv Value.string (.string b) b:=⟨rfl⟩
instance zfx{p:Option Addr}:Cv Value.pointer (.pointer p) p:=⟨rfl⟩
instance zfy{p:Option Nat}:Cv Value.map (.map p) p:=⟨rfl⟩
instance(priority:=high) zgB{s:Sl}:Cv Sl.val s.val s:=⟨rfl⟩
instance zfz{a:Option Addr}{n c:Nat}:Cv Sl.val (.slice a n c) ⟨a,n,c⟩:=⟨rfl⟩
instance zgC{v:Value}:Cv id v v:=⟨rfl⟩
instance zf0{v:Array Value}:Cv Value.agg (.agg v) v:=⟨rfl⟩
instance zf1{v u:Value}{l:List Value}:zaB (u::l) 0 v (v::l):=⟨⟨rfl,Nat.zero_lt_succ _⟩⟩
instance zf2{v u:Value}{l l':List Value}{n:Nat}[h:zaB l n v l']:zaB (u::l) (n+1) v (u::l'):=⟨⟨by rw[List.set_cons_succ,h.h.1],Nat.succ_lt_succ h.h.2⟩⟩
instance zfN{l:List Value}:zMd l 0 0 []:=⟨⟨rfl,rfl⟩⟩
instance zfO{u:Value}{l l':List Value}{n:Nat}[h:zMd l 0 n l']:zMd (u::l) 0 (n+1) (u::l'):=⟨⟨by have:=h.h.1;rw[zh2] at this ⊢;rw[zhu,this],by rw[zgO,h.h.2]⟩⟩
instance zfP{u:Value}{l l':List Value}{m n:Nat}[h:zMd l m n l']:zMd (u::l) (m+1) n l':=⟨h.h⟩
instance zfQ{b:Bool}:zLH (.bool b):=⟨rfl⟩
instance zfR{k:IntKind}{n:Int}:zLH (.int k n):=⟨rfl⟩
instance zfS{b:ByteArray}:zLH (.string b):=⟨rfl⟩
instance zfT{p:Option Addr}:zLH (.pointer p):=⟨rfl⟩
instance zfU{p:Option Nat}:zLH (.map p):=⟨rfl⟩
instance zek{a:Option Addr}{n c:Nat}:zLH (.slice a n c):=⟨rfl⟩
instance zfV:zUI []:=⟨rfl⟩
instance zfW{v:Value}{l:List Value}[h:zLH v][g:zUI l]:zUI (v::l):=⟨by rw[List.all_cons,h.h,g.h];rfl⟩
instance zf3:zQ9 [] 0:=⟨rfl⟩
instance zf4{v:Value}{l:List Value}{n:Nat}[h:zQ9 l n]:zQ9 (v::l) (n+1):=⟨by rw[zgO,h.h]⟩
instance zfX:zIv true true:=⟨rfl⟩
instance zfY:zIv false false:=⟨rfl⟩
instance zel{b:Bool}[h:zIv b true]:zIv (!b) false:=⟨by rw[h.h];rfl⟩
instance zem{b:Bool}[h:zIv b false]:zIv (!b) true:=⟨by rw[h.h];rfl⟩
instance zfZ{α:Type}{x:α}:zIv (some x).isNone false:=⟨rfl⟩
instance zfa{α:Type}:zIv (none:Option α).isNone true:=⟨rfl⟩
instance(priority:=high) zeJ{b n:Nat}:zDk ((⟨b,0,none⟩:Addr).add n) b n:=⟨by rw[jD,zg8]⟩
section
variable{B:World}{Γ Δ Γ0:List zB}{k j:K}
theorem zBl{k:(World→Prop)→K}(Γ0:List zB)(h:HG B Γ (k (Holds B Γ0)))[d:Drops Γ Γ0]:HG B Γ (yV k):=fun w hw=>⟨Holds B Γ0,hw.drops,h w hw⟩
theorem zT(h:HG B Δ j)[n:Nx B Γ k Δ j]:HG B Γ k:=n.h h
instance zf5{a:Addr}{k:Addr→K}:Nx B Γ (Nn (some a) k) Γ (k a):=⟨uf⟩
instance zf6:Nx B Γ (Dr k) Γ k:=⟨xg⟩
instance zf7{k:(World→Prop)→K}:Nx B Γ (yV k) Γ (k (Holds B Γ)):=⟨zVU⟩
instance zf8[d:Drops Γ Δ]:Nx B Γ (Sv (Holds B Δ) k) Γ k:=⟨fun h=>vS h⟩
instance zf9{α:Type}{a:Addr}{b off:Nat}{l:List Value}{T:TypeId}{fz:Nat×Nat}{c:α→Value}{v:Value}{x:α}{k:α→K}[ad:zDk a b off][p:Own b Γ (blk b (.cells l.toArray T fz)) Δ][n:zQ8 l off v][e:Cv c v x]:Nx B Γ (Ld a c k) Γ (k x):=⟨fun h=>zh h (by rw[n.h,e.h])⟩
instance zfb{α:Type}{a:Addr}{b off:Nat}{l:List Value}{T:TypeId}{fz:Nat×Nat}{c:α→Value}{v:Value}{x:α}{k:α→K}[ad:zDk a b off][p:Own b Γ0 (blk b (.cells l.toArray T fz)) Δ][n:zQ8 l off v][e:Cv c v x]:Nx B Γ (LdS (Holds B Γ0) a c k) Γ (k x):=⟨fun h=>jK h (by rw[n.h,e.h])⟩
instance zfc{a:Addr}{b off n:Nat}{l l':List Value}{T:TypeId}{fz:Nat×Nat}{k:Array Value→K}[ad:zDk a b off][p:Own b Γ (blk b (.cells l.toArray T fz)) Δ][t:zMd l off n l']:Nx B Γ (LdN a n k) Γ (k l'.toArray):=⟨fun h=>yC h t.h.1 t.h.2⟩
instance zen{a:Addr}{b off n:Nat}{l l':List Value}{T:TypeId}{fz:Nat×Nat}{k:Array Value→K}[ad:zDk a b off][p:Own b Γ0 (blk b (.cells l.toArray T fz)) Δ][t:zMd l off n l']:Nx B Γ (xJ (Holds B Γ0) a n k) Γ (k l'.toArray):=⟨fun h=>jq h t.h.1 t.h.2⟩
instance zgA{a:Addr}{b off:Nat}{l l':List Value}{T:TypeId}{v:Value}[ad:zDk a b off][p:Own b Γ (blk b (.cells l.toArray T (0,0))) Δ][s:zaB l off v l'][f:zLH v]:Nx B Γ (St a v k) (blk b (.cells l'.toArray T (0,0))::Δ) k:=⟨fun h=>zCN h (Nat.ble_eq_true_of_le s.h.2) s.h.1 f.h⟩
instance zfd{a:Addr}{b n:Nat}{l l':List Value}{T:TypeId}[ad:zDk a b 0][p:Own b Γ (blk b (.cells l.toArray T (0,0))) Δ][h1:zQ9 l n][h2:zQ9 l' n][f:zUI l']:Nx B Γ (StN a n l'.toArray k) (blk b (.cells l'.toArray T (0,0))::Δ) k:=⟨fun h=>yX h h1.h h2.h f.h⟩
instance zfe{α:Type}{l:List Value}{off:Nat}{c:α→Value}{v:Value}{x:α}{k:α→K}[n:zQ8 l off v][e:Cv c v x]:Nx B Γ (Fld l.toArray off c k) Γ (k x):=⟨fun h=>zeA h (by rw[n.h,e.h])⟩
instance zeo{zero cs:List Value}{n:Nat}{k:Array Value→K}[h1:zQ9 zero n][h2:zQ9 cs n]:Nx B Γ (Bld zero.toArray (fun i=>some (i*n,n)) [(0,.agg cs.toArray)] k) Γ (k cs.toArray):=⟨fun h=>zBh h h1.h h2.h⟩
instance zgD{b:Bool}{x y:K}[h:zIv b true]:Nx B Γ (Ite b x y) Γ x:=⟨fun g=>s_t g h.h⟩
instance zgE{b:Bool}{x y:K}[h:zIv b false]:Nx B Γ (Ite b x y) Γ y:=⟨fun g=>s_f g h.h⟩
end
class zHP(v:Value)(us:outParam (List Value)):Prop where h:v.cells=us.toArray
class zOU(z:List Value)(off:Nat)(us:List Value)(z':outParam (List Value)):Prop where h:off+us.length≤z.length∧z'=z.take off++us++z.drop (off+us.length)
class zPm(pl:List (Nat×Nat))(i:Nat)(off n:outParam Nat):Prop where h:pl[i]?=some (off,n)
class zUJ(pl:List (Nat×Nat))(z:List Value)(ps:List (Nat×Value))(cs:outParam (List Value)):Prop where h:Instr.fill (pl[·]?) z.toArray ps=some cs.toArray
instance zep{l:List Value}:zHP (.agg l.toArray) l:=⟨rfl⟩
instance zeq{b:Bool}:zHP (.bool b) [.bool b]:=⟨rfl⟩
instance zer{k:IntKind}{n:Int}:zHP (.int k n) [.int k n]:=⟨rfl⟩
instance zes{b:ByteArray}:zHP (.string b) [.string b]:=⟨rfl⟩
instance zet{p:Option Addr}:zHP (.pointer p) [.pointer p]:=⟨rfl⟩
instance zeu{p:Option Nat}:zHP (.map p) [.map p]:=⟨rfl⟩
instance zeK{a:Option Addr}{n c:Nat}:zHP (.slice a n c) [.slice a n c]:=⟨rfl⟩
instance zff{z:List Value}:zOU z 0 [] z:=⟨⟨by simp,by simp⟩⟩
instance zfg{v u:Value}{z us z':List Value}[h:zOU z 0 us z']:zOU (v::z) 0 (u::us) (u::z'):=⟨by
 obtain⟨h1,h2⟩:=h.h;simp only[zg8,List.take_zero,zg6] at h1 h2;refine⟨by simp;omega,?_⟩;simp only[zgO,zg8,List.take_zero,zg6,zh9,zhC];rw[h2]⟩
instance zfh{v:Value}{z us z':List Value}{off:Nat}[h:zOU z off us z']:zOU (v::z) (off+1) us (v::z'):=⟨by
 obtain⟨h1,h2⟩:=h.h;refine⟨by simp;omega,?_⟩;rw[h2,show off+1+us.length=(off+us.length)+1 by omega];simp⟩
instance zev{o n:Nat}{pl:List (Nat×Nat)}:zPm ((o,n)::pl) 0 o n:=⟨rfl⟩
instance zew{x:Nat×Nat}{o n i:Nat}{pl:List (Nat×Nat)}[h:zPm pl i o n]:zPm (x::pl) (i+1) o n:=⟨h.h⟩
instance zfi{pl:List (Nat×Nat)}{z:List Value}:zUJ pl z [] z:=⟨rfl⟩
theorem zVZ{pl:Nat→Option (Nat×Nat)}{z us z':List Value}{i off:Nat}{v:Value}{ps:List (Nat×Value)}(hp:pl i=some (off,us.length))(hc:v.cells=us.toArray)(h:off+us.length≤z.length∧z'=z.take off++us++z.drop (off+us.length)):
  Instr.fill pl z.toArray ((i,v)::ps)=Instr.fill pl z'.toArray ps:=by
 obtain⟨h1,rfl⟩:=h;rw[Instr.fill,hp,hc];simp only[zg7];rw[if_neg (by simp;omega)];congr 1;have hl:(z.take off).length=off:=by rw[zgR];omega
 have key:∀(us m pre C:List Value),pre.length=off→m.length=us.length→∀(o:Nat) (pre2:List Value),pre2.length=off+o→(us.zipIdx o).foldl (fun(cs:Array Value) (p:Value×Nat)=>cs.setIfInBounds (off+p.2) p.1) (pre2++m++C).toArray=(pre2++us++C).toArray:=by
  intro us
  induction us with
  | nil=>intro m pre C _ hm o pre2 _;rw[zgg.1 hm];rfl
  | cons u us ih=>
   intro m pre C hp hm o pre2 hp2;cases m with
   | nil=>simp at hm
   | cons x m=>
    simp only[zhm,zhK];have e:(pre2++x::m++C).toArray.setIfInBounds (off+o) u=((pre2++[u])++m++C).toArray:=by
     apply zhw;rw[←hp2];simp
    rw[e,ih m pre C hp (by simpa using hm) (o+1) (pre2++[u]) (by simp;omega)];simp
 have e:z=z.take off++(z.drop off).take us.length++z.drop (off+us.length):=by
  rw[←zgo,zg9,zgz,zgz]
 have h3:=key us ((z.drop off).take us.length) (z.take off) (z.drop (off+us.length)) hl (by rw[zgR,zhB];omega) 0 (z.take off) (by omega);rw[←e] at h3;rw[←Array.foldl_toList,Array.toList_zipIdx];exact h3
instance zfj{pl:List (Nat×Nat)}{z z' us cs:List Value}{i off n:Nat}{v:Value}{ps:List (Nat×Value)}[p:zPm pl i off n][c:zHP v us][l:zQ9 us n][o:zOU z off us z'][f:zUJ pl z' ps cs]:zUJ pl z ((i,v)::ps) cs :=
 ⟨by rw[zVZ (by rw[l.h];exact p.h) c.h o.h];exact f.h⟩
instance zfk{pl:List (Nat×Nat)}{B:World}{Γ:List zB}{z cs:List Value}{ps:List (Nat×Value)}{k:Array Value→K}[f:zUJ pl z ps cs]:Nx B Γ (Bld z.toArray (pl[·]?) ps k) Γ (k cs.toArray):=⟨fun h w hw=>⟨_,f.h,h w hw⟩⟩
end
section
open Go Go.RowKit Go.MapKept
section
variable{α β:Type}[DecidableEq α]{P:Program}{B w:World}{Γ:List zB}{enc:α→Value}{cV:β→Value}
def zSq(es:Array MapEntry)(seen:Array Nat)(m:List (α×β)):List (α×β):=((es.toList.zip m).filter fun p=>!seen.contains p.1.born).map Prod.snd
structure ItF(enc:α→Value)(cV:β→Value)(es:Array MapEntry)(c:Nat)(seen:Array Nat)(m left:List (α×β))(cur:Option (α×β)):Prop where
 rel:zFF enc cV es m
 st:stamps es c
 lf:left=zSq es seen m
 cnt:seen.size+left.length=m.length
 cur:∀p,cur=some p→∃(seen':Array Nat) (e:MapEntry),seen=seen'.push e.born∧e∈es.toList∧e.key=enc p.1∧e.val=cV p.2
def zA9(enc:α→Value)(cV:β→Value)(b r:Nat)(m left:List (α×β))(cur:Option (α×β)):zB:=ex fun es:Array MapEntry=>ex fun c:Nat=>ex fun seen:Array Nat=>
 stars [pur (ItF enc cV es c seen m left cur),blk b (.map es c),blk r (.mapIter (some b) c seen c)]
theorem zA9.opens{b r:Nat}{m left:List (α×β)}{cur:Option (α×β)}(h:Holds B (zA9 enc cV b r m left cur::Γ) w):∃es c seen,ItF enc cV es c seen m left cur∧Holds B (blk b (.map es c)::blk r (.mapIter (some b) c seen c)::Γ) w:=by
 obtain⟨es,h⟩:=Holds.ex.1 h;obtain⟨c,h⟩:=Holds.ex.1 h;obtain⟨seen,h⟩:=Holds.ex.1 h;obtain⟨hp,h⟩:=Holds.pur.1 (Holds.flat.1 h);exact⟨es,c,seen,hp,h⟩
theorem zA9.shuts{b r:Nat}{m left:List (α×β)}{cur:Option (α×β)}{es:Array MapEntry}{c:Nat}{seen:Array Nat}(hp:ItF enc cV es c seen m left cur)(h:Holds B (blk b (.map es c)::blk r (.mapIter (some b) c seen c)::Γ) w):Holds B (zA9 enc cV b r m left cur::Γ) w :=
 Holds.ex.2 ⟨es,Holds.ex.2 ⟨c,Holds.ex.2 ⟨seen,Holds.flat.2 (Holds.pur.2 ⟨hp,h⟩)⟩⟩⟩
theorem zA9.ends{b r:Nat}{m left:List (α×β)}{cur:Option (α×β)}(h:Holds B (zA9 enc cV b r m left cur::Γ) w):Holds B (vv enc cV b m::Γ) w:=by
 obtain⟨es,c,seen,hp,h⟩:=zA9.opens h;exact vv.shuts ⟨hp.rel,hp.st⟩ (h.del 1 rfl)
theorem zRA{es:Array MapEntry}{m:List (α×β)}(h:zFF enc cV es m):es.toList.length=m.length:=by have:=congrArg List.length h;simpa using this
theorem zXo{es:Array MapEntry}{m:List (α×β)}(h:zFF enc cV es m):∀p∈es.toList.zip m,p.1.key=enc p.2.1∧p.1.val=cV p.2.2:=by
 intro p hp;obtain⟨i,hi⟩:=zh5 hp;rw[List.getElem?_zip_eq_some] at hi;have:=zFW h i;rw[hi.1,hi.2] at this;simp only[zg1,zg4,zhj] at this;exact this
theorem zUK{T E:TypeId}{d:TypeDesc}{b:Nat}{m:List (α×β)}{k:Option Addr→K}(hT:zFw P T d E)(h:Holds B (vv enc cV b m::Γ) w)(hk:∀r w,Holds B (zA9 enc cV b r m m none::Γ) w→k (some ⟨r,0,none⟩) w):
  Do P (Instr.range T (.map (some b))) Value.pointer k w:=by
 obtain⟨kt,hT,hd⟩:=hT;obtain⟨es,c,⟨hr,hst⟩,h⟩:=vv.opens h;have hb:=h.block;refine⟨some ⟨w.heap.size,0,none⟩,{ w with heap:=w.heap.push (.mapIter (some b) c #[] c) },?_,hk _ _ (zA9.shuts (seen:=#[]) ⟨hr,hst,?_,by simp,fun p hp=>by cases hp⟩ (h.alloc _).swap)⟩
 ·unfold Instr.range;simp only[Sem.run_bind,run_underlying hT,Result.andThen,MapKept.run_getObj_map hb,Sem.run_pure];rfl
 ·unfold zSq;have e:(es.toList.zip m).filter (fun p=>!(#[]:Array Nat).contains p.1.born)=es.toList.zip m:=zhv.2 (fun p _=>by simp);rw[e,List.map_snd_zip (by rw[zRA hr];exact zgu _)]
theorem zKd{es:List MapEntry}{m:List (α×β)}(seen:Array Nat)(hn:(es.map (·.born)).Nodup)(hl:es.length=m.length){e:MapEntry}(he:e∈es.filter (fun e=>!seen.contains e.born)):
  ∃l1 p l2,(e,p)∈es.zip m∧((es.zip m).filter fun p=>!seen.contains p.1.born).map Prod.snd=l1++p::l2∧((es.zip m).filter fun p=>!(seen.push e.born).contains p.1.born).map Prod.snd=l1++l2:=by
 induction es generalizing m with
 | nil=>simp at he
 | cons x es ih=>
  cases m with
  | nil=>simp at hl
  | cons q m=>
   simp only[zgd,zh7] at hn;simp only[List.zip_cons_cons];by_cases hx:x=e
   ·subst hx;have hxs:(!seen.contains x.born)=true:=(zha.1 he).2;refine⟨[],q,((es.zip m).filter fun p=>!seen.contains p.1.born).map Prod.snd,zgN,?_,?_⟩
    ·simp only[zhD];rw[if_pos hxs];rfl
    ·simp only[zhD];rw[if_neg (by simp)];simp only[zg6];congr 1;refine List.filter_congr fun p hp=>?_;have hpe:p.1.born≠x.born:=fun heq=>hn.1 (by rw[←heq];exact List.mem_map_of_mem (List.of_mem_zip hp).1);simp[Array.contains_push,hpe]
   ·have he2:e∈es.filter (fun e=>!seen.contains e.born):=by
     have h1:=zha.1 he;rcases zgS.1 h1.1 with h2|h2
     ·exact absurd h2.symm hx
     ·exact zha.2 ⟨h2,h1.2⟩
    obtain⟨l1,p,l2,h1,h2,h3⟩:=ih hn.2 (by simpa using hl) he2;have hxb:x.born≠e.born:=fun heq=>hn.1 (by rw[heq];exact List.mem_map_of_mem (zha.1 he2).1);by_cases hs:(!seen.contains x.born)=true
    ·refine⟨q::l1,p,l2,zgI _ h1,?_,?_⟩
     ·simp only[zhD];rw[if_pos hs,zgd,h2];rfl
     ·simp only[zhD];rw[if_pos (by simp[Array.contains_push,hxb] at hs ⊢;exact hs),zgd,h3];rfl
    ·refine⟨l1,p,l2,zgI _ h1,?_,?_⟩
     ·simp only[zhD];rw[if_neg hs,h2]
     ·simp only[zhD];rw[if_neg (by simp[Array.contains_push,hxb] at hs ⊢;exact hs),h3]
theorem zXp{b r:Nat}{m left:List (α×β)}{cur:Option (α×β)}{k:Value→K}(h:Holds B (zA9 enc cV b r m left cur::Γ) w)
  (h0:left=[]→∀w,Holds B (vv enc cV b m::Γ) w→k (.tuple #[.bool false]) w)
  (h1:∀l1 p l2 w,left=l1++p::l2→p∈m→Holds B (zA9 enc cV b r m (l1++l2) (some p)::Γ) w→k (.tuple #[.bool true,enc p.1,cV p.2]) w) :
  Do P (Instr.next (.pointer (some ⟨r,0,none⟩)) false 0) id k w:=by
 have hend:=zA9.ends h;obtain⟨es,c,seen,hp,h⟩:=zA9.opens h;have hb:=h.block;have hr:=h.tail.block;rcases run_next_at (P:=P) w 0 r b c c seen es c hr hb hp.st.2 (zgu _) with⟨hz,hrun⟩|⟨e,he,w1,hw1,hrun⟩
 ·refine⟨_,w,hrun,h0 ?_ w hend⟩;rw[hp.lf];unfold zSq;have hnone:es.toList.filter (fun e=>!seen.contains e.born)=[]:=by
   have:(leftOf es seen).toList.length=0:=by simpa using hz
   unfold leftOf at this;rw[Array.toList_filter] at this;exact zgg.1 this
  have:(es.toList.zip m).filter (fun p=>!seen.contains p.1.born)=[]:=by
   rw[List.filter_eq_nil_iff] at hnone ⊢;intro p hpz;exact hnone p.1 (List.of_mem_zip hpz).1
  rw[this];rfl
 ·have he2:e∈es.toList.filter (fun e=>!seen.contains e.born):=by
   unfold leftOf at he;rw[Array.toList_filter] at he;exact he
  obtain⟨l1,p,l2,hz,hl,hl2⟩:=zKd seen hp.st.1 (zRA hp.rel) he2;have hkv:=zXo hp.rel _ hz;simp only at hkv;refine⟨_,_,hrun,?_⟩;show k (.tuple #[.bool true,e.key,e.val]) _;rw[hkv.1,hkv.2];have hw:∃w',w1=w'∧Holds B (blk b (.map es c)::blk r (.mapIter (some b) c seen c)::Γ) w':=by
   rcases hw1 with rfl|rfl
   ·exact⟨_,rfl,h⟩
   ·exact⟨_,rfl,h.drew _⟩
  obtain⟨w',rfl,h⟩:=hw;refine h1 l1 p l2 _ (by rw[hp.lf];exact hl) (List.of_mem_zip hz).2 (zA9.shuts (es:=es) (c:=c) (seen:=seen.push e.born) ⟨hp.rel,hp.st,hl2.symm,?_,fun q hq=>?_⟩ ?_)
  ·have h3:=hp.cnt;have h4:left=l1++p::l2:=by rw[hp.lf];exact hl
   rw[h4] at h3;simp only[zgK,zgO,Array.size_push] at h3 ⊢;omega
  ·cases hq
   exact⟨seen,e,rfl,(List.of_mem_zip hz).1,hkv.1,hkv.2⟩
  ·exact(h.swap.setBlock (o':=.mapIter (some b) c (seen.push e.born) c) rfl).swap
def zPn(r n:Nat)(w:World):Nat:=match w.heap[r]? with
 | some (.mapIter _ _ seen _)=>n-seen.size
 | _=>0
theorem zRB{b r:Nat}{m left:List (α×β)}{cur:Option (α×β)}(h:Holds B (zA9 enc cV b r m left cur::Γ) w):zPn r m.length w=left.length:=by
 obtain⟨es,c,seen,hp,h⟩:=zA9.opens h;have:=hp.cnt;unfold zPn;rw[h.tail.block];simp only;omega
theorem zUL{b r:Nat}{m left:List (α×β)}{p:α×β}{k:Value→K}(h:Holds B (zA9 enc cV b r m left (some p)::Γ) w)(hk:k (.tuple #[enc p.1,cV p.2]) w):
  Do P (Instr.entry (.pointer (some ⟨r,0,none⟩))) id k w:=by
 obtain⟨es,c,seen,hp,h⟩:=zA9.opens h;obtain⟨seen',e,hs,he,hk1,hk2⟩:=hp.cur p rfl;subst hs;refine⟨_,w,run_entry_at (P:=P) w r b c seen' es c e h.tail.block h.block he hp.st.1,?_⟩;show k (.tuple #[e.key,e.val]) w;rw[hk1,hk2];exact hk
theorem zVa{zv:Value}{T E:TypeId}{d:TypeDesc}{b:Nat}{m:List (α×β)}{a:α}(hT:zFw P T d E)(hE:zLZ d enc)(hz:zCD P E zv){es:Array MapEntry}{c:Nat}(hb:w.heap[b]?=some (.map es c))(hr:zFF enc cV es m)(ok:Bool):
  (Instr.lookup T (.map (some b)) (enc a) ok).run P w = .ok (if ok then .tuple #[((qj a m).map cV).getD zv,.bool (qj a m).isSome] else((qj a m).map cV).getD zv) w:=by
 obtain⟨kt,hT,hd⟩:=hT;unfold Instr.lookup;simp only[Sem.run_bind,run_underlying hT,Result.andThen,MapKept.run_getObj_map hb,run_checkKey hd (hE.key a),Sem.run_pure];rcases zSp hE hr a with⟨h1,h2,_⟩|⟨j,x,h1,_,_,h2,_⟩
 ·simp only[run_findKey hd h1,Result.andThen,Sem.run_bind,zBH hz,Sem.run_pure,h2];cases ok <;> rfl
 ·simp only[run_findKey hd h1,Result.andThen,Sem.run_bind,Sem.run_pure,h2];cases ok <;> rfl
end
end
section
open Go Go.RowKit
inductive Ck where
 | int (k:IntKind)
 | str
 | bool
def Ck.fit:Ck→Value→Bool
 | .int k,.int k' _=>k'==k
 | .str,.string _=>true
 | .bool,.bool _=>true
 | _,_=>false
def fits:List Ck→List Value→Bool
 | [],[]=>true
 | c::cs,v::vs=>c.fit v&&fits cs vs
 | _,_=>false
def zSr(P:Program)(f:TypeId→Option (List Ck)):List Field→Nat→Option (List Ck)
 | [],_=>some []
 | x::fs,off=>match f x.type with
  | none=>none
  | some ks => if x.name != "_" && Nat.beq x.offset off && sizeT P x.type ks.length then (zSr P f fs (off + ks.length)).map (ks ++ ·) else none
def zGg(P:Program):Nat→TypeId→Option (List Ck)
 | 0,_=>none
 | d+1,t=>match P.underlying t with
  | some (.int k)=>some [.int k]
  | some .string=>some [.str]
  | some .bool=>some [.bool]
  | some (.struct fs)=>if P.stoodInHeld t then none else zSr P (zGg P d) fs.toList 0
  | _=>none
def zBu(P:Program)(t:TypeId):Bool:=match P.underlying t with
 | some (.struct _)=>true
 | _=>false
def zCQ(P:Program)(t:TypeId)(vs:List Value):Value:=if zBu P t then .agg vs.toArray else vs.headD .nilIface
theorem zUM{k:IntKind}{v:Value}(h:(Ck.int k).fit v=true):∃n,v = .int k n:=by
 cases v <;> simp[Ck.fit] at h
 subst h;exact⟨_,rfl⟩
theorem zUN{v:Value}(h:Ck.str.fit v=true):∃n,v = .string n:=by
 cases v <;> simp[Ck.fit] at h
 exact⟨_,rfl⟩
theorem zRC{v:Value}(h:Ck.bool.fit v=true):∃n,v = .bool n:=by
 cases v <;> simp[Ck.fit] at h
 exact⟨_,rfl⟩
theorem zDp:∀{ks:List Ck} {vs:List Value},fits ks vs=true→vs.length=ks.length
 | [],[],_=>rfl
 | c::ks,v::vs,h=>by
  simp only[fits,zgp] at h;simp[zDp h.2]
 | [],_::_,h=>by simp[fits] at h
 | _::_,[],h=>by simp[fits] at h
theorem zJ0:∀{ks ks':List Ck} {vs:List Value},fits (ks++ks') vs=true→fits ks (vs.take ks.length)=true∧fits ks' (vs.drop ks.length)=true
 | [],ks',vs,h=>by simpa[fits] using h
 | c::ks,ks',[],h=>by simp[fits] at h
 | c::ks,ks',v::vs,h=>by
  simp only[zhC,fits,zgp] at h;obtain⟨h1,h2⟩:=zJ0 h.2;simp only[zgO,zhu,zh9,fits,zgp];exact⟨⟨h.1,h1⟩,h2⟩
section
variable{P:Program}
theorem zVb{t:TypeId}{d:Nat}{ks:List Ck}(h:zGg P d t=some ks)(w:World):(isAgg t).run P w = .ok (zBu P t) w:=by
 cases d with
 | zero=>cases h
 | succ d =>
  unfold zGg at h;unfold isAgg zBu;split at h <;> rename_i hu
  ·simp[run_underlying hu,hu]
  ·simp[run_underlying hu,hu]
  ·simp[run_underlying hu,hu]
  ·simp[run_underlying hu,hu]
  ·cases h
theorem zcf{t:TypeId}{d:Nat}{ks:List Ck}(h:zGg P d t=some ks)(hs:zBu P t=false):∃c,ks=[c]:=by
 cases d with
 | zero=>cases h
 | succ d =>
  unfold zGg at h;unfold zBu at hs;split at h <;> rename_i hu
  ·exact⟨_,(zhh h).symm⟩
  ·exact⟨_,(zhh h).symm⟩
  ·exact⟨_,(zhh h).symm⟩
  ·rw[hu] at hs;cases hs
  ·cases h
theorem zFh{t:TypeId}{d:Nat}{ks:List Ck}(h:zGg P d t=some ks)(hz:sizeT P t ks.length=true){cs:List Value}{off:Nat}(hl:off+ks.length≤cs.length)(w:World):
  (part t cs.toArray off).run P w = .ok (zCQ P t ((cs.drop off).take ks.length)) w:=by
 unfold part zCQ;simp only[Sem.run_bind,zVb h,Result.andThen];cases hs:zBu P t with
 | true =>
  simp only[zhX,Sem.run_bind,zAB hz,Result.andThen,Sem.run_pure];congr 2;apply zhw;simp[List.extract]
 | false =>
  obtain⟨c,rfl⟩:=zcf h hs;simp only[zgO,zgl,zg8] at hl ⊢;have hlt:off<cs.length:=by omega
  have e:cs.toArray[off]?=some cs[off]:=by simp[hlt]
  simp only[zgc,zhG,e,Sem.run_pure];rw[zgj hlt];rfl
theorem zUO{D d:Nat}(ih:∀t ks xs ys,zGg P d t=some ks→fits ks xs=true→fits ks ys=true→∀w,∃r:Bool,(Op.equalIn D t (zCQ P t xs) (zCQ P t ys)).run P w = .ok r w∧(r=true↔xs=ys))(xs ys:List Value):
  ∀(fs:List Field) (off:Nat) (ks:List Ck),zSr P (zGg P d) fs off=some ks→off≤xs.length→off≤ys.length→fits ks (xs.drop off)=true→fits ks (ys.drop off)=true→∀w,∃r:Bool,(Op.eqFields D xs.toArray ys.toArray fs).run P w = .ok r w∧(r=true↔xs.drop off=ys.drop off)
 | [],off,ks,h,_,_,hx,hy,w=>by
  simp only[zSr,zg4] at h;subst h;have h1:=zgg.1 (zDp hx);have h2:=zgg.1 (zDp hy);exact⟨true,by simp[Op.eqFields],by simp[h1,h2]⟩
 | f::fs,off,ks,h,lx,ly,hx,hy,w=>by
  unfold zSr at h;split at h
  ·cases h
  rename_i k1 hk1;split at h
  ·rename_i hc;simp only[zgp,bne_iff_ne,ne_eq,Nat.beq_eq] at hc;obtain⟨⟨hn,rfl⟩,hz⟩:=hc;simp only[Option.map_eq_some_iff] at h;obtain⟨k2,hk2,rfl⟩:=h;have ax:=zJ0 hx;have ay:=zJ0 hy;have cx:=zDp hx;have cy:=zDp hy;simp only[zgK,zhB] at cx cy;obtain⟨r,hr,hiff⟩:=ih f.type k1 _ _ hk1 ax.1 ay.1 w;obtain⟨r2,hr2,hiff2⟩:=zUO ih xs ys fs _ k2 hk2 (by omega) (by omega) (by rw[←zgo];exact ax.2) (by rw[←zgo];exact ay.2) w;unfold Op.eqFields;rw[if_pos hn];simp only[Sem.run_bind,zFh hk1 hz (show f.offset+k1.length≤xs.length by omega),zFh hk1 hz (show f.offset+k1.length≤ys.length by omega),Result.andThen,hr];have hsp:xs.drop f.offset=ys.drop f.offset↔((xs.drop f.offset).take k1.length=(ys.drop f.offset).take k1.length∧xs.drop (f.offset+k1.length)=ys.drop (f.offset+k1.length)):=by
    constructor
    ·intro e;rw[e,←zgo,←zgo,e];exact⟨rfl,rfl⟩
    ·rintro⟨e1,e2⟩;rw[←zgz k1.length (xs.drop f.offset),←zgz k1.length (ys.drop f.offset),e1,zgo,zgo,e2]
   cases r with
   | false =>
    refine⟨false,by simp,?_⟩;rw[hsp,←hiff];simp
   | true =>
    refine⟨r2,by simpa using hr2,?_⟩;rw[hsp,←hiff,hiff2];simp
  ·cases h
theorem str_inj{a b:ByteArray}:(a.toList==b.toList)=true↔a=b:=by
 obtain⟨x,rfl⟩:=zJt a;obtain⟨y,rfl⟩:=zJt b;rw[qZ,qZ,beq_iff_eq];exact⟨fun h=>by rw[h],fun h=>by have:=congrArg ByteArray.toList h;rwa[qZ,qZ] at this⟩
theorem zLI(D:Nat):∀(d:Nat) (t:TypeId) (ks:List Ck) (xs ys:List Value),zGg P d t=some ks→fits ks xs=true→fits ks ys=true→∀w,∃r:Bool,(Op.equalIn (D+d) t (zCQ P t xs) (zCQ P t ys)).run P w = .ok r w∧(r=true↔xs=ys)
 | 0,t,ks,xs,ys,h,_,_,w=>by cases h
 | d+1,t,ks,xs,ys,h,hx,hy,w=>by
  unfold zGg at h;have lx:=zDp hx;have ly:=zDp hy;split at h <;> rename_i hu
  ·injection h with h;subst h
   obtain⟨x,rfl⟩:=zhJ.1 lx;obtain⟨y,rfl⟩:=zhJ.1 ly;simp only[fits,Bool.and_true] at hx hy;have hs:zBu P t=false:=by unfold zBu;rw[hu]
   obtain⟨a,rfl⟩:=zUM hx;obtain⟨b,rfl⟩:=zUM hy;refine⟨a==b,?_,by simp⟩;simp only[zCQ,hs,zgc,zhG,ziG];exact run_equalIn_int w (D+d) t _ _ _ _ hu
  ·injection h with h;subst h
   obtain⟨x,rfl⟩:=zhJ.1 lx;obtain⟨y,rfl⟩:=zhJ.1 ly;simp only[fits,Bool.and_true] at hx hy;have hs:zBu P t=false:=by unfold zBu;rw[hu]
   obtain⟨a,rfl⟩:=zUN hx;obtain⟨b,rfl⟩:=zUN hy;refine⟨a.toList==b.toList,?_,by rw[str_inj];simp⟩;simp only[zCQ,hs,zgc,zhG,ziG];exact run_equalIn_string w (D+d) t _ _ hu
  ·injection h with h;subst h
   obtain⟨x,rfl⟩:=zhJ.1 lx;obtain⟨y,rfl⟩:=zhJ.1 ly;simp only[fits,Bool.and_true] at hx hy;have hs:zBu P t=false:=by unfold zBu;rw[hu]
   obtain⟨a,rfl⟩:=zRC hx;obtain⟨b,rfl⟩:=zRC hy;refine⟨a==b,?_,by simp⟩;simp only[zCQ,hs,zgc,zhG,ziG];exact run_equalIn_bool' w (D+d) t _ _ hu
  ·rename_i fs;split at h
   ·cases h
   rename_i hst;have hs:zBu P t=true:=by unfold zBu;rw[hu]
   have hf:P.fieldsOf t=fs:=by unfold Program.fieldsOf;rw[hu]
   simp only[zCQ,hs,zhX];rw[show D+(d+1)=(D+d)+1 by omega,run_equalIn_agg w (D+d) t _ _ (by rw[hf,hu]) (by simpa using hst),hf];have:=zUO (D:=D+d) (fun t ks xs ys h1 h2 h3 w=>zLI D d t ks xs ys h1 h2 h3 w) xs ys fs.toList 0 ks h (zgW _) (zgW _) (by simpa using hx) (by simpa using hy) w;simpa using this
  ·cases h
theorem zFG{d:Nat}(hd:d≤10000){t:TypeId}{ks:List Ck}{xs ys:List Value}(h:zGg P d t=some ks)(hs:zBu P t=true)(hx:fits ks xs=true)(hy:fits ks ys=true)(w:World):∃r:Bool,(Op.equal t (.agg xs.toArray) (.agg ys.toArray)).run P w = .ok r w∧(r=true↔xs=ys):=by
 have:=zLI (10000-d) d t ks xs ys h hx hy w;rw[show 10000-d+d=10000 by omega] at this;unfold Op.equal Op.maxDepth;simpa only[zCQ,hs,zhX] using this
theorem zHQ{B:World}{Γ:List zB}{T:TypeId}{ks:List Ck}{xs ys:List Value}{p:Prop}[Decidable p]{x y:Operand}{k:Bool→K}(hp:xs=ys↔p)(h:HG B Γ (k (decide p)))(hc:zGg P 9 T=some ks:=by kernel_rfl)(hs:zBu P T=true:=by kernel_rfl)(hg:P.eqGuardType P.depth T=false:=by kernel_rfl)(hx:fits ks xs=true:=by rfl)(hy:fits ks ys=true:=by rfl):
  HG B Γ (Pu P (do eqGuard .eql T x y (.agg xs.toArray) (.agg ys.toArray);binOp .eql T (.agg xs.toArray) (.agg ys.toArray):Sem Value) Value.bool k):=fun w hw=>by
 refine⟨decide p,fun w=>?_,h w hw⟩;obtain⟨r,hr,hiff⟩:=zFG (by omega) hc hs hx hy w;have e:r=decide p:=by rw[ziH,hiff,hp];simp
 subst e;simp only[Op.equal,Op.maxDepth] at hr;simp only[Sem.run_bind,run_eqGuard_agg w _ _ _ _ _ _ hg,Result.andThen,run_eql_struct,hr]
theorem zMe{B:World}{Γ:List zB}{T:TypeId}{ks:List Ck}{xs ys:List Value}{p:Prop}[Decidable p]{x y:Operand}{k:Bool→K}(hp:xs=ys↔p)(h:HG B Γ (k (!decide p)))(hc:zGg P 9 T=some ks:=by kernel_rfl)(hs:zBu P T=true:=by kernel_rfl)(hg:P.eqGuardType P.depth T=false:=by kernel_rfl)(hx:fits ks xs=true:=by rfl)(hy:fits ks ys=true:=by rfl):
  HG B Γ (Pu P (do eqGuard .neq T x y (.agg xs.toArray) (.agg ys.toArray);binOp .neq T (.agg xs.toArray) (.agg ys.toArray):Sem Value) Value.bool k):=fun w hw=>by
 refine⟨!decide p,fun w=>?_,h w hw⟩;obtain⟨r,hr,hiff⟩:=zFG (by omega) hc hs hx hy w;have e:r=decide p:=by rw[ziH,hiff,hp];simp
 subst e;simp only[Op.equal,Op.maxDepth] at hr;simp only[Sem.run_bind,run_eqGuard_agg w _ _ _ _ _ _ hg,Result.andThen,run_neq_struct,hr]
theorem zRD{D d:Nat}{e:Bool}(ih:∀t ks xs,zGg P d t=some ks→fits ks xs=true→∀w,(Instr.checkKey e D t (zCQ P t xs)).run P w = .ok () w)(xs:List Value){body:Field→PUnit→Sem (ForInStep PUnit)}
  (hb : ∀ f v w, f.name ≠ "_" → (part f.type xs.toArray f.offset).run P w = .ok v w → (Instr.checkKey e D f.type v).run P w = .ok () w → (body f PUnit.unit).run P w = .ok (.yield PUnit.unit) w) :
  ∀(fs:List Field) (off:Nat) (ks:List Ck),zSr P (zGg P d) fs off=some ks→off≤xs.length→fits ks (xs.drop off)=true→∀w,(forIn fs PUnit.unit body).run P w = .ok PUnit.unit w
 | [],off,ks,h,_,hx,w=>by simp
 | f::fs,off,ks,h,lx,hx,w=>by
  unfold zSr at h;split at h
  ·cases h
  rename_i k1 hk1;split at h
  ·rename_i hc;simp only[zgp,bne_iff_ne,ne_eq,Nat.beq_eq] at hc;obtain⟨⟨hn,rfl⟩,hz⟩:=hc;simp only[Option.map_eq_some_iff] at h;obtain⟨k2,hk2,rfl⟩:=h;have ax:=zJ0 hx;have cx:=zDp hx;simp only[zgK,zhB] at cx;have h2:=zRD ih xs hb fs _ k2 hk2 (by omega) (by rw[←zgo];exact ax.2) w;have h3:=hb f _ w hn (zFh hk1 hz (show f.offset+k1.length≤xs.length by omega) w) (ih f.type k1 _ hk1 ax.1 w);simp only[List.forIn_cons,Sem.run_bind,h3,Result.andThen];exact h2
  ·cases h
theorem zJ1(D:Nat){e:Bool}:∀(d:Nat) (t:TypeId) (ks:List Ck) (xs:List Value),zGg P d t=some ks→fits ks xs=true→∀w,(Instr.checkKey e (D+d) t (zCQ P t xs)).run P w = .ok () w
 | 0,t,ks,xs,h,_,w=>by cases h
 | d+1,t,ks,xs,h,hx,w=>by
  unfold zGg at h;have lx:=zDp hx;rw[show D+(d+1)=(D+d)+1 by omega];split at h <;> rename_i hu
  ·injection h with h;subst h
   obtain⟨x,rfl⟩:=zhJ.1 lx;have hs:zBu P t=false:=by unfold zBu;rw[hu]
   simp only[zCQ,hs,zgc,zhG,ziG];unfold Instr.checkKey;simp[run_underlying hu,Result.andThen]
  ·injection h with h;subst h
   obtain⟨x,rfl⟩:=zhJ.1 lx;have hs:zBu P t=false:=by unfold zBu;rw[hu]
   simp only[zCQ,hs,zgc,zhG,ziG];unfold Instr.checkKey;simp[run_underlying hu,Result.andThen]
  ·injection h with h;subst h
   obtain⟨x,rfl⟩:=zhJ.1 lx;have hs:zBu P t=false:=by unfold zBu;rw[hu]
   simp only[zCQ,hs,zgc,zhG,ziG];unfold Instr.checkKey;simp[run_underlying hu,Result.andThen]
  ·rename_i fs;split at h
   ·cases h
   have hs:zBu P t=true:=by unfold zBu;rw[hu]
   simp only[zCQ,hs,zhX];unfold Instr.checkKey;simp only[Sem.run_bind,run_underlying hu,Result.andThen];rw[←Array.forIn_toList];rw[zRD (D:=D+d) (e:=e) (fun t ks xs h1 h2 w=>zJ1 D d t ks xs h1 h2 w) xs (fun f v w h1 h2 h3=>by rw[if_pos h1];simp only[Sem.run_bind,h2,h3,Result.andThen,Sem.run_pure]) fs.toList 0 ks h (zgW _) (by simpa using hx) w];simp
  ·cases h
structure zLa{α:Type}(P:Program)(kt:TypeId)(cel:α→List Value):Prop where
 st:zBu P kt=true
 ks:∃ks,zGg P 9 kt=some ks∧∀a,fits ks (cel a)=true
 inj:∀a b,cel a=cel b→a=b
 bits:∀a,Instr.sameBits 10000 (.agg (cel a).toArray) (.agg (cel a).toArray)=true
abbrev kyS{α:Type}(cel:α→List Value)(a:α):Value:=.agg (cel a).toArray
section
variable{α β:Type}[DecidableEq α]{B w:World}{Γ Δ:List zB}{kt:TypeId}{cel:α→List Value}{cV:β→Value}{k:K}
theorem zLa.chk(hE:zLa P kt cel)(a:α)(e:Bool)(w:World):(Instr.checkKey e 10000 kt (kyS cel a)).run P w = .ok () w:=by
 obtain⟨ks,h1,h2⟩:=hE.ks;have:=zJ1 9991 (e:=e) 9 kt ks (cel a) h1 (h2 a) w;simpa only[zCQ,hE.st,zhX] using this
theorem zLa.eq(hE:zLa P kt cel)(a b:α)(w:World):(Op.equal kt (kyS cel a) (kyS cel b)).run P w = .ok (decide (a=b)) w:=by
 obtain⟨ks,h1,h2⟩:=hE.ks;obtain⟨r,hr,hiff⟩:=zFG (d:=9) (by omega) h1 hE.st (h2 a) (h2 b) w;have e:r=decide (a=b):=by rw[ziH,hiff];simp;exact⟨hE.inj a b,fun h=>by rw[h]⟩
 rw[←e];exact hr
theorem zPo(hE:zLa P kt cel)(a:α)(w:World):∀(l:List MapEntry) (m:List (α×β)) (i:Nat),l.map (fun e=>(e.key,e.val))=m.map (fun p=>(kyS cel p.1,cV p.2)) →
  (qj a m=none∧(Instr.findAsking kt (kyS cel a) l i).run P w = .ok none w)∨∃j x,m[j]?=some (a,x)∧(∀i,i<j→∀p,m[i]?=some p→p.1≠a)∧(Instr.findAsking kt (kyS cel a) l i).run P w = .ok (some (i+j,cV x)) w
 | [],[],i,_=>.inl ⟨rfl,by simp[Instr.findAsking]⟩
 | [],_::_,i,h=>by simp at h
 | _::_,[],i,h=>by simp at h
 | e::l,p::m,i,h=>by
  simp only[zgd,zhZ,zhj] at h;obtain⟨⟨e1,e2⟩,h⟩:=h;unfold Instr.findAsking;simp only[Sem.run_bind,e1,hE.eq,Result.andThen];by_cases hp:a=p.1
  ·right;refine⟨0,p.2,by rw[hp];rfl,fun i hi=>absurd hi (by omega),?_⟩;simp[hp,e2]
  ·rcases zPo hE a w l m (i+1) h with⟨h1,h2⟩|⟨j,x,h1,h2,h3⟩
   ·left;refine⟨?_,?_⟩
    ·unfold qj;rw[if_neg hp];exact h1
    ·simpa[hp] using h2
   ·right;refine⟨j+1,x,by simpa using h1,fun i' hi q hq=>?_,?_⟩
    ·cases i' with
     | zero=>simp at hq;subst hq;exact fun e=>hp e.symm
     | succ i'=>exact h2 i' (by omega) q (by simpa using hq)
    ·simp only[hp,decide_false,zgc,zhG,h3];congr 3;omega
theorem zH9(hE:zLa P kt cel){es:Array MapEntry}{m:List (α×β)}(hr:zFF (kyS cel) cV es m)(a:α)(w:World):
  ((Instr.findKey kt (kyS cel a) es.toList).run P w = .ok none w∧qj a m=none∧(∀v,uH a v m=m++[(a,v)])∧zJE a m=m) ∨
  ∃j x,(Instr.findKey kt (kyS cel a) es.toList).run P w = .ok (some (j,cV x)) w∧j<m.length∧m[j]?=some (a,x)∧qj a m=some x∧(∀v,uH a v m=m.set j (a,v))∧zJE a m=m.eraseIdx j:=by
 obtain⟨fs,hu⟩:∃fs,P.underlying kt=some (.struct fs):=by
  have h1:=hE.st;unfold zBu at h1;split at h1
  ·rename_i fs hu;exact⟨fs,hu⟩
  ·cases h1
 have hfk:(Instr.findKey kt (kyS cel a) es.toList).run P w=(Instr.findAsking kt (kyS cel a) es.toList 0).run P w:=by
  unfold Instr.findKey;simp only[Sem.run_bind,run_underlying hu,Result.andThen];cases es.toList with
  | nil=>simp[Instr.findNow,Instr.findAsking]
  | cons e l=>simp[Instr.findNow,Instr.sameNow]
 rw[hfk];rcases zFE a m with⟨h1,h2,h3,h4⟩|⟨j,x,hj,h0,hb,h1,h2,h3⟩
 ·rcases zPo hE a w es.toList m 0 hr with⟨_,g2⟩|⟨j,x,g1,_,_⟩
  ·exact .inl ⟨g2,h1,h2,h3⟩
  ·exact absurd rfl (h4 _ (zgx g1))
 ·rcases zPo hE a w es.toList m 0 hr with⟨g1,_⟩|⟨j',x',g1,g2,g3⟩
  ·rw[g1] at h1;cases h1
  ·have hjj:j=j':=by
    rcases Nat.lt_trichotomy j j' with h|h|h
    ·exact absurd rfl (g2 j h _ h0)
    ·exact h
    ·exact absurd rfl (hb j' h _ g1)
   subst hjj;rw[h0] at g1;simp only[zg4,zhj,true_and] at g1;subst g1;exact .inr ⟨j,x,by simpa using g3,hj,h0,h1,h2,h3⟩
theorem zMf{T E:TypeId}{b:Nat}{m:List (α×β)}{z:β}{a:α}{k:β→K}(hE:zLa P kt cel)(hz:zCD P E (cV z))(h:HG B Γ (k ((qj a m).getD z)))(hT:P.underlying T=some (.map kt E):=by kernel_rfl)[p:Own b Γ (vv (kyS cel) cV b m) Δ]:
  HG B Γ (Rd P (Instr.lookup T (.map (some b)) (kyS cel a) false) cV k):=fun w hw=>by
 obtain⟨es,c,⟨hr,hst⟩,h1⟩:=vv.opens (hw.perm p.perm);have hb:=h1.block;refine⟨_,?_,h w hw⟩;unfold Instr.lookup;simp only[Sem.run_bind,run_underlying hT,Result.andThen,MapKept.run_getObj_map hb,hE.chk,Sem.run_pure];rcases zH9 hE hr a w with⟨g1,g2,_⟩|⟨j,x,g1,_,_,g2,_⟩
 ·simp only[g1,Result.andThen,Sem.run_bind,zBH hz,Sem.run_pure,g2];rfl
 ·simp only[g1,Result.andThen,Sem.run_bind,Sem.run_pure,g2];rfl
theorem zSs{T E:TypeId}{b:Nat}{m:List (α×β)}{a:α}{v:β}{x:Value}(hE:zLa P kt cel)(hx:x=cV v)(h:HG B (vv (kyS cel) cV b (uH a v m)::Δ) k)(hT:P.underlying T=some (.map kt E):=by kernel_rfl)[p:Own b Γ (vv (kyS cel) cV b m) Δ]:
  HG B Γ (DoU P (Instr.mapUpdate T (.map (some b)) (kyS cel a) x) k):=fun w hw=>by
 subst hx;obtain⟨es,c,⟨hr,hst⟩,h1⟩:=vv.opens (hw.perm p.perm);have hb:=h1.block;have hlen:es.size=m.length:=by have:=congrArg List.length hr;simpa using this
 unfold Instr.mapUpdate DoU;simp only[Sem.run_bind,run_underlying hT,Result.andThen,MapKept.run_getObj_map hb,hE.chk];rcases zH9 hE hr a w with⟨g1,_,h2,_⟩|⟨j,x,g1,hj,h0,_,h2,_⟩
 ·simp only[g1,Result.andThen];obtain⟨e1,h3⟩:=h1.zGK (P:=P) (es':=es.push { key:=kyS cel a,val:=cV v,born:=c }) (c':=c+1);refine⟨_,_,e1,h _ (vv.shuts ⟨?_,zHO hst _ _⟩ h3)⟩;rw[h2];simp only[zFF,zht,zgT,zgd,zhp];rw[show es.toList.map (fun e=>(e.key,e.val))=_ from hr]
 ·have hes:∃e,es.toList[j]?=some e∧e.key=kyS cel a:=by
   have:=zFW hr j;rw[h0] at this;cases he:es.toList[j]? with
   | none=>rw[he] at this;simp at this
   | some e =>
    rw[he] at this;simp only[zg1,zg4,zhj] at this;exact⟨e,rfl,this.1⟩
  obtain⟨e,he,hek⟩:=hes;have he2:es[j]?=some e:=by rw[←he,zhR]
  simp only[g1,Result.andThen,Sem.run_bind,he2,zg1,zhP,hek,Instr.keyThatStays,kyS,hE.bits,zhX,Sem.run_pure];obtain⟨e1,h3⟩:=h1.zGK (P:=P) (es':=es.modify j fun e=>{ e with key:=kyS cel a,val:=cV v }) (c':=c);refine⟨_,_,e1,h _ (vv.shuts ⟨?_,zFg hst _ _ _⟩ h3)⟩;rw[h2];simp only[zFF];apply zhV;intro i;have hi:=zFW hr i;simp only[zgk,zhR,zhI] at hi ⊢;by_cases hij:j=i
  ·subst hij;rw[zhO hj,he2];simp
  ·rw[zhl hij,if_neg hij];exact hi
theorem zSt{T E t:TypeId}{b:Nat}{m:List (α×β)}{a:α}{k:Value→K}(hE:zLa P kt cel)(h:HG B (vv (kyS cel) cV b (zJE a m)::Δ) (k (.tuple #[])))(hT:P.underlying T=some (.map kt E):=by kernel_rfl)[p:Own b Γ (vv (kyS cel) cV b m) Δ]:
  HG B Γ (Do P (Builtin.delete_ #[T,kt] t #[.map (some b),kyS cel a]) id k):=fun w hw=>by
 obtain⟨es,c,⟨hr,hst⟩,h1⟩:=vv.opens (hw.perm p.perm);have hb:=h1.block;have hlen:es.size=m.length:=by have:=congrArg List.length hr;simpa using this
 have e0:#[T,kt][0]?=some T:=rfl;have e1:#[Value.map (some b),kyS cel a][0]?=some (.map (some b)):=rfl;have e2:#[Value.map (some b),kyS cel a][1]?=some (kyS cel a):=rfl;unfold Builtin.delete_ Do;simp only[e0,e1,e2,Sem.run_bind,run_underlying hT,Result.andThen,MapKept.run_getObj_map hb,hE.chk];rcases zH9 hE hr a w with⟨g1,_,_,h2⟩|⟨j,x,g1,hj,h0,_,_,h2⟩
 ·simp only[g1,Result.andThen,Sem.run_bind];obtain⟨e3,h3⟩:=h1.zGK (P:=P) (es':=es) (c':=c);refine⟨.tuple #[],_,?_,h _ (vv.shuts ⟨?_,hst⟩ h3)⟩
  ·simp only[Sem.run_bind,e3,Result.andThen,Sem.run_pure];rfl
  rw[h2];exact hr
 ·simp only[g1,Result.andThen,Sem.run_bind];obtain⟨e3,h3⟩:=h1.zGK (P:=P) (es':=es.eraseIdxIfInBounds j) (c':=c);refine⟨.tuple #[],_,?_,h _ (vv.shuts ⟨?_,zPl hst _⟩ h3)⟩
  ·simp only[Sem.run_bind,e3,Result.andThen,Sem.run_pure];rfl
  rw[h2];have hjs:j<es.size:=by omega
  simp only[zFF,Array.eraseIdxIfInBounds,dif_pos hjs,Array.toList_eraseIdx];have mape:∀{α β:Type} (f:α→β) (l:List α) (i:Nat),(l.eraseIdx i).map f=(l.map f).eraseIdx i:=by
   intro α β f l
   induction l with
   | nil=>intro i;simp
   | cons x l ih=>intro i;cases i <;> simp[ih]
  rw[mape,mape,show es.toList.map (fun e=>(e.key,e.val))=_ from hr]
theorem zUP{enc:α→Value}{T E:TypeId}{d:TypeDesc}{b:Nat}{m:List (α×β)}{k:Option Addr→K}(hT:zFw P T d E)(h:∀r,HG B (zA9 enc cV b r m m none::Δ) (k (some ⟨r,0,none⟩)))[p:Own b Γ (vv enc cV b m) Δ]:
  HG B Γ (Do P (Instr.range T (.map (some b))) Value.pointer k):=fun w hw=>zUK hT (hw.perm p.perm) fun r w hw=>h r w hw
class zVc(r:Nat)(Γ:List zB)(A:outParam zB)(Δ:outParam (List zB)):Prop where perm:Γ.Perm (A::Δ)
instance(priority:=low) zdF{r:Nat}{X A:zB}{Γ Δ:List zB}[h:zVc r Γ A Δ]:zVc r (X::Γ) A (X::Δ):=⟨zFt h.perm⟩
instance(priority:=high) zex{α β:Type}[DecidableEq α]{enc:α→Value}{cV:β→Value}{b r:Nat}{m left:List (α×β)}{cur:Option (α×β)}{Γ:List zB}:zVc r (zA9 enc cV b r m left cur::Γ) (zA9 enc cV b r m left cur) Γ:=⟨.refl _⟩
theorem zcg{α:Type}{vs:List Value}{i:Nat}{c:α→Value}{v:Value}{x:α}{k:α→K}(h:HG B Γ (k x))[n:zQ8 vs i v][e:Cv c v x]:HG B Γ (Ext (.tuple vs.toArray) i c k):=fun w hw=>⟨_,x,rfl,by have:=n.h;rw[zI2] at this;rw[e.h] at this;simpa using this,h w hw⟩
instance zfl{α:Type}{vs:List Value}{i:Nat}{c:α→Value}{v:Value}{x:α}{k:α→K}[n:zQ8 vs i v][e:Cv c v x]:Nx B Γ (Ext (.tuple vs.toArray) i c k) Γ (k x):=⟨fun h=>zcg h⟩
theorem zXq{enc:α→Value}{b r:Nat}{m left:List (α×β)}{cur:Option (α×β)}{k:Value→K}(h0:left=[]→HG B (vv enc cV b m::Δ) (k (.tuple #[.bool false])))
  (h1:∀l1 p l2,left=l1++p::l2→p∈m→HG B (zA9 enc cV b r m (l1++l2) (some p)::Δ) (k (.tuple #[.bool true,enc p.1,cV p.2]))) [p:zVc r Γ (zA9 enc cV b r m left cur) Δ] :
  HG B Γ (Do P (Instr.next (.pointer (some ⟨r,0,none⟩)) false 0) id k):=fun w hw=>zXp (hw.perm p.perm) (fun h w hw=>h0 h w hw) fun l1 q l2 w e hq hw=>h1 l1 q l2 e hq w hw
theorem zUQ{enc:α→Value}{b r:Nat}{m left:List (α×β)}{q:α×β}{k:Value→K}(h:HG B Γ (k (.tuple #[enc q.1,cV q.2])))[p:zVc r Γ (zA9 enc cV b r m left (some q)) Δ]:
  HG B Γ (Do P (Instr.entry (.pointer (some ⟨r,0,none⟩))) id k):=fun w hw=>zUL (hw.perm p.perm) (h w hw)
theorem zaC{enc:α→Value}{b r:Nat}{m left:List (α×β)}{cur:Option (α×β)}(h:HG B (vv enc cV b m::Δ) k)[p:zVc r Γ (zA9 enc cV b r m left cur) Δ]:HG B Γ k:=fun w hw=>h w (zA9.ends (hw.perm p.perm))
end
end
end
end Go.Sep
namespace Go.Proofs.YtlelhlcjaapkoaaGreat
section
open Go Go.Sep
structure zx where
 node:Int
 epoch:Int
 seq:Int
 tr:Int
deriving DecidableEq
abbrev zQ(t:zx):List Value:=[.int .i64 t.node,.int .u64 t.epoch,.int .u64 t.seq,.int .i64 t.tr]
theorem zBv(c:zx):(zQ c).length=4:=rfl
theorem zBw{a b:zx}:zQ a=zQ b↔a=b:=by
 cases a;cases b;simp[zQ]
abbrev zJ2:List Ck:=[.int .i64,.int .u64,.int .u64,.int .i64]
end
end Go.Proofs.YtlelhlcjaapkoaaGreat
namespace Go.Sep
section
open Go Go.RowKit
abbrev zaD(esz:Nat)(s:Sl)(i:Int)(k:Value→K):K:=Idx s i esz fun t=>LdN t esz fun a=>k (.agg a)
abbrev zVd{α:Type}(c:α→Value)(s:Sl)(i:Int)(k:Value→K):K:=Idx s i 1 fun t=>Ld t c fun a=>k (c a)
def zIw(P:Program)(acc:Sl→Int→(Value→K)→K)(s:Sl)(fv:Value)(Q:Int→K):K :=
 zq (α:=Int) (fun X x=>
  Ite (decide (x<(s.n:Int)))
   (acc s x fun v=>
   vZ P fv [v]<|yH (fun(t:Bool)=>Value.bool t) fun b=>
   Ite b
    (Q x)
    (Ar (IntKind.wrap .i64 (x+1)) fun t=>
    X t))
   (Q (-1))) 0
def zDT{γ α:Type}(p:γ→α→Bool)(st:γ→α→γ):γ→List α→γ×Option Nat
 | g,[]=>(g,none)
 | g,x::L=>if p g x then(st g x,some 0) else((zDT p st (st g x) L).1,(zDT p st (st g x) L).2.map (·+1))
def zFH:Option Nat→Int
 | none=>-1
 | some i=>i
def zB2{γ α:Type}(p:γ→α→Bool)(st:γ→α→γ):γ→List α→γ×List α
 | g,[]=>(g,[])
 | g,x::L=>((zB2 p st (st g x) L).1,if p g x then(zB2 p st (st g x) L).2 else x::(zB2 p st (st g x) L).2)
section
variable{P:Program}{B:World}{Γ Δ:List zB}{α γ:Type}
theorem zEL{p:γ→α→Bool}{st:γ→α→γ}{g:γ}{x:α}{L:List α}:zB2 p st g (x::L)=((zB2 p st (st g x) L).1,if p g x then(zB2 p st (st g x) L).2 else x::(zB2 p st (st g x) L).2):=rfl
theorem zJF{p:γ→α→Bool}{st:γ→α→γ}{g:γ}{x:α}{L:List α}:zDT p st g (x::L)=if p g x then(st g x,some 0) else((zDT p st (st g x) L).1,(zDT p st (st g x) L).2.map (·+1)):=rfl
theorem zbW{b n:Nat}{l:List Value}{T:TypeId}{fz:Nat×Nat}{k:Array Value→K}(h:HG B Γ (k l.toArray))(hl:l.length=n)[p:Own b Γ (blk b (.cells l.toArray T fz)) Δ]:HG B Γ (LdN ⟨b,0,none⟩ n k) :=
 yC (b:=b) (off:=0) (l':=l) h (by rw[zh2,zgh (ziF hl)]) hl
theorem zSu{R:γ→List zB}{acc:Sl→Int→(Value→K)→K}{s:Sl}{fv:Value}{vV:α→Value}{Q:Int→K}{L:List α}(p:γ→α→Bool)(st:γ→α→γ)(g0:γ)(I:γ→List α→Prop)(hI:I g0 L)(hIs:∀g x C,I g (x::C)→I (st g x) C)(hn:s.n=L.length)(hL:L.length<1000000000)
  (hacc:∀g (i:Nat) x k,L[i]?=some x→HG B (R g) (k (vV x))→HG B (R g) (acc s (i:Int) k))
  (hf:∀g x C (q:Bool→K),x∈L→I g (x::C)→HG B (R (st g x)) (q (p g x))→HG B (R g) (vZ P fv [vV x] (yH (fun(t:Bool)=>Value.bool t) q)))
  (h:HG B (R (zDT p st g0 L).1) (Q (zFH (zDT p st g0 L).2))):HG B (R g0) (zIw P acc s fv Q):=by
 unfold zIw;refine qH (α:=Int) (ι:=Nat×γ) (fun x i=>x=(i.1:Int)∧i.1≤L.length∧I i.2 (L.drop i.1)∧zDT p st g0 L=((zDT p st i.2 (L.drop i.1)).1,(zDT p st i.2 (L.drop i.1)).2.map (·+i.1)))
  (fun x i=>R i.2) (fun x i=>L.length-i.1) (0,g0) ⟨rfl,zgW _,hI,by simp⟩ ?_
 rintro k' _ ⟨i,g⟩ ⟨rfl,hi,hIg,he⟩ hk';simp only at hi hIg he hk' ⊢;refine zF (fun hb=>?_) fun hb=>?_
 ·have hil:i<L.length:=by simp only[zgH] at hb;omega
  have hge:L[i]?=some L[i]:=zgG hil;rw[zgj hil] at he hIg;have hm:L[i]∈L:=zgX hil;generalize L[i]=x at hge he hm hIg;refine hacc g i x _ hge ?_;refine hf g x _ _ hm hIg ?_;rw[zJF] at he;refine zF (fun hp=>?_) fun hp=>?_
  ·rw[if_pos hp] at he;rw[he] at h;simpa[zFH] using h
  ·rw[if_neg (by simp[hp])] at he;refine qJ ?_;refine hk' _ (i+1,st g x) ⟨by simp,hil,hIs _ _ _ hIg,?_⟩ (by simp only;omega);simp only;rw[he,Option.map_map];congr 2;funext y
   simp only[Function.comp];omega
 ·have hil:i=L.length:=by simp only[zgF] at hb;omega
  rw[hil,zhx] at he;rw[he] at h;simpa[zDT,zFH] using h
theorem zMg(p:α→Bool):∀L:List α,(zDT (fun(_:Unit) x=>p x) (fun _ _=>()) () L).2=L.findIdx? p
 | []=>rfl
 | x::L=>by
  rw[zJF,ziE];split
  ·rfl
  ·rw[zMg p L]
theorem zKe(p:α→Bool):∀L:List α,(zB2 (fun(_:Unit) x=>p x) (fun _ _=>()) () L).2=L.filter fun x=>!p x
 | []=>rfl
 | x::L=>by
  rw[zEL,zKe p L,zhD];cases p x <;> simp
theorem zIA{acc:Sl→Int→(Value→K)→K}{s:Sl}{fv:Value}{vV:α→Value}{Q:Int→K}{L:List α}(p:α→Bool)(hn:s.n=L.length)(hL:L.length<1000000000)
  (hacc:∀(i:Nat) x k,L[i]?=some x→HG B Γ (k (vV x))→HG B Γ (acc s (i:Int) k))
  (hf:∀x (q:Bool→K),x∈L→HG B Γ (q (p x))→HG B Γ (vZ P fv [vV x] (yH (fun(t:Bool)=>Value.bool t) q)))
  (h:HG B Γ (Q (zFH (L.findIdx? p)))):HG B Γ (zIw P acc s fv Q) :=
 zSu (R:=fun _=>Γ) (fun(_:Unit) x=>p x) (fun _ _=>()) () (fun _ _=>True) trivial (fun _ _ _ _=>trivial) hn hL (fun _=>hacc) (fun _ x _ q hx _=>hf x q hx) (by rw[zMg];exact h)
theorem zHR(o:Option Nat):decide ((0:Int)≤zFH o)=o.isSome:=by
 cases o <;> simp[zFH]
theorem zPp(p:α→Bool)(L:List α):(L.findIdx? p).isSome=L.any p:=by simp[List.findIdx?_isSome]
theorem zUR{f:α→List Value}{esz E:Nat}{s:Sl}{L:List α}{i:Nat}{x:α}{k:Value→K}(hf:∀x,(f x).length=esz)(he:0<esz)(hx:L[i]?=some x)(h:HG B Γ (k (.agg (f x).toArray)))[o:zDH s Γ (SlC E esz s (L.flatMap f)) Δ]:HG B Γ (zaD esz s (i:Int) k) :=
 uT f hf (fun w hw=>(zO hw (p:=o)).1) hx h rfl he
theorem zch{f:α→List Value}{esz:Nat}{s:Sl}{L:List α}{i:Nat}{x:α}{k:Value→K}(hf:∀x,(f x).length=esz)(he:0<esz)(hr:∀w,Holds B Γ w→RdC w s esz (L.flatMap f))(hx:L[i]?=some x)(h:HG B Γ (k (.agg (f x).toArray))):HG B Γ (zaD esz s (i:Int) k) :=
 uT f hf hr hx h rfl he
theorem zXr{β:Type}{c:β→Value}{E:Nat}{s:Sl}{L:List β}{i:Nat}{x:β}{k:Value→K}(hx:L[i]?=some x)(h:HG B Γ (k (c x)))[o:zDH s Γ (SlC E 1 s (L.map c)) Δ]:HG B Γ (zVd c s (i:Int) k) :=
 je (fun w hw=>(zO hw (p:=o)).1) hx h
def zXs(P:Program)(idx:Sl→Value→(Int→K)→K)(E T t esz:Nat)(zs:List Value)(s:Sl)(fv:Value)(Q:Sl→K):K :=
 idx s fv fun t10=>
 Ite (decide (t10=(-1)))
  (Q s)
  (Ar (IntKind.wrap .i64 (t10+1)) fun t15=>
  zq (α:=Int×Int) (fun X x=>
   Ite (decide (x.2<(s.n:Int)))
    (Idx s x.2 esz fun t24=>
    LdN t24 esz fun t25=>
    New E zs.toArray fun v7=>
    StN v7 esz t25<|
    LdN v7 esz fun t27=>
    vZ P fv [(.agg t27)]<|yH (fun(t28:Bool)=>Value.bool t28) fun t28=>
    Ite (!t28)
     (LdN v7 esz fun t32=>
     Idx s x.1 esz fun t33=>
     StN t33 esz t32<|
     Ar (IntKind.wrap .i64 (x.1+1)) fun t35=>
     Ar (IntKind.wrap .i64 (x.2+1)) fun t21=>
     X (t35,t21))
     (Ar (IntKind.wrap .i64 (x.2+1)) fun t21=>
     X (x.1,t21)))
    (Slc s x.1 (s.n:Int) (s.c:Int) esz fun t38=>
    Do P (Builtin.clear_ #[T] t #[(Sl.val t38)]) id fun _=>
    Slc s 0 x.1 (s.c:Int) esz fun t41=>
    Q t41)) (t10,t15))
def zXt{β:Type}(P:Program)(idx:Sl→Value→(Int→K)→K)(T t:Nat)(c:β→Value)(s:Sl)(fv:Value)(Q:Sl→K):K :=
 idx s fv fun t10=>
 Ite (decide (t10=(-1)))
  (Q s)
  (Ar (IntKind.wrap .i64 (t10+1)) fun t15=>
  zq (α:=Int×Int) (fun X x=>
   Ite (decide (x.2<(s.n:Int)))
    (Idx s x.2 1 fun t24=>
    Ld t24 c fun t25=>
    vZ P fv [c t25]<|yH (fun(t28:Bool)=>Value.bool t28) fun t28=>
    Ite (!t28)
     (Idx s x.1 1 fun t33=>
     St t33 (c t25)<|
     Ar (IntKind.wrap .i64 (x.1+1)) fun t35=>
     Ar (IntKind.wrap .i64 (x.2+1)) fun t21=>
     X (t35,t21))
     (Ar (IntKind.wrap .i64 (x.2+1)) fun t21=>
     X (x.1,t21)))
    (Slc s x.1 (s.n:Int) (s.c:Int) 1 fun t38=>
    Do P (Builtin.clear_ #[T] t #[(Sl.val t38)]) id fun _=>
    Slc s 0 x.1 (s.c:Int) 1 fun t41=>
    Q t41)) (t10,t15))
theorem zKf(p:γ→α→Bool)(st:γ→α→γ){I:γ→List α→Prop}(hIs:∀g x C,I g (x::C)→I (st g x) C):∀(g:γ) (L:List α),I g L→((zDT p st g L).2=none∧zB2 p st g L=((zDT p st g L).1,L)) ∨
  ∃A x C,L=A++x::C∧(zDT p st g L).2=some A.length∧I (zDT p st g L).1 C∧zB2 p st g L=((zB2 p st (zDT p st g L).1 C).1,A++(zB2 p st (zDT p st g L).1 C).2)
 | g,[],_=>.inl ⟨rfl,rfl⟩
 | g,x::L,hI=>by
  rw[zJF,zEL];by_cases hp:p g x=true
  ·right;exact⟨[],x,L,rfl,by simp[hp],by simpa[hp] using hIs _ _ _ hI,by simp[hp]⟩
  ·rcases zKf p st hIs (st g x) L (hIs _ _ _ hI) with⟨h1,h2⟩|⟨A,y,C,rfl,h2,h4,h3⟩
   ·left;simp only[hp,zgc,zhG,h1,h2,Option.map_none,and_self]
   ·right;refine⟨x::A,y,C,rfl,?_,?_,?_⟩
    ·simp only[hp,zgc,zhG,h2,zg1,zgO]
    ·simpa only[hp,zgc,zhG] using h4
    ·simp only[hp,zgc,zhG,h3,zhC]
theorem zJ3{M:List α}{i:Nat}{x:α}(hi:i<M.length):(M.set i x).take (i+1)=M.take i++[x]:=by
 rw[zgJ (by simpa using hi),List.take_set_of_le (zgu _),List.getElem_set_self]
theorem set_drop{M:List α}{i j:Nat}{x:α}(hij:i<j):(M.set i x).drop j=M.drop j:=by rw[ziB hij]
theorem zRE{f:α→List Value}{esz E:Nat}{s:Sl}{M:List α}{i:Nat}{x:α}{k:K}(hf:∀x,(f x).length=esz)(hfl:(f x).all qD=true)(hi:i<M.length)(h:HG B (SlC E esz s ((M.set i x).flatMap f)::Δ) k)[o:zDH s Γ (SlC E esz s (M.flatMap f)) Δ]:HG B Γ (StN (elA s i esz) esz (f x).toArray k):=by
 have e1:M=M.take i++M[i]::M.drop (i+1):=by rw[←zgj hi,zgz]
 have e2:M.set i x=M.take i++x::M.drop (i+1):=by rw[List.set_eq_take_append_cons_drop,if_pos hi]
 have hl:(M.take i).length=i:=by rw[zgR];omega
 rw[e2] at h;refine fun w hw=>?_;have hw2:=hw.perm o.perm;rw[e1] at hw2;rw[show elA s i esz=elA s (M.take i).length esz by rw[hl]];refine hg hw2 ?_;rw[←add0 (elA s (M.take i).length esz)];refine zPb (s:=s) (us:=f x) ?_ (hf x) ?_ hfl
 ·have e:zDl ((M.take i++M[i]::M.drop (i+1)).flatMap f) ((M.take i).length*esz+0) (f x)=(M.take i++x::M.drop (i+1)).flatMap f:=by
   have e1:(M.take i++M[i]::M.drop (i+1)).flatMap f=(M.take i).flatMap f++(f M[i]++(M.drop (i+1)).flatMap f):=by simp only[zge,zgi]
   have e2:(M.take i++x::M.drop (i+1)).flatMap f=(M.take i).flatMap f++(f x++(M.drop (i+1)).flatMap f):=by simp only[zge,zgi]
   rw[e1,e2,zEE (by simp[zH f esz hf]) (by rw[hf,hf])]
  rw[e];exact h
 ·have e3:((M.take i++M[i]::M.drop (i+1)).flatMap f).length=((M.take i).length+((M.drop (i+1)).length+1))*esz:=by rw[zH f esz hf];simp only[zgK,zgO]
  rw[e3,zhA,zhA];omega
theorem zFI{f:α→List Value}{esz:Nat}(hf:∀x,(f x).length=esz):∀(L:List α) (i:Nat),(L.flatMap f).take (i*esz)=(L.take i).flatMap f
 | L,0=>by simp
 | [],i+1=>by simp
 | x::L,i+1=>by
  rw[zgi,zhu,zgi,←zFI hf L i,zhA,Nat.one_mul,Nat.add_comm,←hf x,List.take_length_add_append]
theorem zUS{R:γ→List zB}{idx:Sl→Value→(Int→K)→K}{E T t esz:Nat}{zs:List Value}{s:Sl}{fv:Value}{Q:Sl→K}{f:α→List Value}{L:List α}(p:γ→α→Bool)(st:γ→α→γ)(g0:γ)(I:γ→List α→Prop)(hI:I g0 L)(hIs:∀g x C,I g (x::C)→I (st g x) C)
  (hidx:∀s fv Q w,zIw P (zaD esz) s fv Q w→idx s fv Q w) (hf:∀x,(f x).length=esz) (he:0<esz) (hfl:∀x,(f x).all qD=true) (hz:zs.length=esz) (hL:L.length<1000000000)
  (hc:∀Ξ g x C (q:Bool→K),x∈L→I g (x::C)→HG B (Ξ::R (st g x)) (q (p g x))→HG B (Ξ::R g) (vZ P fv [(.agg (f x).toArray)] (yH (fun(t:Bool)=>Value.bool t) q)))
  (h:∀s',s'.n=(zB2 p st g0 L).2.length→HG B (SlC E esz s' ((zB2 p st g0 L).2.flatMap f)::R (zB2 p st g0 L).1) (Q s')) (hT:zFe P T T E esz=true:=by kernel_rfl) :
  HG B (SlC E esz s (L.flatMap f)::R g0) (zXs P idx E T t esz zs s fv Q):=by
 unfold zXs;refine yw s fun a1 a2 a3 a4=>?_;rw[zH f esz hf] at a1;have hn:s.n=L.length:=(zgb he a1).symm;refine fun w hw=>hidx _ _ _ _ ?_;refine hg hw ?_;clear hw w;refine zSu (R:=fun g=>SlC E esz s (L.flatMap f)::R g) (vV:=fun x=>.agg (f x).toArray) p st g0 I hI hIs hn hL (fun g i x k hx hk=>zUR hf he hx hk) (fun g x C q hx hI hq=>hc _ g x C q hx hI hq) ?_;rcases zKf p st hIs g0 L hI with⟨h1,h2⟩|⟨A,x,C,rfl,h1,hI1,h2⟩
 ·rw[h1];rw[h2] at h;refine s_t ?_ (by simp[zFH]);exact h s hn
 rw[h1];have hlen:(A++x::C).length=A.length+(C.length+1):=zgK;generalize(zDT p st g0 (A++x::C)).1=g1 at *;refine s_f ?_ (by simp[zFH]);simp only[zFH];refine qJ ?_;refine qH (α:=Int×Int) (ι:=Nat×Nat×List α×γ) (fun y i=>y.1=(i.1:Int)∧y.2=(i.2.1:Int)∧i.1<i.2.1∧i.2.1≤(A++x::C).length∧i.2.2.1.length=(A++x::C).length∧i.2.2.1.drop i.2.1=(A++x::C).drop i.2.1∧I i.2.2.2 ((A++x::C).drop i.2.1)∧zB2 p st g0 (A++x::C)=((zB2 p st i.2.2.2 ((A++x::C).drop i.2.1)).1,i.2.2.1.take i.1++(zB2 p st i.2.2.2 ((A++x::C).drop i.2.1)).2))
  (fun y i=>SlC E esz s (i.2.2.1.flatMap f)::R i.2.2.2) (fun y i=>(A++x::C).length-i.2.1) (A.length,A.length+1,A++x::C,g1) ⟨rfl,by simp,by simp,by simp,rfl,rfl,?_,?_⟩ ?_
 ·simp only;have e:(A++x::C).drop (A.length+1)=C:=by rw[show A++x::C=(A++[x])++C by simp];exact zhi (by simp)
  rw[e];exact hI1
 ·simp only;have e:(A++x::C).drop (A.length+1)=C:=by rw[show A++x::C=(A++[x])++C by simp];exact zhi (by simp)
  rw[e,zhU,h2]
 rintro k' ⟨_,_⟩ ⟨i,j,M,g⟩ ⟨rfl,rfl,hij,hj,hM,hd,hIg,hdel⟩ hk';simp only at hij hj hM hd hIg hdel hk' ⊢;refine zF (fun hb=>?_) fun hb=>?_
 ·have hjl:j<(A++x::C).length:=by simp only[zgH] at hb;omega
  have hMj:M[j]?=some (A++x::C)[j]:=by
   have:=congrArg (·[0]?) hd;simp only[zgt,zho] at this;rw[this,zgG hjl]
  have hmem:(A++x::C)[j]∈A++x::C:=zgX hjl;have hdrop:=zgj hjl;rw[hdrop] at hdel hIg;generalize(A++x::C)[j]=y at hMj hmem hdel hdrop hIg;rw[zEL] at hdel;refine uT f hf (fun w hw=>(zO (s:=s) hw).1) hMj ?_;refine zD fun v7=>?_;refine yX (b:=v7) ?_ hz (hf y) (hfl y);refine zbW (b:=v7) ?_ (hf y);refine zFu (Δ:=[blk v7 (.cells (f y).toArray E (0,0)),SlC E esz s (M.flatMap f)]) ?_;refine hc _ g y _ _ hmem hIg ?_;refine zBL ?_;show HG B (blk v7 (.cells (f y).toArray E (0,0))::SlC E esz s (M.flatMap f)::R (st g y)) _;refine zF (fun hp=>?_) fun hp=>?_
  ·have hp':p g y=false:=by simpa using hp
   rw[hp'] at hdel;simp only[zgc,zhG] at hdel;refine zbW (b:=v7) ?_ (hf y);refine zBk (s:=s) (i:=i) ?_;refine zRE (s:=s) hf (hfl y) (by omega) ?_;refine qJ ?_;refine qJ ?_;refine zA (hk' _ (i+1,j+1,M.set i y,st g y) ⟨by simp,by simp,by simp only;omega,hjl,by simpa using hM,?_,hIs _ _ _ hIg,?_⟩ (by simp only;omega))
   ·simp only;rw[set_drop (by omega),←zgo,←zgo,hd]
   ·simp only;rw[zJ3 (by omega),hdel];simp
  ·have hp':p g y=true:=by simpa using hp
   rw[hp'] at hdel;simp only[zhX] at hdel;refine qJ ?_;refine zA (hk' _ (i,j+1,M,st g y) ⟨rfl,by simp,by simp only;omega,hjl,hM,?_,hIs _ _ _ hIg,hdel⟩ (by simp only;omega));simp only;rw[←zgo,←zgo,hd]
 ·have hjl:j=(A++x::C).length:=by simp only[zgF] at hb;omega
  rw[hjl,zhx] at hdel;simp only[zB2,zgy] at hdel;rw[hdel] at h;refine zAl (lo:=i) (hi:=s.n) (mx:=s.c) ?_;refine zEZ (s:=s) (m:=i) (c':=s.c) (by omega) (by omega) (zgu _) ?_;rw[zFI hf];refine zJs (s:=⟨s.a,i,s.c⟩) (l:=i) (q:=s.n-i) (m:=s.c) rfl (zgu _) (by simp only;omega) (by omega) ?_ (hT:=hT);refine zAl (lo:=0) (hi:=i) (mx:=s.c) ?_;rw[zKZ a3];exact h ⟨s.a,i,s.c⟩ (by simp;omega)
theorem zaE{β:Type}{R:γ→List zB}{idx:Sl→Value→(Int→K)→K}{E T t:Nat}{c:β→Value}{s:Sl}{fv:Value}{Q:Sl→K}{L:List β}(p:γ→β→Bool)(st:γ→β→γ)(g0:γ)(I:γ→List β→Prop)(hI:I g0 L)(hIs:∀g x C,I g (x::C)→I (st g x) C)
  (hidx:∀s fv Q w,zIw P (zVd c) s fv Q w→idx s fv Q w) (hfl:∀x,qD (c x)=true) (hL:L.length<1000000000)
  (hc:∀Ξ g x C (q:Bool→K),x∈L→I g (x::C)→HG B (Ξ::R (st g x)) (q (p g x))→HG B (Ξ::R g) (vZ P fv [c x] (yH (fun(t:Bool)=>Value.bool t) q)))
  (h:∀s',s'.n=(zB2 p st g0 L).2.length→HG B (SlC E 1 s' ((zB2 p st g0 L).2.map c)::R (zB2 p st g0 L).1) (Q s')) (hT:zFe P T T E 1=true:=by kernel_rfl) :
  HG B (SlC E 1 s (L.map c)::R g0) (zXt P idx T t c s fv Q):=by
 unfold zXt;refine yw s fun a1 a2 a3 a4=>?_;rw[zgL,zgs] at a1;have hn:s.n=L.length:=a1.symm;refine fun w hw=>hidx _ _ _ _ ?_;refine hg hw ?_;clear hw w;refine zSu (R:=fun g=>SlC E 1 s (L.map c)::R g) (vV:=c) p st g0 I hI hIs hn hL (fun g i x k hx hk=>zXr hx hk) (fun g x C q hx hI hq=>hc _ g x C q hx hI hq) ?_;rcases zKf p st hIs g0 L hI with⟨h1,h2⟩|⟨A,x,C,rfl,h1,hI1,h2⟩
 ·rw[h1];rw[h2] at h;refine s_t ?_ (by simp[zFH]);exact h s hn
 rw[h1];have hlen:(A++x::C).length=A.length+(C.length+1):=zgK;generalize(zDT p st g0 (A++x::C)).1=g1 at *;refine s_f ?_ (by simp[zFH]);simp only[zFH];refine qJ ?_;refine qH (α:=Int×Int) (ι:=Nat×Nat×List β×γ) (fun y i=>y.1=(i.1:Int)∧y.2=(i.2.1:Int)∧i.1<i.2.1∧i.2.1≤(A++x::C).length∧i.2.2.1.length=(A++x::C).length∧i.2.2.1.drop i.2.1=(A++x::C).drop i.2.1∧I i.2.2.2 ((A++x::C).drop i.2.1)∧zB2 p st g0 (A++x::C)=((zB2 p st i.2.2.2 ((A++x::C).drop i.2.1)).1,i.2.2.1.take i.1++(zB2 p st i.2.2.2 ((A++x::C).drop i.2.1)).2))
  (fun y i=>SlC E 1 s (i.2.2.1.map c)::R i.2.2.2) (fun y i=>(A++x::C).length-i.2.1) (A.length,A.length+1,A++x::C,g1) ⟨rfl,by simp,by simp,by simp,rfl,rfl,?_,?_⟩ ?_
 ·simp only;have e:(A++x::C).drop (A.length+1)=C:=by rw[show A++x::C=(A++[x])++C by simp];exact zhi (by simp)
  rw[e];exact hI1
 ·simp only;have e:(A++x::C).drop (A.length+1)=C:=by rw[show A++x::C=(A++[x])++C by simp];exact zhi (by simp)
  rw[e,zhU,h2]
 rintro k' ⟨_,_⟩ ⟨i,j,M,g⟩ ⟨rfl,rfl,hij,hj,hM,hd,hIg,hdel⟩ hk';simp only at hij hj hM hd hIg hdel hk' ⊢;refine zF (fun hb=>?_) fun hb=>?_
 ·have hjl:j<(A++x::C).length:=by simp only[zgH] at hb;omega
  have hMj:M[j]?=some (A++x::C)[j]:=by
   have:=congrArg (·[0]?) hd;simp only[zgt,zho] at this;rw[this,zgG hjl]
  have hmem:(A++x::C)[j]∈A++x::C:=zgX hjl;have hdrop:=zgj hjl;rw[hdrop] at hdel hIg;generalize(A++x::C)[j]=y at hMj hmem hdel hdrop hIg;rw[zEL] at hdel;refine je (fun w hw=>(zO (s:=s) hw).1) hMj ?_;refine hc _ g y _ _ hmem hIg ?_;refine zF (fun hp=>?_) fun hp=>?_
  ·have hp':p g y=false:=by simpa using hp
   rw[hp'] at hdel;simp only[zgc,zhG] at hdel;refine zBk (s:=s) (i:=i) ?_;rw[←add0 (elA s i 1)];refine zFV (s:=s) ?_ (by simp;omega) (hfl y);rw[show i*1+0=i by omega,←zh8];refine qJ ?_;refine qJ ?_;refine zA (hk' _ (i+1,j+1,M.set i y,st g y) ⟨by simp,by simp,by simp only;omega,hjl,by simpa using hM,?_,hIs _ _ _ hIg,?_⟩ (by simp only;omega))
   ·simp only;rw[set_drop (by omega),←zgo,←zgo,hd]
   ·simp only;rw[zJ3 (by omega),hdel];simp
  ·have hp':p g y=true:=by simpa using hp
   rw[hp'] at hdel;simp only[zhX] at hdel;refine qJ ?_;refine zA (hk' _ (i,j+1,M,st g y) ⟨rfl,by simp,by simp only;omega,hjl,hM,?_,hIs _ _ _ hIg,hdel⟩ (by simp only;omega));simp only;rw[←zgo,←zgo,hd]
 ·have hjl:j=(A++x::C).length:=by simp only[zgF] at hb;omega
  rw[hjl,zhx] at hdel;simp only[zB2,zgy] at hdel;rw[hdel] at h;refine zAl (lo:=i) (hi:=s.n) (mx:=s.c) ?_;refine zEZ (s:=s) (m:=i) (c':=s.c) (by omega) (by omega) (zgu _) ?_;rw[show(M.map c).take (i*1)=(M.take i).map c by simp];refine zJs (s:=⟨s.a,i,s.c⟩) (l:=i) (q:=s.n-i) (m:=s.c) rfl (zgu _) (by simp only;omega) (by omega) ?_ (hT:=hT);refine zAl (lo:=0) (hi:=i) (mx:=s.c) ?_;rw[zKZ a3];exact h ⟨s.a,i,s.c⟩ (by simp;omega)
end
end
end Go.Sep
namespace Go.Proofs.YtlelhlcjaapkoaaGreat
section
open Go.Proofs Go.Shelf
def zaF:Go.Shelf.Ren:=⟨fun|6=>191|8=>200|9=>236|19=>254|20=>255|21=>275|22=>276|23=>277|24=>278|25=>279|26=>280|27=>281|28=>282|29=>283|36=>312|31=>289|32=>290|37=>313|38=>314|39=>315|41=>327|n=>n,fun|27=>39|29=>9|3=>3|32=>291|26=>39|0=>0|44=>382|46=>27|4=>4|36=>374|35=>373|41=>379|5=>5|9=>9|53=>408|57=>411|63=>430|64=>431|n=>n,fun|n=>n⟩
theorem zUT:Go.Proofs.SlLaysM.n6 Tryz.prog zaF:={
 mixed:=by kernel_rfl
 f6:=⟨Tryz.f191.name,by decide,Tryz.func191.trans (congrArg some (by kernel_rfl))⟩
 f8:=Tryz.func200.trans (congrArg some (by kernel_rfl))
 f9:=⟨Tryz.f236.name,by decide,Tryz.func236.trans (congrArg some (by kernel_rfl))⟩
 f19:=Tryz.func254.trans (congrArg some (by kernel_rfl))
 f20:=Tryz.func255.trans (congrArg some (by kernel_rfl))
 f21:=⟨Tryz.f275.name,by decide,Tryz.func275.trans (congrArg some (by kernel_rfl))⟩
 f22:=⟨Tryz.f276.name,by decide,Tryz.func276.trans (congrArg some (by kernel_rfl))⟩
 f23:=⟨Tryz.f277.name,by decide,Tryz.func277.trans (congrArg some (by kernel_rfl))⟩
 f24:=⟨Tryz.f278.name,by decide,Tryz.func278.trans (congrArg some (by kernel_rfl))⟩
 f25:=⟨Tryz.f279.name,by decide,Tryz.func279.trans (congrArg some (by kernel_rfl))⟩
 f26:=⟨Tryz.f280.name,by decide,Tryz.func280.trans (congrArg some (by kernel_rfl))⟩
 f27:=⟨Tryz.f281.name,by decide,Tryz.func281.trans (congrArg some (by kernel_rfl))⟩
 f28:=⟨Tryz.f282.name,by decide,Tryz.func282.trans (congrArg some (by kernel_rfl))⟩
 f29:=⟨Tryz.f283.name,by decide,Tryz.func283.trans (congrArg some (by kernel_rfl))⟩
 f31:=Tryz.func289.trans (congrArg some (by kernel_rfl))
 f32:=Tryz.func290.trans (congrArg some (by kernel_rfl))
 f36:=⟨Tryz.f312.name,by decide,Tryz.func312.trans (congrArg some (by kernel_rfl))⟩
 f37:=⟨Tryz.f313.name,by decide,Tryz.func313.trans (congrArg some (by kernel_rfl))⟩
 f38:=⟨Tryz.f314.name,by decide,Tryz.func314.trans (congrArg some (by kernel_rfl))⟩
 f39:=⟨Tryz.f315.name,by decide,Tryz.func315.trans (congrArg some (by kernel_rfl))⟩
 f41:=⟨Tryz.f327.name,by decide,Tryz.func327.trans (congrArg some (by kernel_rfl))⟩
 t0:=Tryz.underlying0
 a0:=Tryz.isAgg0
 z0:=Tryz.sizeOf0
 v0:=Tryz.zeroValue0
 t3:=Tryz.underlying3
 a3:=Tryz.isAgg3
 z3:=Tryz.sizeOf3
 v3:=Tryz.zeroValue3
 t4:=Tryz.underlying4
 a4:=Tryz.isAgg4
 z4:=Tryz.sizeOf4
 v4:=Tryz.zeroValue4
 t5:=Tryz.underlying5
 a5:=Tryz.isAgg5
 z5:=Tryz.sizeOf5
 v5:=Tryz.zeroValue5
 t9:=Tryz.underlying9
 a9:=Tryz.isAgg9
 z9:=Tryz.sizeOf9
 v9:=Tryz.zeroValue9
 t26:=Tryz.underlying39
 a26:=Tryz.isAgg39
 z26:=Tryz.sizeOf39
 v26:=Tryz.zeroValue39
 t27:=Tryz.underlying39
 a27:=Tryz.isAgg39
 z27:=Tryz.sizeOf39
 v27:=Tryz.zeroValue39
 t29:=Tryz.underlying9
 a29:=Tryz.isAgg9
 z29:=Tryz.sizeOf9
 v29:=Tryz.zeroValue9
 t32:=Tryz.underlying291
 a32:=Tryz.isAgg291
 z32:=Tryz.sizeOf291
 v32:=Tryz.zeroValue291
 t35:=Tryz.underlying373
 a35:=Tryz.isAgg373
 z35:=Tryz.sizeOf373
 v35:=Tryz.zeroValue373
 t36:=Tryz.underlying374
 a36:=Tryz.isAgg374
 z36:=Tryz.sizeOf374
 v36:=Tryz.zeroValue374
 t41:=Tryz.underlying379
 a41:=Tryz.isAgg379
 z41:=Tryz.sizeOf379
 v41:=Tryz.zeroValue379
 t44:=Tryz.underlying382
 a44:=Tryz.isAgg382
 z44:=Tryz.sizeOf382
 v44:=Tryz.zeroValue382
 t46:=Tryz.underlying27
 a46:=Tryz.isAgg27
 z46:=Tryz.sizeOf27
 v46:=Tryz.zeroValue27
 t53:=Tryz.underlying408
 a53:=Tryz.isAgg408
 z53:=Tryz.sizeOf408
 v53:=Tryz.zeroValue408
 t57:=Tryz.underlying411
 a57:=Tryz.isAgg411
 z57:=Tryz.sizeOf411
 v57:=Tryz.zeroValue411
 t63:=Tryz.underlying430
 a63:=Tryz.isAgg430
 z63:=Tryz.sizeOf430
 v63:=Tryz.zeroValue430
 t64:=Tryz.underlying431
 a64:=Tryz.isAgg431
 z64:=Tryz.sizeOf431
 v64:=Tryz.zeroValue431 }
end
section
open Go Go.Sep
abbrev zCe(ss:List (List UInt8)):List (List UInt8):=ss.mergeSort fun x y=>decide (x≤y)
section
variable{B w:World}{Γ:List zB}
theorem holds_grow(h:Holds B Γ w)(os:Array Obj):Holds B Γ (Sort.grow w os):=by
 obtain⟨l⟩:=os
 induction l generalizing w with
 | nil=>simpa[Sort.grow] using h
 | cons o l ih=>
  have h1:=ih (h.alloc o).tail;have e:Sort.grow { w with heap:=w.heap.push o } ⟨l⟩=Sort.grow w ⟨o::l⟩:=by
   have e2:w.heap.push o++(⟨l⟩:Array Obj)=w.heap++(⟨o::l⟩:Array Obj):=by
    apply zhw;rw[Array.toList_append,Array.toList_append,zht,zg9];rfl
   unfold Sort.grow;rw[←e2]
  rw[e] at h1;exact h1
theorem zFy{s:Sl}{ss:List (List UInt8)}{k:K}(hl:ss.length≤1000000)(h:Holds B (SlC yO 1 s (ss.map qE)::Γ) w)(hk:∀w,Holds B (SlC yO 1 s ((zCe ss).map qE)::Γ) w→k w):uW.call s k w:=by
 have hsc:=h.zMS;have hn:ss.length=s.n:=by have:=hsc.1;simpa using this
 unfold uW.call zI;cases ha:s.a with
 | none=>
  have hs0:s.n=0:=by have:=hsc.2.2.2 ha;omega
  have hss:ss=[]:=zgg.1 (by omega);subst hss;have h1:=AnyM.slices_Sort_string_none zUT none s.c w;have e:[Sl.val s].toArray=#[.slice none 0 s.c]:=by
   show #[Value.slice s.a s.n s.c]=_;rw[ha,hs0]
  rw[e];refine Calls.mono h1 fun e w' he=>?_;obtain⟨rfl,rfl⟩:=he;exact⟨rfl,hk _ (by simpa[zCe] using h)⟩
 | some a=>
  obtain⟨cs,fz,h,hsp,hf,hsz,hr,hlen,hc⟩:=zMT h ha;obtain⟨b,off,sp⟩:=a;simp only at hsp;subst hsp;simp only at h hf hsz hr;have hb:=h.block;have hH:Sort.Holds Proofs.encStr w b off ss.toArray:=fun j hj=>by
   simp only[zg7] at hj;have h1:=hr j (by simpa using hj);constructor
   ·refine y9 hb ?_;rw[h1,zgk,zgG hj];simp[getElem!_pos,hj]
   ·exact zBX hb (hf _ (by omega) (by omega))
  have h1:=AnyM.slices_Sort_string zUT b off s.c ss w hH (zgq.1 hb).1 (by omega);have e:[Sl.val s].toArray=#[.slice (some ⟨b,off,none⟩) ss.length s.c]:=by
   show #[Value.slice s.a s.n s.c]=_;rw[ha,hn]
  rw[e];refine Calls.mono h1 fun e w' he=>?_;obtain⟨rfl,n,os,rfl⟩:=he;refine⟨rfl,hk _ ?_⟩;have h2:Holds B (blk b (.cells cs yO fz)::Γ) (Sort.ahead w n):=h.drew _;have h3:=h2.setBlock (o':=.cells (Sort.putCells Proofs.encStr off (zCe ss).toArray cs) yO fz) rfl;have e2:({ (Sort.ahead w n) with heap:=(Sort.ahead w n).heap.setIfInBounds b (.cells (Sort.putCells Proofs.encStr off (zCe ss).toArray cs) yO fz) }:World)=Sort.putRow Proofs.encStr (Sort.ahead w n) b off (zCe ss).toArray:=by
   have harr:(Sort.ahead w n).heap.setIfInBounds b (.cells (Sort.putCells Proofs.encStr off (zCe ss).toArray cs) yO fz)=(Sort.ahead w n).heap.modify b (Sort.onCells (Sort.putCells Proofs.encStr off (zCe ss).toArray)):=by
    apply zhy;intro i;rw[zhI];by_cases hi:b=i
    ·subst hi;rw[if_pos rfl,h2.block,Array.getElem?_setIfInBounds_self_of_lt (zgq.1 h2.block).1];rfl
    ·rw[if_neg hi,zg5 hi]
   unfold Sort.putRow Sort.mapBlock;rw[←harr]
  rw[e2] at h3;have h4:=holds_grow h3 os;have hsl:(zCe ss).length=ss.length:=by simp[zCe]
  refine zMU (a:=⟨b,off,none⟩) ha h4 ⟨rfl,hf,?_,fun i hi=>?_,by rw[zgL,hsl];simpa using hlen,hc⟩
  ·have:(Sort.putCells Proofs.encStr off (zCe ss).toArray cs).size=cs.size:=by simp[Sort.putCells]
   rw[this];exact hsz
  ·simp only[zgL] at hi;unfold Sort.putCells;rw[Array.getElem?_mapIdx];have hlt:off+i<cs.size:=by omega
   rw[zg0 hlt,zg1,if_pos (by simp;omega),zgk,zgG hi,zg1,Nat.add_sub_cancel_left,getElem!_pos (zCe ss).toArray i (by simpa using hi)];simp
end
end
section
open Go Go.Sep
theorem zHS:zLZ .string qE:=⟨fun _=>trivial,fun a b h=>by
 have h1:bs a=bs b:=by injection h
 have h2:=congrArg (fun x:ByteArray=>x.data.toList) h1;simpa using h2,fun a=>zQ5.bits (bs a)⟩
theorem zMh{l l':List (List UInt8)}(h:l.Perm l'):zCe l=zCe l':=by
 have tr:∀a b c:List UInt8,decide (a≤b)=true→decide (b≤c)=true→decide (a≤c)=true:=fun a b c h1 h2=>by
  simp only[zgH] at *;exact List.le_trans h1 h2
 have tot:∀a b:List UInt8,(decide (a≤b)||decide (b≤a))=true:=fun a b=>by
  simp only[Bool.or_eq_true,zgH];exact List.le_total a b
 refine List.Perm.eq_of_pairwise (le:=fun a b=>decide (a≤b)=true) (fun a b _ _ h1 h2=>?_) (ziC tr tot l) (ziC tr tot l') ?_
 ·simp only[zgH] at h1 h2;exact List.le_antisymm h1 h2
 ·exact((zhb l _).trans h).trans (zhb l' _).symm
theorem zOV(l:List (List UInt8)):(zCe l).length=l.length:=(zhb l _).length_eq
theorem zOW{l:List (List UInt8)}{x:List UInt8}:x∈zCe l↔x∈l:=(zhb l _).mem_iff
abbrev SlS(s:Sl)(ss:List (List UInt8)):zB:=SlC yO 1 s (ss.map qE)
end
section
open Go Go.Sep
set_option maxHeartbeats 4000000
attribute [local irreducible] G Gp Cx Tx Ex Sx Dx Ox Ax Lx Rx Fx Bx Bj Al Do Ld LdN St StN New zI Ar DoU Rd Rd2 Pu Cd Ite Fv vZ zAe uZ yH jm zCj zCt zCx Ext Dead Dr yV Sv LdS xJ RdS zDD Nn Idx zBW zCs Fld Bld Slc zDE Cat All zq jE jY zAp
instance:CT Tryz.prog 222:=⟨by kernel_rfl⟩
instance:CT Tryz.prog 223:=⟨by kernel_rfl⟩
instance:CT Tryz.prog 363:=⟨by kernel_rfl⟩
def yZ(b:(Option Nat))(Q:Value→K): K :=
 New 363 #[.map b] fun a=>
 Q (.func (.func 287) #[] #[(.pointer (some a))])
theorem zA2(a Q w)(h:yZ a Q w):yZ.call a Q w:=by
 exact zJ 4 h Tryz.func240
def z8.b1(Q i:K)(j:Value)(b:Pt): K :=
 Do Tryz.prog (Instr.next (.pointer b) false 0) id fun c=>
 Ext c 0 Value.bool fun d=>
 Ite d
  (Do Tryz.prog (Instr.entry (.pointer b)) id fun f=>
  Ext f 0 Value.string fun g=>
  zAe Tryz.prog j [.string g]<|yH (fun(a:Bool)=>Value.bool a) fun a=>
  Ite (!a)
   (Q)
   (i))
  (Q)
def z8(c:Value)(d:Addr)(Q:K): K :=
 Ld d Value.map fun a=>
 Do Tryz.prog (Instr.range 363 (.map a)) Value.pointer fun b=>
 zq (α:=Unit) (fun X x=>z8.b1 Q (X ()) c b) ()
theorem zAx(a b Q w)(h:z8 a b Q w):z8.call a b Q w:=by
 have:∀c d,LH 1 (fun x:Unit=>[(0,c),(5,.pointer d)]) (fun X x=>z8.b1 Q (X ()) c d):=fun _ _=>⟨⟩
 exact zJ 14 h Tryz.func287
end
section
open Go Go.Sep
set_option maxHeartbeats 4000000
attribute [local irreducible] zQq
attribute [local irreducible] G Gp Cx Tx Ex Sx Dx Ox Ax Lx Rx Fx Bx Bj Al Do Ld LdN St StN New zI Ar DoU Rd Rd2 Pu Cd Ite Fv vZ zAe uZ yH jm zCj zCt zCx Ext Dead Dr yV Sv LdS xJ RdS zDD Nn Idx zBW zCs Fld Bld Slc zDE Cat All zq jE jY zAp
instance:AT Tryz.prog 231 3:=⟨by kernel_rfl⟩
instance:CB Tryz.prog 134:=⟨by kernel_rfl⟩
instance:CB Tryz.prog 135:=⟨by kernel_rfl⟩
instance:CB Tryz.prog 136:=⟨by kernel_rfl⟩
instance:CB Tryz.prog 137:=⟨by kernel_rfl⟩
instance:CB Tryz.prog 155:=⟨by kernel_rfl⟩
instance:CB Tryz.prog 156:=⟨by kernel_rfl⟩
instance:CB Tryz.prog 158:=⟨by kernel_rfl⟩
instance:CB Tryz.prog 212:=⟨by kernel_rfl⟩
instance:CB Tryz.prog 213:=⟨by kernel_rfl⟩
instance:CB Tryz.prog 214:=⟨by kernel_rfl⟩
instance:CB Tryz.prog 216:=⟨by kernel_rfl⟩
instance:CB Tryz.prog 237:=⟨by kernel_rfl⟩
instance:CT Tryz.prog 125:=⟨by kernel_rfl⟩
instance:CT Tryz.prog 247:=⟨by kernel_rfl⟩
instance:CT Tryz.prog 250:=⟨by kernel_rfl⟩
instance:FT Tryz.prog 225 0 0 1:=⟨by kernel_rfl⟩
instance:FT Tryz.prog 225 1 1 1:=⟨by kernel_rfl⟩
instance:FT Tryz.prog 231 0 0 1:=⟨by kernel_rfl⟩
instance:FT Tryz.prog 252 0 0 4:=⟨by kernel_rfl⟩
instance:FT Tryz.prog 252 1 4 3:=⟨by kernel_rfl⟩
instance:FT Tryz.prog 254 0 0 1:=⟨by kernel_rfl⟩
instance:FT Tryz.prog 254 1 1 1:=⟨by kernel_rfl⟩
instance:PLT Tryz.prog 225 [(0,1),(1,1)]:=⟨_,Tryz.underlying225,by kernel_rfl⟩
instance:PLT Tryz.prog 252 [(0,4),(4,3)]:=⟨_,Tryz.underlying252,by kernel_rfl⟩
instance:PLT Tryz.prog 254 [(0,1),(1,1)]:=⟨_,Tryz.underlying254,by kernel_rfl⟩
instance:SZ Tryz.prog 231 3:=⟨by kernel_rfl⟩
instance:SZ Tryz.prog 247 1:=⟨by kernel_rfl⟩
instance:SZ Tryz.prog 250 1:=⟨by kernel_rfl⟩
instance:UN Tryz.prog 247 (.pointer 254):=⟨Tryz.underlying247⟩
instance:ZT Tryz.prog 225 (.agg #[(.map none),(.map none)]):=⟨Tryz.t225,by kernel_rfl,by kernel_rfl⟩
instance:ZT Tryz.prog 247 (.pointer none):=⟨Tryz.t247,by kernel_rfl,by kernel_rfl⟩
instance:ZT Tryz.prog 254 (.agg #[(Sl.val ⟨none,0,0⟩),(Sl.val ⟨none,0,0⟩)]):=⟨Tryz.t254,by kernel_rfl,by kernel_rfl⟩
def zDP  (Q:Pt→K): K :=
 Do Tryz.prog (Instr.makeMap 222 none) Value.map fun a=>
 Do Tryz.prog (Instr.makeMap 223 none) Value.map fun b=>
 New 225 #[.map a,.map b] fun c=>
 Q (some c)
theorem zJ4(Q w)(h:zDP  Q w):zDP.call  Q w:=by
 exact zJ 5 h Tryz.func40
def yu.s2(Q:K)(b:Int→K)(d f:Pt)(g:Addr)(i:Sl)(j c:Int): K :=
 Ar (IntKind.wrap .i64 (c+1)) fun a=>
 b a
def yu.s3(Q:K)(c:Int→K)(d b:Pt)(a f:Addr)(p:Pt)(g:Sl)(j k:Int)(al:Bool): K :=
 Ite al
  (yu.s2 Q c d b a g j k)
  (Dr<|yV fun S=>
  LdS S f Value.string fun q=>
  xJ S f 3 fun r=>
  qX.call b q fun s=>
  Sv S<|
  zAD.call s r fun l=>
  Ite (decide (l=0))
   (Dr<|yV fun S=>
   Nn p fun m=>
   LdS S m Sl.val fun t=>
   xJ S a 4 fun u=>
   xJ S f 3 fun v=>
   Bld #[.int .i64 0,.int .u64 0,.int .u64 0,.int .i64 0,(.string ⟨#[]⟩),.int .i64 0,.int .u64 0] ([(0,4),(4,3)][·]?) [(0,.agg u),(1,.agg v)] fun x=>
   Bld #[.int .i64 0,.int .u64 0,.int .u64 0,.int .i64 0,(.string ⟨#[]⟩),.int .i64 0,.int .u64 0] (fun i=>some (i*7,7)) [(0,.agg x)] fun y=>
   New 252 y fun z=>
   Sv S<|
   Do Tryz.prog (Builtin.append_ #[250,250] 250 #[Sl.val t,(Sl.val (Sl.mk (some z) 1 1))]) Sl.val fun aa=>
   St m (Sl.val aa)<|
   yu.s2 Q c d b a g j k)
   (Ite (decide (l=1))
    (Dr<|yV fun S=>
    Nn p fun n=>
    LdS S (n.add 1) Sl.val fun ab=>
    xJ S a 4 fun ac=>
    xJ S f 3 fun ad=>
    Bld #[.int .i64 0,.int .u64 0,.int .u64 0,.int .i64 0,(.string ⟨#[]⟩),.int .i64 0,.int .u64 0] ([(0,4),(4,3)][·]?) [(0,.agg ac),(1,.agg ad)] fun ae=>
    Bld #[.int .i64 0,.int .u64 0,.int .u64 0,.int .i64 0,(.string ⟨#[]⟩),.int .i64 0,.int .u64 0] (fun i=>some (i*7,7)) [(0,.agg ae)] fun af=>
    New 252 af fun ag=>
    Sv S<|
    Do Tryz.prog (Builtin.append_ #[250,250] 250 #[Sl.val ab,(Sl.val (Sl.mk (some ag) 1 1))]) Sl.val fun ah=>
    St (n.add 1) (Sl.val ah)<|
    yu.s2 Q c d b a g j k)
    (Dr<|
    Nn d fun o=>
    Ld (o.add 1) Value.map fun aj=>
    LdN a 4 fun ak=>
    DoU Tryz.prog (Instr.mapUpdate 223 (.map aj) (.agg ak) (.int .i64 1))<|
    yu.s2 Q c (some o) b a g j k)))
def yu.b1(Q:K)(j:Int→K)(f k:Pt)(c:Addr)(g:Sl)(i d:Int): K :=
 Ite (decide (d<i))
  (Idx g d 3 fun l=>
  LdN l 3 fun m=>
  New 231 #[(.string ⟨#[]⟩),.int .i64 0,.int .u64 0] fun a=>
  StN a 3 m<|
  Ld a Value.string fun n=>
  vC.call f n fun o=>
  Dr<|yV fun S=>
  Nn o fun b=>
  LdS S b Sl.val fun p=>
  xJ S c 4 fun q=>
  zC1.call q fun r=>
  Sv S<|
  yT.call p r fun s=>
  Sv S<|
  Ite s
   (yu.s3 Q j f k c a (some b) g i d true)
   (LdS S (b.add 1) Sl.val fun t=>
   xJ S c 4 fun u=>
   zC1.call u fun v=>
   Sv S<|
   yT.call t v fun x=>
   yu.s3 Q j f k c a (some b) g i d x))
  (Q)
def yu(c d:Pt)(f:Av)(a:Sl)(Q:K): K :=
 New 46 f fun b=>
 zq (α:=Int) (fun X x=>yu.b1 Q X c d b a (a.n:Int) x) 0
theorem zHT(u v y z Q w)(h:yu u v y z Q w):yu.call u v y z Q w:=by
 have:∀b,XH 2 b→JH 12 fun D=>∃c d f g j k,D [(0,.pointer c),(1,.pointer d),(6,(.pointer (some f))),(11,Sl.val g),(12,.int .i64 j),(13,.int .i64 k)] (fun C=>C [(0,.pointer c),(1,.pointer d),(6,(.pointer (some f))),(11,Sl.val g),(12,.int .i64 j),(13,.int .i64 k)] (yu.s2 Q b c d f g j k)):=by intros;exact⟨fun _ ⟨_,_,_,_,_,_,h⟩=>⟨_,_,h⟩⟩
 have:DH 9 2 [9,12] (.s [0,1,2,3,4,5,6,7] (.a [(8,1,.a [(9,0,.s [10,11] (.a [(12,0,.e)]))])])):=⟨⟩
 have:DH 11 2 [9,12] (.s [0,1,2,3,4,5,6,7] (.a [(8,1,.a [(9,0,.s [10,11] (.a [(12,0,.e)]))])])):=⟨⟩
 have:DH 7 1 [5] (.s [0,1,2,3,4] (.a [(5,0,.e)])):=⟨⟩
 have:DH 6 2 [5] (.s [0,1,2,4] (.a [(3,1,.a [(5,0,.e)])])):=⟨⟩
 have:∀b,XH 2 b→JH 1000005 fun D=>∃l m n o p q r t,D [(0,.pointer l),(1,.pointer m),(6,(.pointer (some n))),(9,(.pointer (some o))),(10,.pointer p),(11,Sl.val q),(12,.int .i64 r),(13,.int .i64 t)] (fun C=>∀aa,C [(0,.pointer l),(1,.pointer m),(6,(.pointer (some n))),(9,(.pointer (some o))),(10,.pointer p),(11,Sl.val q),(12,.int .i64 r),(13,.int .i64 t),(36,.bool aa)] (yu.s3 Q b l m n o p q r t aa)):=by intros;exact⟨fun _ ⟨_,_,_,_,_,_,_,_,h⟩=>⟨_,_,h⟩⟩
 have:DH 5 2 [14] (.s [0,1,2,3,4] (.a [(5,1,.a [(6,1,.s [7] (.i (.s [8,9,10,11,12,13,14,15] .e) (.s [8,9,10,11,12] (.a [(13,1,.a [(14,0,.s [15] .e)])]))))])])):=⟨⟩
 have:∀ab ac ad ae af,LH 2 (fun x:Int=>[(0,.pointer ab),(1,.pointer ac),(6,(.pointer (some ad))),(11,Sl.val ae),(12,.int .i64 af),(13,.int .i64 x)]) (fun X x=>yu.b1 Q X ab ac ad ae af x):=fun _ _ _ _ _=>⟨⟩
 exact zJ 77 h Tryz.func64
def jd(g:Pt)(i:Av)(Q:Bool→K): K :=
 New 46 i fun a=>
 Dr<|
 Nn g fun b=>
 Ld (b.add 1) Value.map fun c=>
 LdN a 4 fun d=>
 Rd Tryz.prog (Instr.lookup 223 (.map c) (.agg d) false) (Value.int .i64) fun f=>
 Q (decide ((0:Int)<f))
theorem zGh(a b Q w)(h:jd a b Q w):jd.call a b Q w:=by
 exact zJ 12 h Tryz.func127
def qd.s2(Q:Bool→K)(a:K)(c:Addr)(d:Pt)(b:Bool): K :=
 Ite b
  (Q false)
  (a)
def qd.b1(Q:Bool→K)(d:K)(a:Addr)(b:Pt): K :=
 Do Tryz.prog (Instr.next (.pointer b) false 0) id fun f=>
 Ext f 0 Value.bool fun g=>
 Ite g
  (Do Tryz.prog (Instr.entry (.pointer b)) id fun i=>
  Ext i 1 Value.pointer fun j=>
  Dr<|yV fun S=>
  Nn j fun c=>
  LdS S (c.add 1) Sl.val fun k=>
  xJ S a 4 fun l=>
  zC1.call l fun m=>
  Sv S<|
  yT.call k m fun n=>
  Sv S<|
  Ite n
   (qd.s2 Q d a b true)
   (LdS S c Sl.val fun o=>
   xJ S a 4 fun p=>
   zC1.call p fun q=>
   Sv S<|
   zm.call o q fun r=>
   qd.s2 Q d a b (decide ((0:Int)<r))))
  (Q true)
def qd(f:Pt)(g:Av)(Q:Bool→K): K :=
 New 46 g fun a=>
 Nn f fun b=>
 Ld b Value.map fun c=>
 Do Tryz.prog (Instr.range 222 (.map c)) Value.pointer fun d=>
 zq (α:=Unit) (fun X x=>qd.b1 Q (X ()) a d) ()
theorem zHU(d f Q w)(h:qd d f Q w):qd.call d f Q w:=by
 have:∀g,XH 2 g→JH 5 fun D=>∃b c,D [(3,(.pointer (some b))),(11,.pointer c)] (fun C=>∀j,C [(3,(.pointer (some b))),(11,.pointer c),(32,.bool j)] (qd.s2 Q (g ()) b c j)):=by intros;exact⟨fun _ ⟨_,_,h⟩=>⟨_,_,h⟩⟩
 have:DH 4 2 [14] (.s [0,1,2,3,4] (.a [(5,1,.a [(6,1,.s [7] (.i (.s [8,9,10,11,12,13,14,15,16] .e) (.s [8,9,10,11,12] (.a [(13,1,.a [(14,0,.s [15,16] .e)])]))))])])):=⟨⟩
 have:∀k l,LH 2 (fun x:Unit=>[(3,(.pointer (some k))),(11,.pointer l)]) (fun X x=>qd.b1 Q (X ()) k l):=fun _ _=>⟨⟩
 exact zJ 33 h Tryz.func128
def vC.s1(Q:Pt→K)(d:Pt)(f:ByteArray): K :=
 Nn d fun a=>
 Ld a Value.map fun b=>
 Rd Tryz.prog (Instr.lookup 222 (.map b) (.string f) false) Value.pointer fun c=>
 Q c
def vC(i:Pt)(b:ByteArray)(Q:Pt→K): K :=
 Nn i fun a=>
 Ld a Value.map fun c=>
 Rd Tryz.prog (Instr.lookup 222 (.map c) (.string b) false) Value.pointer fun d=>
 Ite ((d).isNone)
  (Ld a Value.map fun f=>
  New 254 #[Sl.val ⟨none,0,0⟩,Sl.val ⟨none,0,0⟩] fun g=>
  DoU Tryz.prog (Instr.mapUpdate 222 (.map f) (.string b) (.pointer (some g)))<|
  vC.s1 Q (some a) b)
  (vC.s1 Q (some a) b)
theorem zIR(c d Q w)(h:vC c d Q w):vC.call c d Q w:=by
 have:JH 3 fun D=>∃a b,D [(0,.pointer a),(1,.string b)] (fun C=>C [(0,.pointer a),(1,.string b)] (vC.s1 Q a b)):=⟨fun _ ⟨_,_,h⟩=>⟨_,_,h⟩⟩
 exact zJ 25 h Tryz.func134
def zC1(b:Av)(Q:Value→K): K :=
 New 46 b fun a=>
 Q (.func (.func 201) #[] #[(.pointer (some a))])
theorem zRF(a Q w)(h:zC1 a Q w):zC1.call a Q w:=by
 exact zJ 4 h Tryz.func136
def qK.b1(Q t:K)(u b:Addr)(c:Pt): K :=
 Do Tryz.prog (Instr.next (.pointer c) false 0) id fun d=>
 Ext d 0 Value.bool fun f=>
 Ite f
  (Do Tryz.prog (Instr.entry (.pointer c)) id fun g=>
  Ext g 1 Value.pointer fun i=>
  Dr<|yV fun S=>
  Nn i fun a=>
  LdS S a Sl.val fun j=>
  xJ S b 4 fun k=>
  zC1.call k fun l=>
  Sv S<|
  zL.call j l fun m=>
  St a (Sl.val m)<|
  Dr<|yV fun S=>
  LdS S (a.add 1) Sl.val fun n=>
  xJ S b 4 fun o=>
  zC1.call o fun p=>
  Sv S<|
  zL.call n p fun q=>
  St (a.add 1) (Sl.val q)<|
  t)
  (Dr<|
  Ld (u.add 1) Value.map fun r=>
  LdN b 4 fun s=>
  Do Tryz.prog (Builtin.delete_ #[223,46] 0 #[.map r,.agg s]) id fun _=>
  Q)
def qK(f:Pt)(g:Av)(Q:K): K :=
 New 46 g fun b=>
 Nn f fun a=>
 Ld a Value.map fun c=>
 Do Tryz.prog (Instr.range 222 (.map c)) Value.pointer fun d=>
 zq (α:=Unit) (fun X x=>qK.b1 Q (X ()) a b d) ()
theorem zHV(b c Q w)(h:qK b c Q w):qK.call b c Q w:=by
 have:DH 5 2 [7,10] (.s [0,1,2,3,4,5] (.a [(6,1,.a [(7,0,.s [8,9] (.a [(10,0,.e)]))])])):=⟨⟩
 have:DH 4 2 [7,10] (.s [0,1,2,3,4,5] (.a [(6,1,.a [(7,0,.s [8,9] (.a [(10,0,.e)]))])])):=⟨⟩
 have:DH 6 1 [5] (.s [0,1,2,3,4] (.a [(5,0,.e)])):=⟨⟩
 have:∀d f g,LH 2 (fun x:Unit=>[(0,(.pointer (some d))),(3,(.pointer (some f))),(10,.pointer g)]) (fun X x=>qK.b1 Q (X ()) d f g):=fun _ _ _=>⟨⟩
 exact zJ 40 h Tryz.func195
theorem zGi(b c Q w)(h:qK b c Q w):qK.zT7 b c Q w:=by
 have:DH 5 2 [7,10] (.s [0,1,2,3,4,5] (.a [(6,1,.a [(7,0,.s [8,9] (.a [(10,0,.e)]))])])):=⟨⟩
 have:DH 4 2 [7,10] (.s [0,1,2,3,4,5] (.a [(6,1,.a [(7,0,.s [8,9] (.a [(10,0,.e)]))])])):=⟨⟩
 have:DH 6 1 [5] (.s [0,1,2,3,4] (.a [(5,0,.e)])):=⟨⟩
 have:∀d f g,LH 2 (fun x:Unit=>[(0,(.pointer (some d))),(3,(.pointer (some f))),(10,.pointer g)]) (fun X x=>qK.b1 Q (X ()) d f g):=fun _ _ _=>⟨⟩
 exact zZz 40 h Tryz.func195
def qz.s2(Q:K)(b:Int→K)(d f g:Addr)(i:Sl)(j c:Int): K :=
 Ar (IntKind.wrap .i64 (c+1)) fun a=>
 b a
def qz.b1(Q:K)(j:Int→K)(b a c:Addr)(g:Sl)(i d:Int): K :=
 Ite (decide (d<i))
  (Idx g d 7 fun k=>
  LdN k 7 fun l=>
  New 252 #[.int .i64 0,.int .u64 0,.int .u64 0,.int .i64 0,(.string ⟨#[]⟩),.int .i64 0,.int .u64 0] fun f=>
  StN f 7 l<|
  LdN c 4 fun m=>
  LdN (f.add 4) 3 fun n=>
  zAD.call m n fun o=>
  Ite (decide (o≠0))
   (Dr<|
   Ld b Value.pointer fun p=>
   Nn p fun q=>
   Ld (q.add 1) Value.map fun r=>
   LdN f 4 fun s=>
   DoU Tryz.prog (Instr.mapUpdate 223 (.map r) (.agg s) (.int .i64 1))<|
   qz.s2 Q j b a c g i d)
   (qz.s2 Q j b a c g i d))
  (Dr<|yV fun S=>
  LdS S a Value.pointer fun t=>
  LdS S a Value.pointer fun u=>
  Nn u fun v=>
  LdS S (v.add 1) Sl.val fun x=>
  zL.call x (.func (.func 244) #[] #[(.pointer (some c)),(.pointer (some a)),(.pointer (some b))]) fun y=>
  Sv S<|
  Nn t fun z=>
  St (z.add 1) (Sl.val y)<|
  Q)
def qz(m o:Pt)(f:ByteArray)(Q:K): K :=
 New 125 #[.pointer m] fun b=>
 Ld b Value.pointer fun g=>
 vC.call g f fun i=>
 qX.call o f fun j=>
 New 247 #[.pointer none] fun a=>
 New 208 #[.bool false,Sl.val ⟨none,0,0⟩,.int .i64 0,.int .u64 0] fun c=>
 St a (.pointer i)<|
 StN c 4 j<|
 Ld a Value.pointer fun k=>
 Nn k fun l=>
 Ld l Sl.val fun d=>
 zq (α:=Int) (fun X x=>qz.b1 Q X b a c d (d.n:Int) x) 0
theorem zHW(j k l Q w)(h:qz j k l Q w):qz.call j k l Q w:=by
 have:∀m,XH 3 m→JH 7 fun D=>∃b c d f g i,D [(3,(.pointer (some b))),(6,(.pointer (some c))),(7,(.pointer (some d))),(19,Sl.val f),(20,.int .i64 g),(21,.int .i64 i)] (fun C=>C [(3,(.pointer (some b))),(6,(.pointer (some c))),(7,(.pointer (some d))),(19,Sl.val f),(20,.int .i64 g),(21,.int .i64 i)] (qz.s2 Q m b c d f g i)):=by intros;exact⟨fun _ ⟨_,_,_,_,_,_,h⟩=>⟨_,_,h⟩⟩
 have:DH 6 1 [6] (.s [4,0,1,2,3,5] (.a [(6,0,.e)])):=⟨⟩
 have:DH 8 2 [9] (.s [5,0,1,2,3,4] (.a [(6,1,.s [7,8] (.a [(9,0,.e)]))])):=⟨⟩
 have:∀n o p q r,LH 3 (fun x:Int=>[(3,(.pointer (some n))),(6,(.pointer (some o))),(7,(.pointer (some p))),(19,Sl.val q),(20,.int .i64 r),(21,.int .i64 x)]) (fun X x=>qz.b1 Q X n o p q r x):=fun _ _ _ _ _=>⟨⟩
 exact zJ 46 h Tryz.func198
def zI7(f:Av)(g:Addr)(Q:Bool→K): K :=
 New 252 f fun c=>
 LdN c 4 fun a=>
 LdN g 4 fun b=>
 Pu Tryz.prog (do eqGuard .eql 46 (.tmp 5) (.tmp 6) (.agg a) (.agg b);binOp .eql 46 (.agg a) (.agg b):Sem Value) Value.bool fun d=>
 Q d
theorem zNn(a b Q w)(h:zI7 a b Q w):zI7.call a b Q w:=by
 exact zJ 8 h Tryz.func201
def xH.s1(Q:Bool→K)(a:Int): K :=
 Q (decide (a≠1))
def xH(v:Av)(x c y:Addr)(Q:Bool→K): K :=
 New 252 v fun b=>
 LdN x 4 fun d=>
 LdN (b.add 4) 3 fun f=>
 zAD.call d f fun a=>
 Ite (decide (a=0))
  (Dr<|yV fun S=>
  LdS S c Value.pointer fun g=>
  LdS S c Value.pointer fun j=>
  Nn j fun k=>
  LdS S k Sl.val fun l=>
  xJ S b 7 fun m=>
  Bld #[.int .i64 0,.int .u64 0,.int .u64 0,.int .i64 0,(.string ⟨#[]⟩),.int .i64 0,.int .u64 0] (fun i=>some (i*7,7)) [(0,.agg m)] fun n=>
  New 252 n fun o=>
  Sv S<|
  Do Tryz.prog (Builtin.append_ #[250,250] 250 #[Sl.val l,(Sl.val (Sl.mk (some o) 1 1))]) Sl.val fun p=>
  Sv S<|
  Nn g fun q=>
  St q (Sl.val p)<|
  xH.s1 Q a)
  (Ite (decide (a=2))
   (Dr<|
   Ld y Value.pointer fun r=>
   Nn r fun s=>
   Ld (s.add 1) Value.map fun t=>
   LdN b 4 fun u=>
   DoU Tryz.prog (Instr.mapUpdate 223 (.map t) (.agg u) (.int .i64 1))<|
   xH.s1 Q a)
   (xH.s1 Q a))
theorem zGM(c d f g Q w)(h:xH c d f g Q w):xH.call c d f g Q w:=by
 have:JH 7 fun D=>∃b,D [(6,.int .i64 b)] (fun C=>C [(6,.int .i64 b)] (xH.s1 Q b)):=⟨fun _ ⟨_,h⟩=>⟨_,_,h⟩⟩
 have:DH 4 2 [10] (.s [0,1,2,3,4,5] (.a [(6,1,.a [(7,1,.s [8,9] (.a [(10,0,.e)]))])])):=⟨⟩
 have:DH 6 1 [6] (.s [4,0,1,2,3,5] (.a [(6,0,.e)])):=⟨⟩
 exact zJ 34 h Tryz.func244
end
section
open Go Go.Sep
set_option maxHeartbeats 4000000
attribute [local irreducible] G Gp Cx Tx Ex Sx Dx Ox Ax Lx Rx Fx Bx Bj Al Do Ld LdN St StN New zI Ar DoU Rd Rd2 Pu Cd Ite Fv vZ zAe uZ yH jm zCj zCt zCx Ext Dead Dr yV Sv LdS xJ RdS zDD Nn Idx zBW zCs Fld Bld Slc zDE Cat All zq jE jY zAp
instance:AT Tryz.prog 49 2:=⟨by kernel_rfl⟩
instance:CB Tryz.prog 238:=⟨by kernel_rfl⟩
instance:CB Tryz.prog 239:=⟨by kernel_rfl⟩
instance:CB Tryz.prog 240:=⟨by kernel_rfl⟩
instance:CB Tryz.prog 241:=⟨by kernel_rfl⟩
instance:CB Tryz.prog 242:=⟨by kernel_rfl⟩
instance:CB Tryz.prog 243:=⟨by kernel_rfl⟩
instance:CB Tryz.prog 284:=⟨by kernel_rfl⟩
instance:CB Tryz.prog 285:=⟨by kernel_rfl⟩
instance:CB Tryz.prog 286:=⟨by kernel_rfl⟩
instance:CB Tryz.prog 316:=⟨by kernel_rfl⟩
instance:CB Tryz.prog 317:=⟨by kernel_rfl⟩
instance:CT Tryz.prog 122:=⟨by kernel_rfl⟩
instance:CT Tryz.prog 2:=⟨by kernel_rfl⟩
instance:CT Tryz.prog 40:=⟨by kernel_rfl⟩
instance:CT Tryz.prog 47:=⟨by kernel_rfl⟩
instance:CT Tryz.prog 5:=⟨by kernel_rfl⟩
instance:FC Tryz.prog 208 3 3:=⟨by kernel_rfl⟩
instance:FT Tryz.prog 217 0 0 1:=⟨by kernel_rfl⟩
instance:FT Tryz.prog 217 1 1 1:=⟨by kernel_rfl⟩
instance:FT Tryz.prog 217 2 2 1:=⟨by kernel_rfl⟩
instance:FT Tryz.prog 217 3 3 1:=⟨by kernel_rfl⟩
instance:FT Tryz.prog 365 0 0 1:=⟨by kernel_rfl⟩
instance:FT Tryz.prog 365 1 1 1:=⟨by kernel_rfl⟩
instance:FT Tryz.prog 365 2 2 1:=⟨by kernel_rfl⟩
instance:FT Tryz.prog 42 0 0 1:=⟨by kernel_rfl⟩
instance:FT Tryz.prog 42 2 2 1:=⟨by kernel_rfl⟩
instance:FT Tryz.prog 42 3 3 1:=⟨by kernel_rfl⟩
instance:FT Tryz.prog 42 4 4 1:=⟨by kernel_rfl⟩
instance:INT Tryz.prog 2 .i64:=⟨by kernel_rfl⟩
instance:PLT Tryz.prog 118 [(0,1),(1,1)]:=⟨_,Tryz.underlying118,by kernel_rfl⟩
instance:PLT Tryz.prog 365 [(0,1),(1,1),(2,1)]:=⟨_,Tryz.underlying365,by kernel_rfl⟩
instance:PLT Tryz.prog 49 [(0,1),(1,1)]:=⟨_,Tryz.underlying49,by kernel_rfl⟩
instance:SZ Tryz.prog 217 4:=⟨by kernel_rfl⟩
instance:SZ Tryz.prog 47 1:=⟨by kernel_rfl⟩
instance:SZ Tryz.prog 49 2:=⟨by kernel_rfl⟩
instance:SZ Tryz.prog 5 1:=⟨by kernel_rfl⟩
instance:ZT Tryz.prog 365 (.agg #[(.pointer none),(.map none),(Sl.val ⟨none,0,0⟩)]):=⟨Tryz.t365,by kernel_rfl,by kernel_rfl⟩
instance:ZT Tryz.prog 49 (.agg #[(.int .i64 0),(Sl.val ⟨none,0,0⟩)]):=⟨Tryz.t49,by kernel_rfl,by kernel_rfl⟩
def u6.b2(Q:Av→Sl→K)(s:Sl→Int→K)(c d:Addr)(t:Sl)(u:Int)(f:Sl)(a:Int): K :=
 Ite (decide (a<u))
  (Idx t a 1 fun g=>
  Ld g Value.string fun b=>
  Ld (d.add 1) Value.map fun j=>
  Rd Tryz.prog (Instr.lookup 363 (.map j) (.string b) false) Value.agg fun k=>
  Bld #[(.string ⟨#[]⟩),.bool false,Sl.val ⟨none,0,0⟩,.int .i64 0,.int .u64 0] ([(0,1),(1,4)][·]?) [(0,.string b),(1,.agg k)] fun l=>
  Bld #[(.string ⟨#[]⟩),.bool false,Sl.val ⟨none,0,0⟩,.int .i64 0,.int .u64 0] (fun i=>some (i*5,5)) [(0,.agg l)] fun m=>
  New 210 m fun n=>
  Do Tryz.prog (Builtin.append_ #[105,105] 105 #[Sl.val f,(Sl.val (Sl.mk (some n) 1 1))]) Sl.val fun o=>
  Ar (IntKind.wrap .i64 (a+1)) fun p=>
  s o p)
  (Ld (d.add 2) Sl.val fun q=>
  StN c 2 #[.int .i64 0,Sl.val q]<|
  LdN c 2 fun r=>
  Q r f)
def u6.s1(Q:Av→Sl→K)(a c:Addr)(d:Int): K :=
 Ite (decide (d≠0))
  (StN a 2 #[.int .i64 d,Sl.val ⟨none,0,0⟩]<|
  LdN a 2 fun f=>
  Q f (Sl.mk none 0 0))
  (Ld (c.add 1) Value.map fun g=>
  yZ.call g fun i=>
  jh.call i fun b=>
  zq (α:=Sl×Int) (fun X x=>u6.b2 Q (fun j k=>X (j,k)) a c b (b.n:Int) x.1 x.2) ((Sl.mk none 0 0),0))
def u6.b3(Q:Av→Sl→K)(l:Int→Int→K)(f b:Addr)(m:Sl)(n o c:Int): K :=
 Ite (decide (c<n))
  (Idx m c 4 fun g=>
  LdN g 4 fun i=>
  New 217 #[.int .i64 0,(.string ⟨#[]⟩),Sl.val ⟨none,0,0⟩,.int .i64 0] fun d=>
  StN d 4 i<|
  LdN d 4 fun j=>
  uS.call (some b) j fun a=>
  Ite (decide (a≠0))
   (u6.s1 Q f b a)
   (Ar (IntKind.wrap .i64 (c+1)) fun k=>
   l a k))
  (u6.s1 Q f b o)
def u6(m:Pt)(o:Av)(Q:Av→Sl→K): K :=
 New 42 o fun a=>
 New 49 #[.int .i64 0,Sl.val ⟨none,0,0⟩] fun c=>
 Do Tryz.prog (Instr.makeMap 363 none) Value.map fun f=>
 New 365 #[.pointer m,.map f,Sl.val ⟨none,0,0⟩] fun b=>
 Ld a (Value.int .i64) fun g=>
 Ite (decide (g=2))
  (LdN a 5 fun i=>
  j6.call (some b) i fun j=>
  u6.s1 Q c b j)
  (Ld (a.add 3) Sl.val fun d=>
  zq (α:=Int×Int) (fun X x=>u6.b3 Q (fun k l=>X (k,l)) c b d (d.n:Int) x.1 x.2) (0,0))
theorem zRG(c d Q w)(h:u6 c d Q w):u6.call c d Q w:=by
 have:∀f g i j,LH 14 (fun x:Sl×Int=>[(4,(.pointer (some f))),(6,(.pointer (some g))),(10,Sl.val x.1),(45,Sl.val i),(46,.int .i64 j),(47,.int .i64 x.2)]) (fun X x=>u6.b2 Q (fun p q=>X (p,q)) f g i j x.1 x.2):=fun _ _ _ _=>⟨⟩
 have:JH 10 fun D=>∃a b,D [(4,(.pointer (some a))),(6,(.pointer (some b)))] (fun C=>∀k,C [(4,(.pointer (some a))),(6,(.pointer (some b))),(7,.int .i64 k)] (u6.s1 Q a b k)):=⟨fun _ ⟨_,_,h⟩=>⟨_,_,h⟩⟩
 have:∀l m n o,LH 5 (fun x:Int×Int=>[(4,(.pointer (some l))),(6,(.pointer (some m))),(7,.int .i64 x.1),(24,Sl.val n),(25,.int .i64 o),(26,.int .i64 x.2)]) (fun X x=>u6.b3 Q (fun r s=>X (r,s)) l m n o x.1 x.2):=fun _ _ _ _=>⟨⟩
 exact zJ 69 h Tryz.func196
def vK.s2(Q:K)(b:Int→K)(d:Pt)(f:Sl)(g c:Int): K :=
 Ar (IntKind.wrap .i64 (c+1)) fun a=>
 b a
def vK.s3(Q:K)(c:Int→K)(a:Pt)(b:Addr)(d:Sl)(f g:Int): K :=
 Ld (b.add 1) Value.bool fun i=>
 Ite i
  (Ld b Value.string fun j=>
  Ld ((b.add 1).add 1) Sl.val fun k=>
  zGa.call a j k<|
  vK.s2 Q c a d f g)
  (Ld b Value.string fun l=>
  zAS.call a l<|
  vK.s2 Q c a d f g)
def vK.b1(Q:K)(g:Int→K)(b:Pt)(d:Sl)(f c:Int): K :=
 Ite (decide (c<f))
  (Idx d c 5 fun i=>
  LdN i 5 fun j=>
  New 210 #[(.string ⟨#[]⟩),.bool false,Sl.val ⟨none,0,0⟩,.int .i64 0,.int .u64 0] fun a=>
  StN a 5 j<|
  Dr<|yV fun S=>
  LdS S a Value.string fun k=>
  LdS S ((a.add 1).add 3) (Value.int .u64) fun l=>
  qX.call b k fun m=>
  Sv S<|
  Fld m 3 (Value.int .u64) fun n=>
  Ite (decide (n≠l))
   (Ld a Value.string fun o=>
   Ld ((a.add 1).add 2) (Value.int .i64) fun p=>
   vE.call b o p fun q=>
   vK.s3 Q g b a d f c)
   (vK.s3 Q g b a d f c))
  (Q)
def vK(b:Pt)(a:Sl)(Q:K): K :=
 zq (α:=Int) (fun X x=>vK.b1 Q X b a (a.n:Int) x) 0
theorem zNo(n o Q w)(h:vK n o Q w):vK.call n o Q w:=by
 have:∀b,XH 1 b→JH 8 fun D=>∃c d f g,D [(0,.pointer c),(6,Sl.val d),(7,.int .i64 f),(8,.int .i64 g)] (fun C=>C [(0,.pointer c),(6,Sl.val d),(7,.int .i64 f),(8,.int .i64 g)] (vK.s2 Q b c d f g)):=by intros;exact⟨fun _ ⟨_,_,_,_,h⟩=>⟨_,_,h⟩⟩
 have:∀b,XH 1 b→JH 5 fun D=>∃i j k l m,D [(0,.pointer i),(5,(.pointer (some j))),(6,Sl.val k),(7,.int .i64 l),(8,.int .i64 m)] (fun C=>C [(0,.pointer i),(5,(.pointer (some j))),(6,Sl.val k),(7,.int .i64 l),(8,.int .i64 m)] (vK.s3 Q b i j k l m)):=by intros;exact⟨fun _ ⟨_,_,_,_,_,h⟩=>⟨_,_,h⟩⟩
 have:DH 3 2 [] (.s [0,1,5,6,2,7] (.a [(3,1,.s [4,8] .e)])):=⟨⟩
 have:∀p q r,LH 1 (fun x:Int=>[(0,.pointer p),(6,Sl.val q),(7,.int .i64 r),(8,.int .i64 x)]) (fun X x=>vK.b1 Q X p q r x):=fun _ _ _=>⟨⟩
 exact zJ 43 h Tryz.func197
def j6.b1(Q q:Int→K)(d:Pt)(r:Addr)(s:Sl)(t b:Int): K :=
 Ite (decide (b<t))
  (Idx s b 1 fun f=>
  Ld f Value.string fun c=>
  zBZ.call d c fun g=>
  New 208 #[.bool false,Sl.val ⟨none,0,0⟩,.int .i64 0,.int .u64 0] fun a=>
  StN a 4 g<|
  Ld (a.add 3) (Value.int .u64) fun i=>
  Ite (decide (i=18446744073709551615))
   (Q 111)
   (Ld (r.add 4) (Value.int .i64) fun j=>
   St (a.add 2) (.int .i64 j)<|
   Ld (a.add 3) (Value.int .u64) fun k=>
   Ar (IntKind.wrap .u64 (k+1)) fun l=>
   St (a.add 3) (.int .u64 l)<|
   Dr<|
   Nn d fun m=>
   Ld (m.add 1) Value.map fun n=>
   LdN a 4 fun o=>
   DoU Tryz.prog (Instr.mapUpdate 363 (.map n) (.string c) (.agg o))<|
   Ar (IntKind.wrap .i64 (b+1)) fun p=>
   q p))
  (Q 0)
def j6(c:Pt)(d:Av)(Q:Int→K): K :=
 New 42 d fun a=>
 Ld (a.add 2) Sl.val fun b=>
 zq (α:=Int) (fun X x=>j6.b1 Q X c a b (b.n:Int) x) 0
theorem zKg(b c Q w)(h:j6 b c Q w):j6.call b c Q w:=by
 have:DH 9 1 [6] (.s [0,1,2,4,3,5] (.a [(6,0,.e)])):=⟨⟩
 have:∀d f g i,LH 2 (fun x:Int=>[(0,.pointer d),(3,(.pointer (some f))),(9,Sl.val g),(10,.int .i64 i),(11,.int .i64 x)]) (fun X x=>j6.b1 Q X d f g i x):=fun _ _ _ _=>⟨⟩
 exact zJ 35 h Tryz.func238
def uS.s1(Q:Int→K): K :=
 Q 0
def uS.s2(Q:Int→K)(a:Bool): K :=
 Ite a
  (Q 110)
  (uS.s1 Q)
def uS(d:Pt)(ak:Av)(Q:Int→K): K :=
 New 217 ak fun a=>
 Ld (a.add 1) Value.string fun j=>
 zBZ.call d j fun k=>
 New 208 #[.bool false,Sl.val ⟨none,0,0⟩,.int .i64 0,.int .u64 0] fun c=>
 StN c 4 k<|
 Ld a (Value.int .i64) fun b=>
 Ite (decide (b=1))
  (Dr<|yV fun S=>
  Nn d fun f=>
  LdS S (f.add 2) Sl.val fun l=>
  LdS S c Value.bool fun m=>
  LdS S (c.add 1) Sl.val fun n=>
  uG.call n fun o=>
  Sv S<|
  Bld #[.bool false,Sl.val ⟨none,0,0⟩] (fun i=>some (i*2,2)) [(0,(.agg #[.bool m,Sl.val o]))] fun p=>
  New 118 p fun q=>
  Sv S<|
  Do Tryz.prog (Builtin.append_ #[47,47] 47 #[Sl.val l,(Sl.val (Sl.mk (some q) 1 1))]) Sl.val fun r=>
  St (f.add 2) (Sl.val r)<|
  uS.s1 Q)
  (Ite (decide (b=7))
   (Dr<|yV fun S=>
   Nn d fun g=>
   LdS S (g.add 2) Sl.val fun s=>
   LdS S (a.add 2) Sl.val fun t=>
   uG.call t fun u=>
   Sv S<|
   Bld #[.bool false,Sl.val ⟨none,0,0⟩] (fun i=>some (i*2,2)) [(0,(.agg #[.bool true,Sl.val u]))] fun v=>
   New 118 v fun x=>
   Sv S<|
   Do Tryz.prog (Builtin.append_ #[47,47] 47 #[Sl.val s,(Sl.val (Sl.mk (some x) 1 1))]) Sl.val fun y=>
   St (g.add 2) (Sl.val y)<|
   uS.s1 Q)
   (Ite (decide (b=2))
    (Ld (a.add 1) Value.string fun z=>
    Ld (a.add 2) Sl.val fun aa=>
    zEu.call d z true aa<|
    uS.s1 Q)
    (Ite (decide (b=3))
     (Ld (a.add 1) Value.string fun ab=>
     zEu.call d ab false (Sl.mk none 0 0)<|
     uS.s1 Q)
     (Ite (decide (b=4))
      (Ld c Value.bool fun ac=>
      Ite (!ac)
       (uS.s2 Q true)
       (Ld (c.add 1) Sl.val fun ad=>
       Ld (a.add 2) Sl.val fun ae=>
       bytes_Equal.call ad ae fun af=>
       uS.s2 Q (!af)))
      (Ite (decide (b=5))
       (Ld c Value.bool fun ag=>
       Ite ag
        (Q 110)
        (uS.s1 Q))
       (Ite (decide (b=6))
        (LdN a 4 fun ah=>
        zAG.call d ah fun aj=>
        Q aj)
        (uS.s1 Q)))))))
def zBZ(a:Pt)(f:ByteArray)(Q:Av→K): K :=
 New 208 #[.bool false,Sl.val ⟨none,0,0⟩,.int .i64 0,.int .u64 0] fun b=>
 Nn a fun c=>
 Ld (c.add 1) Value.map fun g=>
 Rd2 Tryz.prog (Instr.lookup 363 (.map g) (.string f) true) (fun x y=>.tuple #[Value.agg x,.bool y]) fun i j=>
 New 208 #[.bool false,Sl.val ⟨none,0,0⟩,.int .i64 0,.int .u64 0] fun d=>
 StN d 4 i<|
 Ite j
  (LdN d 4 fun k=>
  StN b 4 k<|
  LdN b 4 fun a=>
  Q a)
  (Ld c Value.pointer fun l=>
  qX.call l f fun m=>
  StN b 4 m<|
  LdN b 4 fun a=>
  Q a)
theorem zLb(a b Q w)(h:zBZ a b Q w):zBZ.call a b Q w:=by
 exact zJ 24 h Tryz.func284
def zEu(b:Pt)(c:ByteArray)(k:Bool)(l:Sl)(Q:K): K :=
 zBZ.call b c fun d=>
 New 208 #[.bool false,Sl.val ⟨none,0,0⟩,.int .i64 0,.int .u64 0] fun a=>
 StN a 4 d<|
 uG.call l fun f=>
 St a (.bool k)<|
 St (a.add 1) (Sl.val f)<|
 Dr<|
 Nn b fun g=>
 Ld (g.add 1) Value.map fun i=>
 LdN a 4 fun j=>
 DoU Tryz.prog (Instr.mapUpdate 363 (.map i) (.string c) (.agg j))<|
 Q
def zAG.s2(Q:Int→K)(g:Pt)(a:Addr)(i:Int)(j:Bool): K :=
 Ite j
  (Q 111)
  (Dr<|yV fun S=>
  LdS S (a.add 1) Value.string fun b=>
  LdS S (a.add 3) (Value.int .i64) fun c=>
  Ar (IntKind.wrap .i64 (i+c)) fun d=>
  zGE.call d fun f=>
  Sv S<|
  zEu.call g b true f<|
  Q 0)
def zAG.s1(Q:Int→K)(c:Pt)(a:Addr)(b:Int): K :=
 Ld (a.add 3) (Value.int .i64) fun i=>
 Ite (decide ((0:Int)<i))
  (Ld (a.add 3) (Value.int .i64) fun j=>
  Ar (IntKind.wrap .i64 (9223372036854775807-j)) fun k=>
  Ite (decide (k<b))
   (zAG.s2 Q c a b true)
   (Ld (a.add 3) (Value.int .i64) fun d=>
   Ite (decide (d<0))
    (Ld (a.add 3) (Value.int .i64) fun f=>
    Ar (IntKind.wrap .i64 ((-9223372036854775808)-f)) fun g=>
    zAG.s2 Q c a b (decide (b<g)))
    (zAG.s2 Q c a b false)))
  (Ld (a.add 3) (Value.int .i64) fun d=>
  Ite (decide (d<0))
   (Ld (a.add 3) (Value.int .i64) fun f=>
   Ar (IntKind.wrap .i64 ((-9223372036854775808)-f)) fun g=>
   zAG.s2 Q c a b (decide (b<g)))
   (zAG.s2 Q c a b false))
def zAG(c:Pt)(l:Av)(Q:Int→K): K :=
 New 217 l fun a=>
 Ld (a.add 1) Value.string fun d=>
 zBZ.call c d fun f=>
 New 208 #[.bool false,Sl.val ⟨none,0,0⟩,.int .i64 0,.int .u64 0] fun b=>
 StN b 4 f<|
 Ld b Value.bool fun g=>
 Ite g
  (Ld (b.add 1) Sl.val fun i=>
  zFT.call i fun j k=>
  Ite (!k)
   (Q 110)
   (zAG.s1 Q c a j))
  (zAG.s1 Q c a 0)
def zFT.b1(Q:Int→Bool→K)(l:Int→Int→K)(m:Sl)(n b a:Int): K :=
 Ite (decide (a<n))
  (Idx m a 1 fun c=>
  Ld c (Value.int .u8) fun d=>
  Cd (0≤(8:Int))<|
  Ar (zQT .u64 b 8) fun f=>
  Ar (IntKind.wrap .u64 d) fun g=>
  Ar (bitsOf .or .u64 f g) fun i=>
  Ar (IntKind.wrap .i64 (a+1)) fun j=>
  l i j)
  (Ar (IntKind.wrap .i64 b) fun k=>
  Q k true)
def zFT(a:Sl)(Q:Int→Bool→K): K :=
 Ite (decide ((a.n:Int)≠8))
  (Q 0 false)
  (zq (α:=Int×Int) (fun X x=>zFT.b1 Q (fun b c=>X (b,c)) a (a.n:Int) x.1 x.2) (0,0))
def zGE.b1(Q:Sl→K)(l:Int→K)(m:Int)(c:Sl)(n a:Int): K :=
 Ite (decide (a<n))
  (Ar (IntKind.wrap .i64 (7-a)) fun d=>
  Ar (IntKind.wrap .u64 m) fun f=>
  Ar (IntKind.wrap .i64 (8*a)) fun b=>
  Cd (0≤b)<|
  Ar (zIo .u64 f b) fun g=>
  Ar (IntKind.wrap .u8 g) fun i=>
  Idx c d 1 fun j=>
  St j (.int .u8 i)<|
  Ar (IntKind.wrap .i64 (a+1)) fun k=>
  l k)
  (Q c)
def zGE(b:Int)(Q:Sl→K): K :=
 Do Tryz.prog (Instr.makeSlice 88 (.int .i64 8) (.int .i64 8)) Sl.val fun a=>
 zq (α:=Int) (fun X x=>zGE.b1 Q X b a (a.n:Int) x) 0
end
end Go.Proofs.YtlelhlcjaapkoaaGreat
