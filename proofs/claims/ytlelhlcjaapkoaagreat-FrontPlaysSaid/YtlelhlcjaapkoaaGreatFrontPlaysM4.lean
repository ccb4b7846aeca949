/- Texts of the claim FrontPlays, one behind the other. -/
import Derived.Test.YtlelhlcjaapkoaaGreatFrontPlaysM3
import Derived.Lib.ConvBytes
import Derived.Shelf.SortM.Plain
import Derived.Shelf.SortM.SortNone
import Derived.Ground.SlgmProg
import Derived.Test.YtlelhlcjaapkoaaGreatProg
set_option linter.all false
set_option maxRecDepth 100000
namespace Go.Sep
section
open Go Go.RowKit Go.MapKept
structure Fnd{α:Type}[DecidableEq α](P:Program)(kt:TypeId)(enc:α→Value):Prop where
 chk:∀a w,(Instr.checkKey false 10000 kt (enc a)).run P w = .ok () w
 bits:∀a,Instr.sameBits 10000 (enc a) (enc a)=true
 find:∀(β:Type) (cV:β→Value) (es:Array MapEntry) (m:List (α×β)),zFF enc cV es m→∀a w,((Instr.findKey kt (enc a) es.toList).run P w = .ok none w∧qj a m=none∧(∀v,uH a v m=m++[(a,v)])) ∨
  ∃j x,(Instr.findKey kt (enc a) es.toList).run P w = .ok (some (j,cV x)) w∧j<m.length∧m[j]?=some (a,x)∧qj a m=some x∧(∀v,uH a v m=m.set j (a,v))
theorem zfo{α:Type}[DecidableEq α]{P:Program}{kt:TypeId}{cel:α→List Value}(h:zLa P kt cel):Fnd P kt (kyS cel):=⟨fun a w=>h.chk a false w,h.bits,fun β cV es m hr a w=>by
 rcases zH9 h hr a w with⟨g1,g2,g3,_⟩|⟨j,x,g1,g2,g3,g4,g5,_⟩
 ·exact .inl ⟨g1,g2,g3⟩
 ·exact .inr ⟨j,x,g1,g2,g3,g4,g5⟩⟩
theorem zRi{p:MapEntry→Bool}:∀{l:List MapEntry} {j:Nat} {e:MapEntry},l[j]?=some e→p e=true→(∀i x,i<j→l[i]?=some x→p x=false)→l.findIdx? p=some j
 | [],_,_,h,_,_=>by simp at h
 | a::l,0,e,h,hp,_=>by
  simp at h;subst h;simp[ziE,hp]
 | a::l,j+1,e,h,hp,hn=>by
  have h0:=hn 0 a (by omega) rfl;rw[ziE,h0];simp only[zgc,zhG];rw[zRi (j:=j) (by simpa using h) hp fun i x hi hx=>hn (i+1) x (by omega) (by simpa using hx)];rfl
section
variable{α β:Type}[DecidableEq α]{P:Program}{B:World}{Γ Δ:List zB}{kt:TypeId}{enc:α→Value}{cV:β→Value}{k:K}
def zTD(enc:α→Value)(cV:β→Value)(b:Nat)(m:List (α×β))(z:β)(a:α)(st:Int):zB:=ex fun es:Array MapEntry=>ex fun c:Nat=>fun g=>
 (stamps es c∧∃m1 j e,zFF enc cV es m1∧j<m1.length∧es[j]?=some e∧(e.born:Int)=st∧e.key=enc a∧(∀v,m1.set j (a,v)=uH a v m)∧m1=uH a ((qj a m).getD z) m)∧blk b (.map es c) g
instance(priority:=high) zez{b:Nat}{m:List (α×β)}{z:β}{a:α}{st:Int}{Γ:List zB}:Own b (zTD enc cV b m z a st::Γ) (zTD enc cV b m z a st) Γ:=⟨.refl _⟩
theorem zTD.map{m:List (α×β)}{z:β}{a:α}{st:Int}{b:Nat}{w:World}(h:Holds B (zTD enc cV b m z a st::Δ) w):Holds B (vv enc cV b (uH a ((qj a m).getD z) m)::Δ) w:=by
 obtain⟨es,h1⟩:=Holds.ex.1 h;obtain⟨c,h1⟩:=Holds.ex.1 h1;obtain⟨hst,m1,j,e,hr,hj,he,hbn,hek,hm,h2⟩:=h1.fact fun g hg=>hg.1;subst h2;exact vv.shuts ⟨hr,hst⟩ (h1.imp fun g hg=>hg.2)
theorem zIE{v:β}:∀{m:List (α×β)} {a:α},qj a m=some v→uH a v m=m
 | [],_,h=>by simp[qj] at h
 | p::m,a,h=>by
  unfold qj at h;unfold uH;split at h
  ·rename_i hp;simp only[zg4] at h;rw[if_pos hp,hp,←h]
  ·rename_i hp;rw[if_neg hp,zIE h]
theorem zOk(m:List (α×β))(a:α)(v:β):qj a (uH a v m)=some v:=by rw[zDS,if_pos rfl]
theorem zYO{T E:TypeId}{b:Nat}{m:List (α×β)}{z:β}{a:α}{k:β→Int→K}(hF:Fnd P kt enc)(hz:zCD P E (cV z))(h:∀st,HG B (zTD enc cV b m z a st::Δ) (k ((qj a m).getD z) st))(hT:P.underlying T=some (.map kt E):=by kernel_rfl)[p:Own b Γ (vv enc cV b m) Δ]:
  HG B Γ (Do2 P (Instr.mapEntry T (.map (some b)) (enc a)) (fun x y=>.tuple #[cV x,.int .i64 y]) k):=fun w hw=>by
 obtain⟨es,c,⟨hr,hst⟩,h1⟩:=vv.opens (hw.perm p.perm);have hb:=h1.block;have hlen:es.size=m.length:=by have:=congrArg List.length hr;simpa using this
 have key:∀{es' c' v st w'},(Instr.mapEntry T (.map (some b)) (enc a)).run P w = .ok (.tuple #[cV v,goInt st]) w'→v=(qj a m).getD z→(stamps es' c'∧∃m1 j e,zFF enc cV es' m1∧j<m1.length∧es'[j]?=some e∧(e.born:Int)=st∧e.key=enc a∧(∀v,m1.set j (a,v)=uH a v m)∧m1=uH a ((qj a m).getD z) m) →
   Holds B (blk b (.map es' c')::Δ) w'→Do2 P (Instr.mapEntry T (.map (some b)) (enc a)) (fun x y=>.tuple #[cV x,.int .i64 y]) k w:=fun {es' c' v st w'} h3 h4 h5 h6=>by
  subst h4;exact⟨_,st,w',h3,h st w' (Holds.ex.2 ⟨es',Holds.ex.2 ⟨c',h6.imp fun g hg=>⟨h5,hg⟩⟩⟩)⟩
 rcases hF.find β cV es m hr a w with⟨g1,g2,h2⟩|⟨j,x,g1,hj,h0,g2,h2⟩
 ·obtain⟨e1,h3⟩:=h1.zGK (P:=P) (es':=es.push { key:=enc a,val:=cV z,born:=c }) (c':=c+1);refine key (es':=es.push { key:=enc a,val:=cV z,born:=c }) (c':=c+1) (v:=z) (st:=(c:Int)) ?_ (by rw[g2];rfl) ⟨zHO hst _ _,m++[(a,z)],m.length,⟨enc a,cV z,c⟩,?_,by simp,?_,rfl,rfl,fun v=>?_,by rw[h2,g2];rfl⟩ h3
  ·unfold Instr.mapEntry;simp only[Sem.run_bind,run_underlying hT,Result.andThen,MapKept.run_getObj_map hb,hF.chk,g1,zBH hz,e1,Sem.run_pure]
  ·simp only[zFF,zht,zgT,zgd,zhp];rw[show es.toList.map (fun e=>(e.key,e.val))=_ from hr]
  ·rw[←hlen];simp
  ·rw[h2,List.set_append];simp
 ·have hes:∃e,es.toList[j]?=some e∧e.key=enc a:=by
   have:=zFW hr j;rw[h0] at this;cases he:es.toList[j]? with
   | none=>rw[he] at this;simp at this
   | some e=>
    rw[he] at this;simp only[zg1,zg4,zhj] at this;exact⟨e,rfl,this.1⟩
  obtain⟨e,he,hek⟩:=hes;have he2:es[j]?=some e:=by rw[←he,zhR]
  have hmod:(es.modify j fun e'=>{ e' with key:=enc a })=es:=by
   apply zhy;intro i;rw[zhI];split
   ·rename_i hij;subst hij;rw[he2];simp[←hek]
   ·rfl
  obtain⟨e1,h3⟩:=h1.zGK (P:=P) (es':=es) (c':=c);refine key (es':=es) (c':=c) (v:=x) (st:=(e.born:Int)) ?_ (by rw[g2];rfl) ⟨hst,m,j,e,hr,hj,he2,rfl,hek,fun v=>(h2 v).symm,by rw[g2];exact(zIE g2).symm⟩ h3;unfold Instr.mapEntry;simp only[Sem.run_bind,run_underlying hT,Result.andThen,MapKept.run_getObj_map hb,hF.chk,g1,he2,zg1,zhP,hek,Instr.keyThatStays,hF.bits,zhX,Sem.run_pure,hmod,e1]
theorem zTE{T:TypeId}{b:Nat}{m:List (α×β)}{z:β}{a:α}{v:β}{x:Value}{st:Int}(hx:x=cV v)(h:HG B (vv enc cV b (uH a v m)::Δ) k)[p:Own b Γ (zTD enc cV b m z a st) Δ]:
  HG B Γ (DoU P (Instr.entryStore T (.map (some b)) (.int .i64 st) x) k):=fun w hw=>by
 subst hx;obtain⟨es,h1⟩:=Holds.ex.1 (hw.perm p.perm);obtain⟨c,h1⟩:=Holds.ex.1 h1;obtain⟨hst,m1,j,e,hr,hj,he,hbn,hek,hm,_⟩:=h1.fact fun g hg=>hg.1;have h1:=h1.imp fun g hg=>hg.2;have hb:=h1.block;have hidx:es.findIdx? (fun e'=>((e'.born:Nat):Int)==st)=some j:=by
  rw[show es.findIdx? (fun e'=>((e'.born:Nat):Int)==st)=es.toList.findIdx? (fun e'=>((e'.born:Nat):Int)==st) by cases es;simp];refine zRi (e:=e) (by rw[←he,zhR]) (by simp[hbn]) fun i x hi hx=>?_;simp only[beq_eq_false_iff_ne,ne_eq,←hbn,Int.natCast_inj];intro hbe;have hl:j<es.toList.length:=by
   have:=(zgq.1 he).1;simpa using this
  have h1:(es.toList.map (·.born))[i]?=some e.born:=by rw[zgk,hx,←hbe];rfl
  have h2:(es.toList.map (·.born))[j]?=some e.born:=by rw[zgk,zhR,he];rfl
  have:=(List.getElem?_inj (by simp at hl ⊢;omega) hst.1).1 (h1.trans h2.symm);omega
 obtain⟨e1,h3⟩:=h1.zGK (P:=P) (es':=es.modify j fun e'=>{ e' with val:=cV v }) (c':=c);refine⟨(),_,?_,h _ (vv.shuts ⟨?_,?_⟩ h3)⟩
 ·unfold Instr.entryStore;simp only[Sem.run_bind,MapKept.run_getObj_map hb,Result.andThen,asInt,asIntOf,Sem.run_pure,hidx,e1]
 ·rw[←hm];simp only[zFF];apply zhV;intro i;have hi:=zFW hr i;simp only[zgk,zhR,zhI] at hi ⊢;by_cases hij:j=i
  ·subst hij;rw[zhO hj,he];simp[hek]
  ·rw[zhl hij,if_neg hij];exact hi
 ·have:(es.modify j fun e'=>{ e' with val:=cV v })=es.modify j fun e'=>{ e' with key:=enc a,val:=cV v }:=by
   apply zhy;intro i;simp only[zhI];split
   ·rename_i hij;subst hij;rw[he];simp[←hek]
   ·rfl
  rw[this];exact zFg hst _ _ _
end
section
variable{P:Program}{B:World}{Γ Δ:List zB}{k:K}
theorem zLO{k:(World→Prop)→K}(S:World→Prop)(h0:∀w,Holds B Γ w→S w)(h:HG B Γ (k S)):HG B Γ (yV k):=fun w hw=>⟨S,h0 w hw,h w hw⟩
theorem zF1{S:World→Prop}(h0:∀w,Holds B Γ w→S w)(h:HG B Γ k):HG B Γ (Sv S k):=fun w hw=>⟨h0 w hw,h w hw⟩
theorem zES{S:World→Prop}{a:Addr}{n:Nat}{l:List Value}{k:Array Value→K}(h0:∀w,S w→RdN w a l.toArray)(h:HG B Γ (k l.toArray))(hn:l.length=n:=by rfl):HG B Γ (xJ S a n k):=fun w hw=>⟨l.toArray,by simpa using hn,h0,h w hw⟩
theorem zDt{S:World→Prop}{α:Type}{a:Addr}{c:α→Value}{x:α}{k:α→K}(h0:∀w,S w→w.cell? a=some (c x))(h:HG B Γ (k x)):HG B Γ (LdS S a c k):=fun w hw=>⟨x,h0,h w hw⟩
theorem zcp{S:World→Prop}{α:Type}{s:Sem Value}{c:α→Value}{x:α}{k:α→K}(h0:∀w,S w→s.run P w = .ok (c x) w)(h:HG B Γ (k x)):HG B Γ (RdS P S s c k):=fun w hw=>⟨x,h0,h w hw⟩
theorem zDu{a:Addr}{b off n:Nat}{l l':List Value}{T:TypeId}{fz:Nat×Nat}{w:World}(hw:Holds B Γ w)[ad:zDk a b off][p:Own b Γ (blk b (.cells l.toArray T fz)) Δ](hl:(l.drop off).take n=l':=by rfl)(hn:l'.length=n:=by rfl):RdN w a l'.toArray:=by
 rw[ad.h];exact zPZ (xZ hw (p:=p)) hl hn
theorem zUj{α β:Type}[DecidableEq α]{kt:TypeId}{cel:α→List Value}{cV:β→Value}{T E:TypeId}{b:Nat}{m:List (α×β)}{z:β}{a:α}{w:World}(hw:Holds B Γ w)(hE:zLa P kt cel)(hz:zCD P E (cV z))(hT:P.underlying T=some (.map kt E):=by kernel_rfl)[p:Own b Γ (vv (kyS cel) cV b m) Δ]:
  (Instr.lookup T (.map (some b)) (kyS cel a) false).run P w = .ok (cV ((qj a m).getD z)) w:=by
 obtain⟨x,h1,rfl⟩:=zMf (B:=B) (Γ:=Γ) (Δ:=Δ) (P:=P) (b:=b) (m:=m) (a:=a) (k:=fun x _=>x=(qj a m).getD z) hE hz (fun w _=>rfl) hT w hw;exact h1
end
end
end Go.Sep
namespace Go.Proofs.YtlelhlcjaapkoaaGreat
section
open Go Go.Sep
def zD5(g:zx):Prop:=0≤g.node∧g.node<9∧0<g.epoch∧0<g.seq∧0≤g.tr∧g.tr<3
instance(g:zx):Decidable (zD5 g):=by unfold zD5;infer_instance
def zP5(rg:Int)(ks:List TX)(mks:List MkX):Prop:=mks.map MkX.key=ks∧∀m∈mks,0≤m.home∧m.home<rg
instance(rg:Int)(ks:List TX)(mks:List MkX):Decidable (zP5 rg ks mks):=by unfold zP5;infer_instance
abbrev zCr(rg:Int)(g:zx)(t:TxX)(mks:List MkX):Prop:=qC rg t=true∧zD5 g∧zP5 rg (vX (t.reads++t.writes)) mks
abbrev orV(g:zx)(t:TxX)(ms:Sl):List Value:=orL g.node g.epoch g.seq g.tr t ms
section
variable{B:World}{Γ Δ:List zB}{g:zx}{t:TxX}{ms:Sl}{mks:List MkX}
theorem zLP{rg:Int}{Q:Int→K}(hr:∀w,Holds B Γ w→zAn w t)(hm:∀w,Holds B Γ w→RdC w ms 3 (mks.flatMap mkL))(hl:t.reads.length≤1000∧t.writes.length≤1000∧t.ops.length≤1000)(hml:mks.length≤100000)
  (h:HG B Γ (Q (if zCr rg g t mks then 0 else 1))):HG B Γ (yK.call (orV g t ms).toArray rg Q):=fun w hw=>by
 refine zMw _ _ _ _ ?_;have hmn:ms.n=mks.length:=zAM jB (by omega) (hm w hw);refine hg hw ?_;clear hw w;unfold yK;refine zD fun o2=>?_;refine xg ?_;refine zBl [blk o2 (.cells (orV g t ms).toArray zU (0,0))] ?_;refine jq (b:=o2) (l:=orV g t ms) (l':=[.int .i64 g.node,.int .u64 g.epoch,.int .u64 g.seq]) ?_;refine jq (b:=o2) (off:=4) (l:=orV g t ms) (l':=txL t) ?_;have hkl:=zDX (t.reads++t.writes);rw[zgK] at hkl;have rest:∀(id5:Nat) (ks:Sl),HG B (blk id5 (.cells [.int .i64 g.node,.int .u64 g.epoch,.int .u64 g.seq].toArray zBq (0,0))::SlS ks (vX (t.reads++t.writes))::blk o2 (.cells (orV g t ms).toArray zU (0,0))::Γ) (yK.s1 Q rg ⟨o2,0,none⟩ ⟨id5,0,none⟩ ks):=fun id5 ks=>by
  refine yw ks fun k1 k2 k3 k4=>?_;have hkn:ks.n=(vX (t.reads++t.writes)).length:=by simpa using k1.symm
  have no:¬zCr rg g t mks→HG B Γ (Q 1):=fun hn=>by rw[if_neg hn] at h;exact h
  have S2:∀b:Bool,(b=true↔qC rg t=true∧zD5 g)→HG B (SlS ks (vX (t.reads++t.writes))::blk o2 (.cells (orV g t ms).toArray zU (0,0))::Γ) (yK.s2 Q rg ⟨o2,0,none⟩ ks b):=fun b hb=>by
   have bad:¬zCr rg g t mks→HG B (SlS ks (vX (t.reads++t.writes))::blk o2 (.cells (orV g t ms).toArray zU (0,0))::Γ) (yK.s3 Q rg ⟨o2,0,none⟩ ks true):=fun hn=>by
    unfold yK.s3;exact s_t (zA (no hn))
   unfold yK.s2;cases b
   ·refine s_t ?_;exact bad fun ho=>by have:=hb.2 ⟨ho.1,ho.2.1⟩;cases this
   ·refine s_f ?_;have hok:=hb.1 rfl;refine zh (b:=o2) (off:=9) (l:=orV g t ms) (x:=ms) ?_;by_cases hlen:mks.length=(vX (t.reads++t.writes)).length
    ·rw[show decide ((ms.n:Int)≠(ks.n:Int))=false by simp;omega];unfold yK.s3;refine s_f ?_;refine zh (b:=o2) (off:=9) (l:=orV g t ms) (x:=ms) ?_;refine zAa (α:=Int) (fun x=>∃i:Nat,x=(i:Int)∧i≤mks.length∧∀j,j<i→(mks[j]?.map MkX.key)=(vX (t.reads++t.writes))[j]?∧∀m,mks[j]?=some m→0≤m.home∧m.home<rg) (fun x=>mks.length-x.toNat) ⟨0,rfl,zgW _,by omega⟩ fun k' x hx hk'=>?_;obtain⟨i,rfl,hi,ha⟩:=hx;unfold yK.b4;refine zF (fun hc=>?_) fun hc=>?_
     ·have hil:i<mks.length:=by simp only[zgH] at hc;omega
      have hge:mks[i]?=some mks[i]:=zgG hil;have hgk:(vX (t.reads++t.writes))[i]?=some (vX (t.reads++t.writes))[i]:=zgG (by omega);generalize mks[i]=m at hge;generalize(vX (t.reads++t.writes))[i]=key at hgk;refine uT mkL jB (fun w hw=>hm w hw.drops) hge ?_;refine zD fun m9=>?_;refine yX (b:=m9) (l':=mkL m) ?_;refine xg ?_;refine zh (b:=m9) (l:=mkL m) (x:=bs m.key) ?_;refine u7 (L:=vX (t.reads++t.writes)) (j:=i) (fun w hw=>(zO (s:=ks) hw).1) hgk ?_;have S5:∀c:Bool,(c=true↔¬(m.key=key∧0≤m.home∧m.home<rg))→HG B (SlS ks (vX (t.reads++t.writes))::blk o2 (.cells (orV g t ms).toArray zU (0,0))::Γ) (yK.s5 Q k' rg ks ms (ms.n:Int) (i:Int) c):=fun c hcc=>by
       unfold yK.s5;cases c
       ·refine s_f ?_;refine qJ ?_;have hyes:m.key=key∧0≤m.home∧m.home<rg:=by
         by_cases hh:m.key=key∧0≤m.home∧m.home<rg
         ·exact hh
         ·have:=hcc.2 hh;cases this
        refine hk' _ ⟨i+1,by simp,hil,fun j hj=>?_⟩ (by omega);by_cases hji:j=i
        ·subst hji;rw[hge,hgk];exact⟨by simp[hyes.1],fun m' hm'=>by cases hm';exact hyes.2⟩
        ·exact ha j (by omega)
       ·refine s_t ?_;refine zA (no fun ho=>hcc.1 rfl ?_);have h1:=congrArg (·[i]?) ho.2.2.1;simp only[zgk,hge,hgk,zg1,zg4] at h1;exact⟨h1,ho.2.2.2 m (zgx hge)⟩
      refine zF (fun h1=>?_) fun h1=>?_
      ·refine zA (S5 true ?_);have:m.key≠key:=by simpa using h1
       simp[this]
      have hkey:m.key=key:=by simpa using h1
      refine zh (b:=m9) (off:=1) (l:=mkL m) (x:=m.home) ?_;refine zF (fun h2=>?_) fun h2=>?_
      ·refine zA (S5 true ?_);simp only[zgH] at h2;simp only[true_iff,not_and];intro _ h3;omega
      refine zh (b:=m9) (off:=1) (l:=mkL m) (x:=m.home) ?_;refine zA (S5 _ ?_);simp only[zgF,zgH] at h2 ⊢;constructor
      ·rintro h3 ⟨_,_,h4⟩;omega
      ·intro h3;by_cases h4:rg≤m.home
       ·exact h4
       ·exact absurd ⟨hkey,by omega,by omega⟩ h3
     ·have hil:i=mks.length:=by simp only[zgF] at hc;omega
      have hall:zCr rg g t mks:=by
       refine⟨hok.1,hok.2,zhV fun j=>?_,fun m hm=>?_⟩
       ·by_cases hj:j<i
        ·rw[zgk];exact(ha j hj).1
        ·rw[zhz (by simp;omega),zhz (by omega)]
       ·obtain⟨j,hj,rfl⟩:=List.mem_iff_getElem.1 hm;exact(ha j (by omega)).2 _ (zgG hj)
      rw[if_pos hall] at h;exact zA h
    ·rw[show decide ((ms.n:Int)≠(ks.n:Int))=true by simp;omega];exact bad fun ho=>hlen (by have:=congrArg List.length ho.2.2.1;simpa using this)
  have S2':∀b:Bool,(b=true↔qC rg t=true∧zD5 g)→HG B (blk id5 (.cells [.int .i64 g.node,.int .u64 g.epoch,.int .u64 g.seq].toArray zBq (0,0))::SlS ks (vX (t.reads++t.writes))::blk o2 (.cells (orV g t ms).toArray zU (0,0))::Γ) (yK.s2 Q rg ⟨o2,0,none⟩ ks b):=fun b hb=>zA (S2 b hb);unfold yK.s1;refine yC (b:=o2) (off:=4) (l:=orV g t ms) (l':=txL t) ?_;refine zRg (t:=t) (n:=rg) (fun w hw=>hr w hw.drops) ⟨by omega,by omega,by omega⟩ ?_;by_cases hrt:qC rg t=true;rotate_left
  ·rw[if_neg hrt];refine s_f ?_;exact S2' false (by simp[hrt])
  rw[if_pos hrt];refine s_t ?_;refine zh (b:=id5) (x:=g.node) ?_;refine zF (fun h1=>?_) fun h1=>?_;rotate_left
  ·exact S2' false (by simp only[zgF] at h1;simp[zD5,h1])
  simp only[zgH] at h1;refine zh (b:=id5) (x:=g.node) ?_;refine zF (fun h2=>?_) fun h2=>?_;rotate_left
  ·exact S2' false (by simp only[zgF] at h2;simp[zD5,h2])
  simp only[zgH] at h2;refine zh (b:=id5) (off:=1) (x:=g.epoch) ?_;refine zF (fun h3=>?_) fun h3=>?_;rotate_left
  ·exact S2' false (by simp only[zgF] at h3;simp[zD5,h3])
  simp only[zgH] at h3;refine zh (b:=id5) (off:=2) (x:=g.seq) ?_;refine zF (fun h4=>?_) fun h4=>?_;rotate_left
  ·exact S2' false (by simp only[zgF] at h4;simp[zD5,h4])
  simp only[zgH] at h4;refine zh (b:=o2) (off:=3) (l:=orV g t ms) (x:=g.tr) ?_;refine zF (fun h5=>?_) fun h5=>?_;rotate_left
  ·exact S2' false (by simp only[zgF] at h5;simp[zD5,h5])
  simp only[zgH] at h5;refine zh (b:=o2) (off:=3) (l:=orV g t ms) (x:=g.tr) ?_;exact S2' _ (by simp only[zgH];exact⟨fun h6=>⟨hrt,h1,h2,h3,h4,h5,h6⟩,fun h6=>h6.2.2.2.2.2.2⟩)
 refine zBS ?_ ?_
 ·refine zP3 (t:=t) (fun w hw=>(hr w hw.drops).1) (fun w hw=>(hr w hw.drops).2.1) (by omega) (by omega) fun ks=>?_;refine vS ?_;refine zD fun id5=>?_;refine vS ?_;refine yX (b:=id5) (l':=[.int .i64 g.node,.int .u64 g.epoch,.int .u64 g.seq]) ?_;exact zA (rest id5 ks)
 ·refine zD fun id5=>?_;refine vS ?_;refine zP3 (t:=t) (fun w hw=>(hr w hw.drops).1) (fun w hw=>(hr w hw.drops).2.1) (by omega) (by omega) fun ks=>?_;refine vS ?_;refine yX (b:=id5) (l':=[.int .i64 g.node,.int .u64 g.epoch,.int .u64 g.seq]) ?_;exact zA (rest id5 ks)
end
end
end Go.Proofs.YtlelhlcjaapkoaaGreat
namespace Go.Sep
section
open Go Go.RowKit
def zYP(P:Program)(T U E:TypeId):Bool:=(match P.underlying T with|some .string=>true|_=>false)&&(match P.underlying U with|some (.slice e)=>Nat.beq e E|_=>false)&&(match P.underlying E with|some (.int .u8)=>true|_=>false)
theorem zTF{P:Program}{T U E:TypeId}(h:zYP P T U E=true):P.underlying T=some .string∧P.underlying U=some (.slice E)∧P.underlying E=some (.int .u8):=by
 unfold zYP at h;simp only[zgp] at h;obtain⟨⟨h1,h2⟩,h3⟩:=h;refine⟨?_,?_,?_⟩
 ·split at h1 <;> first|assumption|cases h1
 ·split at h2
  ·rename_i e he;rw[he,Nat.eq_of_beq_eq_true h2]
  ·cases h2
 ·split at h3 <;> first|assumption|cases h3
theorem zUk{P:Program}{B:World}{Γ:List zB}{T U E:TypeId}{xs:List UInt8}{k:Sl→K}(h:∀s,s.n=xs.length→HG B (SlC E 1 s (xs.map zBI)::Γ) (k s))(hT:zYP P T U E=true:=by kernel_rfl):
  HG B Γ (Do P (convert T U (.string (bs xs))) Sl.val k):=fun w hw=>by
 obtain⟨h1,h2,h3⟩:=zTF hT;have hrun:=Go.Lib.run_convert_string_bytes w T U E (bs xs) h1 h2 h3;have hsz:(bs xs).size=xs.length:=rfl;have hcap:xs.length≤grownCap w xs.length 0 E:=by
  unfold grownCap Question.cut;simp only;omega
 refine⟨⟨some ⟨w.heap.size,0,none⟩,xs.length,grownCap w xs.length 0 E⟩,_,hrun,h _ rfl _ ?_⟩;have h4:=hw.alloc (.cells (Go.Lib.bytesCells w E (bs xs)) E ((Go.Lib.bytesCells w E (bs xs)).size,(Go.Lib.bytesCells w E (bs xs)).size+1));have h5:Holds B (blk w.heap.size (.cells (Go.Lib.bytesCells w E (bs xs)) E ((Go.Lib.bytesCells w E (bs xs)).size,(Go.Lib.bytesCells w E (bs xs)).size+1))::Γ) (Go.Lib.bytesWorld w E (bs xs)):=by
  refine h4.zTm ?_ rfl rfl rfl;apply zhy;intro j;simp only[Array.getElem?_push];by_cases hj:j=w.heap.size
  ·subst hj;rw[Go.Lib.bytesWorld_at_new,if_pos rfl]
  ·rw[if_neg hj];by_cases hl:j<w.heap.size
   ·exact Go.Lib.bytesWorld_at_old w E (bs xs) j hl
   ·have hs:=Go.Lib.bytesWorld_size w E (bs xs);rw[Array.getElem?_eq_none (by omega),Array.getElem?_eq_none (by omega)]
 have hlen:(Go.Lib.bytesCells w E (bs xs)).size=xs.length+(grownCap w xs.length 0 E-xs.length):=by
  simp[Go.Lib.bytesCells,hsz]
 refine zMU (a:=⟨w.heap.size,0,none⟩) (cs:=Go.Lib.bytesCells w E (bs xs)) rfl h5 ⟨rfl,fun i _ hi=>?_,?_,fun i hi=>?_,?_,hcap⟩
 ·simp only at hi ⊢;omega
 ·simp only;omega
 ·simp only[zgL] at hi;simp only[zg8,Go.Lib.bytesCells];rw[Array.getElem?_append_left (by simp[hsz];omega)];simp only[Array.getElem?_map,zgk,List.getElem?_toArray];rfl
 ·simp
end
end Go.Sep
namespace Go.Proofs.YtlelhlcjaapkoaaGreat
section
open Go Go.Sep Go.Sep.Bt
section
variable{B:World}{Γ Δ:List zB}{Q:Bool→K}
theorem zYQ{a b:Sl}{c:Int}{X Y:OX}(hX:X.length<100000000)(hXY:X.map Prod.fst=Y.map Prod.fst)(ha:∀w,Holds B Γ w→RdC w a 2 (X.flatMap oF))(hb:∀w,Holds B Γ w→RdC w b 2 (Y.flatMap oF))
  (hva:∀x∈X,∀w,Holds B Γ w→RdB w x.2 x.1.2) (hvb:∀x∈Y,∀w,Holds B Γ w→RdB w x.2 x.1.2) (h:HG B Γ (Q true)):HG B Γ (vo.call #[.int .i64 c,a.val] #[.int .i64 c,b.val] Q):=fun w hw=>by
 refine zNp _ _ _ _ ?_;have han:=zAM zDr (by omega) (ha w hw);have hbn:=zAM zDr (by omega) (hb w hw);have hlen:X.length=Y.length:=by have:=congrArg List.length hXY;simpa using this
 refine Sep.hg hw ?_;clear hw w;unfold vo;refine zD fun a2=>?_;refine zD fun b3=>?_
 repeat refine zT ?_
 refine s_f ?_ (by simp)
 repeat refine zT ?_
 rw[show decide ((a.n:Int)≠(b.n:Int))=false by simp;omega];unfold vo.s1;refine s_f ?_;refine zAa (α:=Int) (fun x=>∃i:Nat,x=(i:Int)∧i≤X.length) (fun x=>X.length-x.toNat) ⟨0,rfl,zgW _⟩ fun k' x hx hk'=>?_;obtain⟨i,rfl,hi⟩:=hx;unfold vo.b2
 repeat refine zT ?_
 refine zF (fun hc=>?_) fun hc=>zA h;have hil:i<X.length:=by simp only[zgH] at hc;omega
 have g1:X[i]?=some X[i]:=zgG hil;have g2:Y[i]?=some Y[i]:=zgG (by omega);have m1:X[i]∈X:=zgX hil;have m2:Y[i]∈Y:=zgX (by omega);have he:X[i].1=Y[i].1:=by
  have:=congrArg (·[i]?) hXY;simp only[zgk,g1,g2,zg1,zg4] at this;exact this
 generalize X[i]=x at g1 m1 he;generalize Y[i]=y at g2 m2 he;obtain⟨⟨x1,x2⟩,xs⟩:=x;obtain⟨⟨y1,y2⟩,ys⟩:=y;obtain⟨rfl,rfl⟩:x1=y1∧x2=y2:=by simpa using he
 repeat refine zT ?_
 refine zGO oF (c:=Value.bool) (v:=x1) zDr (fun w hw=>ha w hw.drops) g1 rfl ?_
 repeat refine zT ?_
 refine zGO oF (c:=Value.bool) (v:=x1) zDr (fun w hw=>hb w hw.drops) g2 rfl ?_;refine s_f ?_ (by simp)
 repeat refine zT ?_
 refine zCU oF (off:=1) (c:=Sl.val) (v:=xs) zDr (fun w hw=>ha w hw.drops) g1 rfl ?_;refine zUd (xs:=x2) (fun w hw=>hva _ m1 w hw.drops) ?_
 repeat refine zT ?_
 refine zCU oF (off:=1) (c:=Sl.val) (v:=ys) zDr (fun w hw=>hb w hw.drops) g2 rfl ?_;refine zUd (xs:=x2) (fun w hw=>hvb _ m2 w hw.drops) ?_;unfold vo.s3;refine s_f ?_ (by simp);refine qJ ?_;exact hk' _ ⟨i+1,by simp,hil⟩ (by omega)
end
theorem zYR(R:WX):R.flatMap zDK=(R.map fun x=>((bs x.1,x.2):zCF)).flatMap zAL:=by
 rw[List.flatMap_map];rfl
end
end Go.Proofs.YtlelhlcjaapkoaaGreat
namespace Go.Proofs.YtlelhlcjaapkoaaGreat
open Go Go.Sep Go.Sep.Bt
theorem zcq{t:TxX}{o:OpM}(h:uO t o=true):o.kind=7∨o.key∈t.reads++t.writes:=by
 unfold uO at h;split at h
 ·cases h
 split at h
 ·exact .inl (by assumption)
 split at h
 ·cases h
 ·rename_i h1;refine .inr ?_;by_cases h2:o.key∈t.writes
  ·simp[h2]
  ·by_cases h3:o.key∈t.reads
   ·simp[h3]
   ·exact absurd ⟨h2,.inl h3⟩ h1
section
variable{B:World}{Γ Δ:List zB}{q:Bool→K}
theorem zVw{R:WX}{x:List UInt8×(Rec×Sl)}{w:World}(hx:x∈R)(h:Holds B (Sep.stars (R.map wB)::Γ) w):RdB w x.2.2 x.2.1.val:=by
 obtain⟨Δ,h2⟩:=zOc hx h;exact zS2 h2
end
end Go.Proofs.YtlelhlcjaapkoaaGreat
namespace Go.Proofs.YtlelhlcjaapkoaaGreat
open Go Go.Sep Go.RowKit
end Go.Proofs.YtlelhlcjaapkoaaGreat
namespace Go.Proofs.YtlelhlcjaapkoaaGreat
section
open Go Go.Sep
def zF2(p N:Nat):zB:=ex fun xs:List UInt8=>Sep.stars [pur (xs.length≤N),zIX p xs]
abbrev zDN(kind ix:Int):Prop:=kind=1∧ix=0∨kind=2∧0≤ix∧ix<64
section
variable{B:World}{Γ Δ:List zB}{p N:Nat}{k Q:K}
theorem zTG(h:∀xs,xs.length≤N→HG B (zIX p xs::Γ) k):HG B (zF2 p N::Γ) k:=zCE fun xs=>zBL<|zHK fun h1=>h xs h1
theorem zM3{xs:List UInt8}(h1:xs.length≤N)(h:HG B (zF2 p N::Γ) k):HG B (zIX p xs::Γ) k:=fun w hw=>by
 refine h w ?_;have h3:Holds B (Sep.stars [pur (xs.length≤N),zIX p xs]::Γ) w:=Holds.flat.2 (Holds.pur.2 ⟨h1,hw⟩);exact h3.imp fun g hg=>⟨xs,hg⟩
instance(priority:=high) zeV:Sep.Own p (zF2 p N::Γ) (zF2 p N) Γ:=⟨.refl _⟩
theorem zGS{n:Int}(h0:0≤n)(hn:n<1180591620717411303424)(hN:N≤40000000)(h:HG B (zF2 p (N+10)::Γ) Q):HG B (zF2 p N::Γ) (vI.call (some ⟨p,0,none⟩) n Q):=by
 refine zTG fun xs hx=>?_;obtain⟨m,rfl⟩:∃m:Nat,n=(m:Int):=⟨n.toNat,by omega⟩
 have hnl:=zHf 9 m (by simp;omega);refine zYJ (by omega) (by omega) ?_;exact zM3 (by simp only[zgK];omega) h
theorem zM4{b:Sl}{ys:List UInt8}{L:Nat}(hr:∀w,Holds B Γ w→RdB w b ys)(hy:ys.length≤L)(hL:L≤1000000)(hN:N≤5000000)(h:HG B (zF2 p (N+10+L)::Γ) Q):HG B (zF2 p N::Γ) (zAZ.call (some ⟨p,0,none⟩) b Q):=by
 refine zTG fun xs hx=>?_;have hnl:=zHf 9 ys.length (by simp;omega);refine zaN hr (by omega) (by omega) ?_;exact zM3 (by simp only[zgK];omega) h
theorem zUl{s:Sl}{L:List Int}(hr:∀w,Holds B Γ w→RdC w s 1 (L.map (Value.int .u64)))(hL:∀x∈L,0≤x∧x<1180591620717411303424)(hl:L.length≤1000)(hN:N≤1000000)(h:HG B (zF2 p (N+10*L.length)::Γ) Q):HG B (zF2 p N::Γ) (zBK.call (some ⟨p,0,none⟩) s Q):=fun w hw=>by
 refine zNw _ _ _ _ ?_;have hsn:s.n=L.length:=by have:=(hr w hw.tail).len;simpa using this.symm
 refine hg hw ?_;clear hw w;unfold zBK;refine qH (α:=Int) (ι:=Nat) (fun x i=>x=(i:Int)∧i≤L.length) (fun x i=>zF2 p (N+10*i)::Γ) (fun x i=>L.length-i) 0 ⟨rfl,zgW _⟩ ?_;rintro k' _ i ⟨rfl,hi⟩ hk';unfold zBK.b1;refine zF (fun hb=>?_) fun hb=>?_
 ·have hil:i<L.length:=by simp only[zgH] at hb;omega
  have hge:L[i]?=some L[i]:=zgG hil;obtain⟨h1,h2⟩:=hL _ (zgX hil);generalize L[i]=x at hge h1 h2;refine je (L:=L) (fun w hw=>hr w hw.tail) hge ?_;refine zGS h1 h2 (by omega) ?_;refine qJ ?_;have:=hk' ((i:Int)+1) (i+1) ⟨by simp,hil⟩ (by omega);rw[show N+10*(i+1)=N+10*i+10 by omega] at this;exact this
 ·have hil:i=L.length:=by simp only[zgF] at hb;omega
  rw[hil];exact h
theorem zRj{s:Sl}{L:List TX}(hr:∀w,Holds B Γ w→RdC w s 1 (L.map qE))(hL:∀x∈L,x.length≤200)(hl:L.length≤1000)(hN:N≤1000000)(h:HG B (zF2 p (N+10+210*L.length)::Γ) Q):HG B (zF2 p N::Γ) (zAk.call (some ⟨p,0,none⟩) s Q):=fun w hw=>by
 refine zMz _ _ _ _ ?_;have hsn:s.n=L.length:=by have:=(hr w hw.tail).len;simpa using this.symm
 refine hg hw ?_;clear hw w;unfold zAk;refine zAw (zCk (by omega) (by omega)) ?_;refine zGS (by omega) (by omega) (by omega) ?_;refine qH (α:=Int) (ι:=Nat) (fun x i=>x=(i:Int)∧i≤L.length) (fun x i=>zF2 p (N+10+210*i)::Γ) (fun x i=>L.length-i) 0 ⟨rfl,zgW _⟩ ?_;rintro k' _ i ⟨rfl,hi⟩ hk';unfold zAk.b1;refine zF (fun hb=>?_) fun hb=>?_
 ·have hil:i<L.length:=by simp only[zgH] at hb;omega
  have hge:L[i]?=some L[i]:=zgG hil;have h1:=hL _ (zgX hil);generalize L[i]=x at hge h1;refine u7 (L:=L) (fun w hw=>hr w hw.tail) hge ?_;refine zUk (E:=qO) (xs:=x) fun b hb=>?_;refine yN p ?_;refine zM4 (L:=200) (ys:=x) (fun w hw=>(zO (s:=b) hw).1) h1 (by omega) (by omega) ?_;refine qJ ?_;have:=hk' ((i:Int)+1) (i+1) ⟨by simp,hil⟩ (by omega);rw[show N+10+210*(i+1)=N+10+210*i+10+200 by omega] at this;exact zA this
 ·have hil:i=L.length:=by simp only[zgF] at hb;omega
  rw[hil];exact h
theorem zBb(n:Int):0≤IntKind.wrap .u64 n∧IntKind.wrap .u64 n<18446744073709551616:=by
 simp only[IntKind.wrap,IntKind.signed,IntKind.bits];simp;omega
theorem zVx{n:Int}{q:Int→K}(h:∀m:Int,0≤m→m<18446744073709551616→HG B Γ (q m)):HG B Γ (zCn.call n q):=by
 refine fun w hw=>zLg _ _ _ ?_;refine hg hw ?_;clear hw w;unfold zCn;refine zAw rfl ?_;refine zSe (by decide) ?_;refine zAw rfl ?_;refine zSe (by decide) ?_;refine zAw rfl ?_;refine zAw rfl ?_;refine zAw rfl ?_;obtain⟨h1,h2⟩:=zBb ((BitVec.ofInt IntKind.u64.bits (zQT .u64 (IntKind.wrap .u64 n) 1)^^^BitVec.ofInt IntKind.u64.bits (IntKind.wrap .u64 (zIo .i64 n 63))).toNat:Int);exact h _ h1 h2
theorem zDO{rg:Int}{t:TxX}(h:qC rg t=true):(∀k∈t.reads++t.writes,k.length≤16)∧(t.reads.length+t.writes.length≤8)∧t.ops.length≤16∧∀x∈t.ops,x.1.key.length≤16∧x.1.val.length≤32:=by
 by_cases hk:t.kind=2
 ·obtain⟨ho,_⟩:=zDM h hk;unfold qC at h;split at h
  ·cases h
  rename_i hb;split at h
  ·cases h
  rename_i hkb;simp only[zAt,not_or,Nat.not_lt] at hb;refine⟨fun k hk=>?_,by omega,by rw[ho];simp,by rw[ho];simp⟩;exact Nat.le_of_not_lt fun h=>hkb (.inl ⟨k,hk,.inr h⟩)
 ·have hops:=zOi h hk;unfold qC at h;split at h
  ·cases h
  rename_i hb;split at h
  ·cases h
  rename_i hkb;split at h
  ·cases h
  rename_i hc;simp only[zAt,not_or,Nat.not_lt] at hb;simp only[not_or,Nat.not_lt] at hc;have hks:∀k∈t.reads++t.writes,k.length≤16:=fun k hk=>Nat.le_of_not_lt fun h=>hkb (.inl ⟨k,hk,.inr h⟩);refine⟨hks,by omega,hc.2.2,fun x hx=>?_⟩;have hr:=hops x hx;constructor
  ·rcases zcq hr with h7|h7
   ·unfold uO at hr;split at hr
    ·cases hr
    simp only[zgp,zgH] at hr;rw[hr.1];simp
   ·exact hks _ h7
  ·unfold uO at hr;split at hr
   ·cases hr
   ·rename_i h8;omega
theorem zYS{g:zx}{t:TxX}{ms:Sl}{mks:List MkX}{rg:Int}(hrt:qC rg t=true)(hg0:0≤g.epoch∧g.epoch<18446744073709551616)(hg1:0≤g.seq∧g.seq<18446744073709551616)(hmk:∀m∈mks,0≤m.cnt∧m.cnt<18446744073709551616)
  (hr:∀w,Holds B Γ w→zAn w t) (hm:∀w,Holds B Γ w→RdC w ms 3 (mks.flatMap mkL)) (hml:mks.length≤1000) (hN:N≤100000) (h:∀N',N'≤N+100000→HG B (zF2 p N'::Γ) Q):HG B (zF2 p N::Γ) (jH.call (some ⟨p,0,none⟩) (orV g t ms).toArray Q):=fun w hw=>by
 refine zMy _ _ _ _ ?_;have hmn:ms.n=mks.length:=zAM jB (by omega) (hm w hw.tail);have hon:t.os.n=t.ops.length:=zAM zAs (by omega) (hr w hw.tail).2.2.1;refine Sep.hg hw ?_;clear hw w;obtain⟨k1,k2,k3,k4⟩:=zDO hrt;unfold jH;refine zD fun o3=>?_;refine zh (b:=o3) (l:=orV g t ms) (x:=g.node) ?_;refine zAw rfl ?_;refine zh (b:=o3) (off:=1) (l:=orV g t ms) (x:=g.epoch) ?_;refine zh (b:=o3) (off:=2) (l:=orV g t ms) (x:=g.seq) ?_;refine zh (b:=o3) (off:=3) (l:=orV g t ms) (x:=g.tr) ?_;refine zAw rfl ?_;refine zh (b:=o3) (off:=4) (l:=orV g t ms) (x:=t.kind) ?_;refine zAw rfl ?_;refine zh (b:=o3) (off:=8) (l:=orV g t ms) (x:=t.to) ?_;refine zAw rfl ?_;refine zD fun t34=>?_;have u1:=zBb g.node;have u2:=zBb g.tr;have u3:=zBb t.kind;have u4:=zBb t.to;refine yN p ?_;refine zUl (L:=[IntKind.wrap .u64 g.node,g.epoch,g.seq,IntKind.wrap .u64 g.tr,IntKind.wrap .u64 t.kind,IntKind.wrap .u64 t.to]) (fun w hw=>?_) ?_ (by simp) (by omega) ?_
 ·have:=zBM (B:=B) (esz:=6) (k:=6) (t:=t34) (cs:=[.int .u64 (IntKind.wrap .u64 g.node),.int .u64 g.epoch,.int .u64 g.seq,.int .u64 (IntKind.wrap .u64 g.tr),.int .u64 (IntKind.wrap .u64 t.kind),.int .u64 (IntKind.wrap .u64 t.to)]) rfl w hw;exact⟨by simp,fun h=>(by cases h),fun a ha i hi=>this.at' a ha i hi⟩
 ·intro x hx;simp only[zgS,zhg,or_false] at hx;rcases hx with rfl|rfl|rfl|rfl|rfl|rfl <;> omega
 refine zA (Δ:=zF2 p (N+60)::blk o3 (.cells (orV g t ms).toArray zU (0,0))::Γ) ?_;refine zh (b:=o3) (off:=5) (l:=orV g t ms) (x:=t.rs) ?_;refine zRj (L:=t.reads) (fun w hw=>(hr w hw.drops).1) (fun x hx=>by have:=k1 x (zhF _ hx);omega) (by omega) (by omega) ?_;refine zh (b:=o3) (off:=6) (l:=orV g t ms) (x:=t.ws) ?_;refine zRj (L:=t.writes) (fun w hw=>(hr w hw.drops).2.1) (fun x hx=>by have:=k1 x (zg3 _ hx);omega) (by omega) (by omega) ?_;refine zh (b:=o3) (off:=7) (l:=orV g t ms) (x:=t.os) ?_;refine zAw (zCk (by omega) (by omega)) ?_;refine zGS (by omega) (by omega) (by omega) ?_;refine zh (b:=o3) (off:=7) (l:=orV g t ms) (x:=t.os) ?_;generalize hN1:N+60+10+210*t.reads.length+10+210*t.writes.length+10=N1;refine qH (α:=Int) (ι:=Nat) (fun x i=>x=(i:Int)∧i≤t.ops.length) (fun x i=>zF2 p (N1+440*i)::blk o3 (.cells (orV g t ms).toArray zU (0,0))::Γ) (fun x i=>t.ops.length-i) 0 ⟨rfl,zgW _⟩ ?_;rintro k' _ i ⟨rfl,hi⟩ hk';unfold jH.b1;refine zF (fun hb=>?_) fun hb=>?_
 ·have hil:i<t.ops.length:=by simp only[zgH] at hb;omega
  have hge:t.ops[i]?=some t.ops[i]:=zgG hil;have hmem:t.ops[i]∈t.ops:=zgX hil;generalize t.ops[i]=x at hge hmem;obtain⟨h1,h2⟩:=k4 x hmem;refine uT opF zAs (fun w hw=>(hr w hw.drops).2.2.1) hge ?_;refine zD fun x5=>?_;refine yX (b:=x5) (l':=opF x) ?_;refine zh (b:=x5) (l:=opF x) (x:=x.1.kind) ?_;refine zAw rfl ?_;have u5:=zBb x.1.kind;refine yN p ?_;refine zGS (by omega) (by omega) (by omega) ?_;refine zh (b:=x5) (off:=1) (l:=opF x) (x:=bs x.1.key) ?_;refine zUk (E:=qO) (xs:=x.1.key) fun b hb=>?_;refine yN p ?_;refine zM4 (L:=200) (ys:=x.1.key) (fun w hw=>(zO (s:=b) hw).1) (by omega) (by omega) (by omega) ?_;refine zh (b:=x5) (off:=2) (l:=opF x) (x:=x.2) ?_;refine zM4 (L:=200) (ys:=x.1.val) (fun w hw=>(hr w hw.drops).2.2.2 x hmem) (by omega) (by omega) (by omega) ?_;refine zh (b:=x5) (off:=3) (l:=opF x) (x:=x.1.n) ?_;refine zVx fun m hm1 hm2=>?_;refine zGS hm1 (by omega) (by omega) ?_;refine qJ ?_;have:=hk' ((i:Int)+1) (i+1) ⟨by simp,hil⟩ (by omega);rw[show N1+440*(i+1)=N1+440*i+10+10+200+10+200+10 by omega] at this;exact zA this
 ·have hil:i=t.ops.length:=by simp only[zgF] at hb;omega
  refine zh (b:=o3) (off:=9) (l:=orV g t ms) (x:=ms) ?_;rw[hil];refine zA (Δ:=zF2 p (N1+440*t.ops.length+20*0)::Γ) ?_;refine qH (α:=Int) (ι:=Nat) (fun x i=>x=(i:Int)∧i≤mks.length) (fun x i=>zF2 p (N1+440*t.ops.length+20*i)::Γ) (fun x i=>mks.length-i) 0 ⟨rfl,zgW _⟩ ?_;rintro k2 _ j ⟨rfl,hj⟩ hk2;unfold jH.b2;refine zF (fun hb2=>?_) fun hb2=>?_
  ·have hjl:j<mks.length:=by simp only[zgH] at hb2;omega
   have hge:mks[j]?=some mks[j]:=zgG hjl;obtain⟨h1,h2⟩:=hmk _ (zgX hjl);generalize mks[j]=m at hge h1 h2;refine uT mkL jB (fun w hw=>hm w hw.tail) hge ?_;refine zD fun m7=>?_;refine yX (b:=m7) (l':=mkL m) ?_;refine zh (b:=m7) (off:=1) (l:=mkL m) (x:=m.home) ?_;refine zAw rfl ?_;have u5:=zBb m.home;refine yN p ?_;refine zGS (by omega) (by omega) (by omega) ?_;refine zh (b:=m7) (off:=2) (l:=mkL m) (x:=m.cnt) ?_;refine zGS h1 (by omega) (by omega) ?_;refine qJ ?_;have:=hk2 ((j:Int)+1) (j+1) ⟨by simp,hjl⟩ (by omega);rw[show N1+440*t.ops.length+20*(j+1)=N1+440*t.ops.length+20*j+10+10 by omega] at this;exact zA this
  ·have hjl:j=mks.length:=by simp only[zgF] at hb2;omega
   exact h _ (by omega)
theorem zP6{kind ix:Int}{g:zx}{t:TxX}{ms:Sl}{mks:List MkX}{q:Sl→Int→K}(hg0:0≤g.epoch∧g.epoch<18446744073709551616)(hg1:0≤g.seq∧g.seq<18446744073709551616)(hmk:∀m∈mks,0≤m.cnt∧m.cnt<18446744073709551616)
  (hr:∀w,Holds B Γ w→zAn w t) (hm:∀w,Holds B Γ w→RdC w ms 3 (mks.flatMap mkL)) (hl:t.reads.length≤1000∧t.writes.length≤1000∧t.ops.length≤1000) (hml:mks.length≤1000)
  (hbad:¬(zDN kind ix∧zCr 3 g t mks)→HG B Γ (q ⟨none,0,0⟩ 1)) (hgood:zDN kind ix→zCr 3 g t mks→∀s,HG B Γ (q s 0)) :
  HG B Γ (yR.call (.int .i64 kind::.int .i64 ix::orV g t ms).toArray q):=by
 refine fun w hw=>zJM _ _ _ ?_;refine hg hw ?_;clear hw w;unfold yR;refine zD fun i1=>?_;have S2:∀b:Bool,(b=false↔zDN kind ix∧zCr 3 g t mks)→HG B (blk i1 (.cells (.int .i64 kind::.int .i64 ix::orV g t ms).toArray uq (0,0))::Γ) (yR.s2 q ⟨i1,0,none⟩ b):=fun b hb=>by
  unfold yR.s2;cases b
  ·obtain⟨hi,ho⟩:=hb.1 rfl;refine s_f ?_;refine zVu fun p=>?_;refine zM3 (N:=0) (by simp) ?_;refine zh (b:=i1) (x:=kind) ?_;refine zAw rfl ?_;refine zh (b:=i1) (off:=1) (x:=ix) ?_;refine zAw rfl ?_;refine zD fun t46=>?_;have u1:=zBb kind;have u2:=zBb ix;refine yN p ?_;refine zUl (L:=[IntKind.wrap .u64 kind,IntKind.wrap .u64 ix]) (fun w hw=>?_) ?_ (by simp) (by omega) ?_
   ·have:=zBM (B:=B) (esz:=2) (k:=2) (t:=t46) (cs:=[.int .u64 (IntKind.wrap .u64 kind),.int .u64 (IntKind.wrap .u64 ix)]) rfl w hw;exact⟨by simp,fun h=>(by cases h),fun a ha i hi=>this.at' a ha i hi⟩
   ·intro x hx;simp only[zgS,zhg,or_false] at hx;rcases hx with rfl|rfl <;> omega
   refine yC (b:=i1) (off:=2) (l':=orV g t ms) ?_;refine zYS ho.1 hg0 hg1 hmk (fun w hw=>hr w hw.drops) (fun w hw=>hm w hw.drops) hml (by simp) fun N' hN'=>?_;refine zTG fun xs hx=>?_;refine zaO (by simp only[zgO,zgl] at hN';omega) fun s=>?_;exact zA (hgood hi ho s)
  ·refine s_t ?_;exact zA (hbad fun hh=>by have:=hb.2 hh;cases this)
 have S1:∀b:Bool,(b=true↔zDN kind ix)→HG B (blk i1 (.cells (.int .i64 kind::.int .i64 ix::orV g t ms).toArray uq (0,0))::Γ) (yR.s1 q ⟨i1,0,none⟩ b):=fun b hb=>by
  unfold yR.s1;cases b
  ·refine s_t ?_;exact S2 true (by simp only[Bool.true_eq_false,false_iff];intro hh;have:=hb.2 hh.1;cases this)
  ·refine s_f ?_;refine yC (b:=i1) (off:=2) (l':=orV g t ms) ?_;refine zLP (rg:=3) (fun w hw=>hr w hw.drops) (fun w hw=>hm w hw.drops) hl (by omega) ?_;have hi:=hb.1 rfl;by_cases ho:zCr 3 g t mks
   ·rw[if_pos ho];exact S2 _ ⟨fun _=>⟨hi,ho⟩,fun _=>by simp⟩
   ·rw[if_neg ho];exact S2 _ ⟨fun h=>by simp at h,fun h=>absurd h.2 ho⟩
 have piece:(kind≠1∨ix≠0)→HG B (blk i1 (.cells (.int .i64 kind::.int .i64 ix::orV g t ms).toArray uq (0,0))::Γ) (Ld ⟨i1,0,none⟩ (Value.int .i64) fun t16=>Ite (decide (t16=2)) (Ld ((⟨i1,0,none⟩:Addr).add 1) (Value.int .i64) fun t20=>Ite (decide ((0:Int)≤t20)) (Ld ((⟨i1,0,none⟩:Addr).add 1) (Value.int .i64) fun t25=>yR.s1 q ⟨i1,0,none⟩ (decide (t25<64))) (yR.s1 q ⟨i1,0,none⟩ false)) (yR.s1 q ⟨i1,0,none⟩ false)):=fun hn=>by
  refine zh (b:=i1) (x:=kind) ?_;refine zF (fun h2=>?_) fun h2=>?_
  ·simp only[zgH] at h2;refine zh (b:=i1) (off:=1) (x:=ix) ?_;refine zF (fun h3=>?_) fun h3=>?_
   ·simp only[zgH] at h3;refine zh (b:=i1) (off:=1) (x:=ix) ?_;exact S1 _ (by simp only[zgH,zDN];omega)
   ·simp only[zgF] at h3;exact S1 false (by simp only[zgc,false_iff,zDN];omega)
  ·simp only[zgF] at h2;exact S1 false (by simp only[zgc,false_iff,zDN];omega)
 refine zh (b:=i1) (x:=kind) ?_;refine zF (fun h1=>?_) fun h1=>?_
 ·simp only[zgH] at h1;refine zh (b:=i1) (off:=1) (x:=ix) ?_;refine zF (fun h2=>?_) fun h2=>?_
  ·simp only[zgH] at h2;exact S1 true (by simp[zDN,h1,h2])
  ·simp only[zgF] at h2;exact piece (.inr h2)
 ·simp only[zgF] at h1;exact piece (.inl h1)
end
end
section
open Go Go.Sep Go.Sep.Bt
def wrU(n:Nat)(M:zo)(t:TxX):WM:=if(jV n M t).2.2=0 then zHY (jV n M t).1 else[]
def zDe(n:Nat)(g:zx)(t:TxX)(M:zo)(G:GM×DM):zo:=if G.2 g=true then M else zAU n M (wrU n M t)
def zFl(n:Nat)(g:zx)(t:TxX)(M:zo)(G:GM×DM):GM×DM :=
 if G.2 g=true then uE g G else
 if t.kind=2∧(jV n M t).2.2=0 then uE g (zBx n (zAU n M (wrU n M t)) (t.writes.headD []) (uE g G)) else uE g G
def zFm(n:Nat)(g:zx)(t:TxX)(M:zo)(G:GM×DM):Int:=if G.2 g=true then 112 else(jV n M t).2.2
def zKs(n:Nat)(g:zx)(t:TxX)(M:zo)(G:GM×DM):OM:=if G.2 g=true then[] else if(jV n M t).2.2=0 then(jV n M t).2.1 else[]
structure SzG(T:Nat)(G:GM×DM):Prop where
 gl:G.1.length≤T
 gs:∀p∈G.1,p.2.1.length+p.2.2.length≤T
theorem SzG.gsz{T:Nat}{G:GM×DM}(h:SzG T G):gsz G.1 T:=⟨h.gl,fun p hp=>by have:=h.gs p hp;omega⟩
theorem SzG.up{T T':Nat}{G:GM×DM}(h:SzG T G)(ht:T≤T'):SzG T' G:=⟨zhW h.gl ht,zLK h.gs ht⟩
theorem SzG.leave{T:Nat}{G:GM×DM}(g:zx)(h:SzG T G):SzG T (uE g G):=by
 obtain⟨a,b⟩:=zRV (tag:=g) (x:=G) h.gl h.gs;exact⟨a,b⟩
theorem SzG.moved{T n:Nat}{S:zo}{key:TX}{G:GM×DM}(h:SzG T G):SzG (T+1) (zBx n S key G):=by
 obtain⟨a,b⟩:=zRU (n:=n) (S:=S) (key:=key) (x:=G) h.gl h.gs;exact⟨a,zLK b (by omega)⟩
theorem SzG.enters{T n:Nat}{S:zo}{tag:zx}{L:List zCT}{G:GM×DM}(h:SzG T G):SzG (T+L.length) (zBO n S tag L G):=by
 obtain⟨a,b⟩:=zKj (n:=n) (S:=S) (tag:=tag) L (x:=G) h.gl h.gs;exact⟨a,b⟩
theorem zcr{n T:Nat}{g:zx}{t:TxX}{M:zo}{G:GM×DM}(h:SzG T G):SzG (T+1) (zFl n g t M G):=by
 unfold zFl;split
 ·exact(h.leave g).up (by omega)
 split
 ·exact((h.leave g).moved).leave g
 ·exact(h.leave g).up (by omega)
theorem zYT{n:Nat}{M:zo}{t:TxX}{rg:Int}(hrt:qC rg t=true):(jV n M t).1.length≤16∧((jV n M t).2.2=0→(jV n M t).2.1.length≤16∧∀x∈(jV n M t).1,x.1.length≤16):=by
 obtain⟨k1,k2,k3,k4⟩:=zDO hrt;obtain⟨_,g2⟩:=zaM (n:=n) (M:=M) hrt;refine⟨?_,fun hc=>⟨?_,fun x hx=>?_⟩⟩
 ·unfold jV;split
  ·have h5:=zKk (n:=n) (M:=M) (to:=t.to) (ks:=t.writes) (W:=[]);simp only[zgl] at h5;simp only;omega
  ·have h5:=zRW (n:=n) (M:=M) (xs:=t.ops) (W:=[]) (O:=[]);simp only[zgl] at h5;omega
 ·rw[(g2 hc).2];have:=zgr zRa t.ops;omega
 ·exact k1 _ (zg3 _ ((g2 hc).1 _ hx).1)
theorem zaQ{n:Nat}{M:zo}{t:TxX}{rg:Int}(hrt:qC rg t=true):(wrU n M t).length≤16∧∀x∈wrU n M t,x.1.length≤16:=by
 obtain⟨h1,h2⟩:=zYT (n:=n) (M:=M) hrt;unfold wrU;split
 ·rename_i hc;refine⟨by rw[(zEN _).length_eq];exact h1,fun x hx=>(h2 hc).2 x ((zEN _).mem_iff.1 hx)⟩
 ·simp
abbrev sdL(st l:Nat)(a b c:Sl):List Value:=[.pointer (some ⟨st,0,none⟩),.pointer (some ⟨l,0,none⟩),a.val,b.val,c.val]
section
variable{B:World}{Γ Δ:List zB}{k:K}{sd st l n:Nat}{M:zo}{G:GM×DM}{a b c:Sl}
theorem zcs{α:Type}{a:Addr}{cs:List Value}{c:α→Value}{x:α}{k:α→K}(hn:∀w,Holds B Γ w→RdN w (a.add 4) cs.toArray)(hv:cs[2]?=some (c x))(h:HG B Γ (k x)):HG B Γ (Ld ((a.add 4).add 2) c k):=fun w hw=>⟨x,by
 have:=hn w hw 2 (by have:=(zgZ.1 hv).1;simpa using this);rw[this];simpa using hv,h w hw⟩
theorem zOl{dm:DM}{M:GM}{tag:zx}{N:Nat}{Q:K}(hN:gsz M N)(hNl:N≤1000000)(h:HG B (vL l (uE tag (M,dm)).1 (uE tag (M,dm)).2::Γ) Q):
  HG B (vL l M dm::Γ) (qK.zT7 (some ⟨l,0,none⟩) (zQ tag).toArray Q):=fun w hw=>zGi _ _ _ _ (zOb hN hNl h w hw)
end
structure zRk(n:Nat)(Pm:zo→Prop)(Pt:TxX→Prop):Prop where
 dec:∀{B:World} {Γ:List zB} {sd st l:Nat} {M:zo} {G:GM×DM} {a b c:Sl} {g:zx} {t:TxX} {ms:Sl} {T:Nat} {q:Array Value→K} (hrt:qC (n:Int) t=true) (hnn:∀x∈t.ops,-9223372036854775808≤x.1.n∧x.1.n≤9223372036854775807) (hr:∀w,Holds B Γ w→zAn w t) (hsz:SzG T G) (hT:T≤900000) (hM:M.length≤10000000)
    (h:∀(os:Sl) (O:OX),O.map Prod.fst=zKs n g t M G→HG B (SlC qA 2 os (O.flatMap oF)::Sep.stars (O.map oB)::blk sd (.cells (sdL st l a b c).toArray yS (0,0))::vL l (zFl n g t M G).1 (zFl n g t M G).2::yM st n (zDe n g t M G)::Γ) (q #[.int .i64 (zFm n g t M G),os.val])),Pm M→Pt t→HG B (blk sd (.cells (sdL st l a b c).toArray yS (0,0))::vL l G.1 G.2::yM st n M::Γ) (yG.call (some ⟨sd,0,none⟩) (orV g t ms).toArray q)
 keep:∀{M:zo} {G:GM×DM} {g:zx} {t:TxX},Pm M→Pt t→qC (n:Int) t=true→Pm (zDe n g t M G)
 same:∀{a b:TxX},zC9 a b→Pt a→Pt b
end
section
open Go Go.Sep Go.Sep.Bt
section
variable{B:World}{Γ Δ:List zB}{k:K}{st sd n:Nat}{M:zo}{P:Pool}
end
end
section
open Go.Proofs Go.Shelf
def zYU:Go.Shelf.Ren:=⟨fun|5=>131|7=>199|8=>200|10=>245|11=>246|12=>247|13=>248|14=>249|15=>250|16=>251|17=>252|18=>253|19=>254|20=>255|30=>288|31=>289|32=>290|33=>291|34=>292|35=>272|40=>318|n=>n,fun|0=>0|3=>3|4=>4|5=>5|9=>9|22=>94|23=>94|25=>3|32=>291|35=>373|36=>374|41=>379|44=>382|46=>27|53=>408|57=>411|63=>430|64=>431|n=>n,fun|n=>n⟩
theorem zRl:Go.Proofs.SlLaysM.n5 Tryz.prog zYU:={
 mixed:=by kernel_rfl
 f5:=⟨Tryz.f131.name,by decide,Tryz.func131.trans (congrArg some (by kernel_rfl))⟩
 f7:=⟨Tryz.f199.name,by decide,Tryz.func199.trans (congrArg some (by kernel_rfl))⟩
 f8:=Tryz.func200.trans (congrArg some (by kernel_rfl))
 f10:=⟨Tryz.f245.name,by decide,Tryz.func245.trans (congrArg some (by kernel_rfl))⟩
 f11:=⟨Tryz.f246.name,by decide,Tryz.func246.trans (congrArg some (by kernel_rfl))⟩
 f12:=⟨Tryz.f247.name,by decide,Tryz.func247.trans (congrArg some (by kernel_rfl))⟩
 f13:=⟨Tryz.f248.name,by decide,Tryz.func248.trans (congrArg some (by kernel_rfl))⟩
 f14:=⟨Tryz.f249.name,by decide,Tryz.func249.trans (congrArg some (by kernel_rfl))⟩
 f15:=⟨Tryz.f250.name,by decide,Tryz.func250.trans (congrArg some (by kernel_rfl))⟩
 f16:=⟨Tryz.f251.name,by decide,Tryz.func251.trans (congrArg some (by kernel_rfl))⟩
 f17:=⟨Tryz.f252.name,by decide,Tryz.func252.trans (congrArg some (by kernel_rfl))⟩
 f18:=⟨Tryz.f253.name,by decide,Tryz.func253.trans (congrArg some (by kernel_rfl))⟩
 f19:=Tryz.func254.trans (congrArg some (by kernel_rfl))
 f20:=Tryz.func255.trans (congrArg some (by kernel_rfl))
 f30:=⟨Tryz.f288.name,by decide,Tryz.func288.trans (congrArg some (by kernel_rfl))⟩
 f31:=Tryz.func289.trans (congrArg some (by kernel_rfl))
 f32:=Tryz.func290.trans (congrArg some (by kernel_rfl))
 f33:=⟨Tryz.f291.name,by decide,Tryz.func291.trans (congrArg some (by kernel_rfl))⟩
 f34:=⟨Tryz.f292.name,by decide,Tryz.func292.trans (congrArg some (by kernel_rfl))⟩
 f35:=⟨Tryz.f272.name,by decide,Tryz.func272.trans (congrArg some (by kernel_rfl))⟩
 f40:=⟨Tryz.f318.name,by decide,Tryz.func318.trans (congrArg some (by kernel_rfl))⟩
 t0:=Tryz.underlying0
 a0:=Tryz.isAgg0
 z0:=Tryz.sizeOf0
 v0:=Tryz.zeroValue0
 t3:=Tryz.underlying3
 a3:=Tryz.isAgg3
 z3:=Tryz.sizeOf3
 v3:=Tryz.zeroValue3
 t4:=Tryz.underlying4
 a4:=Tryz.isAgg4
 z4:=Tryz.sizeOf4
 v4:=Tryz.zeroValue4
 t5:=Tryz.underlying5
 a5:=Tryz.isAgg5
 z5:=Tryz.sizeOf5
 v5:=Tryz.zeroValue5
 t9:=Tryz.underlying9
 a9:=Tryz.isAgg9
 z9:=Tryz.sizeOf9
 v9:=Tryz.zeroValue9
 t22:=Tryz.underlying94
 a22:=Tryz.isAgg94
 z22:=Tryz.sizeOf94
 v22:=Tryz.zeroValue94
 t23:=Tryz.underlying94
 a23:=Tryz.isAgg94
 z23:=Tryz.sizeOf94
 v23:=Tryz.zeroValue94
 t25:=Tryz.underlying3
 a25:=Tryz.isAgg3
 z25:=Tryz.sizeOf3
 v25:=Tryz.zeroValue3
 t32:=Tryz.underlying291
 a32:=Tryz.isAgg291
 z32:=Tryz.sizeOf291
 v32:=Tryz.zeroValue291
 t35:=Tryz.underlying373
 a35:=Tryz.isAgg373
 z35:=Tryz.sizeOf373
 v35:=Tryz.zeroValue373
 t36:=Tryz.underlying374
 a36:=Tryz.isAgg374
 z36:=Tryz.sizeOf374
 v36:=Tryz.zeroValue374
 t41:=Tryz.underlying379
 a41:=Tryz.isAgg379
 z41:=Tryz.sizeOf379
 v41:=Tryz.zeroValue379
 t44:=Tryz.underlying382
 a44:=Tryz.isAgg382
 z44:=Tryz.sizeOf382
 v44:=Tryz.zeroValue382
 t46:=Tryz.underlying27
 a46:=Tryz.isAgg27
 z46:=Tryz.sizeOf27
 v46:=Tryz.zeroValue27
 t53:=Tryz.underlying408
 a53:=Tryz.isAgg408
 z53:=Tryz.sizeOf408
 v53:=Tryz.zeroValue408
 t57:=Tryz.underlying411
 a57:=Tryz.isAgg411
 z57:=Tryz.sizeOf411
 v57:=Tryz.zeroValue411
 t63:=Tryz.underlying430
 a63:=Tryz.isAgg430
 z63:=Tryz.sizeOf430
 v63:=Tryz.zeroValue430
 t64:=Tryz.underlying431
 a64:=Tryz.isAgg431
 z64:=Tryz.sizeOf431
 v64:=Tryz.zeroValue431
}
end
section
open Go Go.Sep
abbrev zEd(ss:List Int):List Int:=ss.mergeSort fun x y=>decide (x≤y)
section
variable{B w:World}{Γ:List zB}
theorem zKE{s:Sl}{ss:List Int}{k:K}(hl:ss.length≤1000000)(h:Holds B (SlC zDF 1 s (ss.map (Value.int .i64))::Γ) w)(hk:∀w,Holds B (SlC zDF 1 s ((zEd ss).map (Value.int .i64))::Γ) w→k w):zBR.call s k w:=by
 have hsc:=h.zMS;have hn:ss.length=s.n:=by have:=hsc.1;simpa using this
 unfold zBR.call zI;cases ha:s.a with
 | none=>
  have hs0:s.n=0:=by have:=hsc.2.2.2 ha;omega
  have hss:ss=[]:=zgg.1 (by omega);subst hss;have h1:=AnyM.slices_Sort_int_none zRl none s.c w;have e:[Sl.val s].toArray=#[.slice none 0 s.c]:=by
   show #[Value.slice s.a s.n s.c]=_;rw[ha,hs0]
  rw[e];refine Calls.mono h1 fun e w' he=>?_;obtain⟨rfl,rfl⟩:=he;exact⟨rfl,hk _ (by simpa[zEd] using h)⟩
 | some a=>
  obtain⟨cs,fz,h,hsp,hf,hsz,hr,hlen,hc⟩:=zMT h ha;obtain⟨b,off,sp⟩:=a;simp only at hsp;subst hsp;simp only at h hf hsz hr;have hb:=h.block;have hH:Sort.Holds (Value.int .i64) w b off ss.toArray:=fun j hj=>by
   simp only[zg7] at hj;have h1:=hr j (by simpa using hj);constructor
   ·refine y9 hb ?_;rw[h1,zgk,zgG hj];simp[getElem!_pos,hj]
   ·exact zBX hb (hf _ (by omega) (by omega))
  have h1:=AnyM.slices_Sort_int zRl b off s.c ss w hH (zgq.1 hb).1 (by omega);have e:[Sl.val s].toArray=#[.slice (some ⟨b,off,none⟩) ss.length s.c]:=by
   show #[Value.slice s.a s.n s.c]=_;rw[ha,hn]
  rw[e];refine Calls.mono h1 fun e w' he=>?_;obtain⟨rfl,n,os,rfl⟩:=he;refine⟨rfl,hk _ ?_⟩;have h2:Holds B (blk b (.cells cs zDF fz)::Γ) (Sort.ahead w n):=h.drew _;have h3:=h2.setBlock (o':=.cells (Sort.putCells (Value.int .i64) off (zEd ss).toArray cs) zDF fz) rfl;have e2:({ (Sort.ahead w n) with heap:=(Sort.ahead w n).heap.setIfInBounds b (.cells (Sort.putCells (Value.int .i64) off (zEd ss).toArray cs) zDF fz) }:World)=Sort.putRow (Value.int .i64) (Sort.ahead w n) b off (zEd ss).toArray:=by
   have harr:(Sort.ahead w n).heap.setIfInBounds b (.cells (Sort.putCells (Value.int .i64) off (zEd ss).toArray cs) zDF fz)=(Sort.ahead w n).heap.modify b (Sort.onCells (Sort.putCells (Value.int .i64) off (zEd ss).toArray)):=by
    apply zhy;intro i;rw[zhI];by_cases hi:b=i
    ·subst hi;rw[if_pos rfl,h2.block,Array.getElem?_setIfInBounds_self_of_lt (zgq.1 h2.block).1];rfl
    ·rw[if_neg hi,zg5 hi]
   unfold Sort.putRow Sort.mapBlock;rw[←harr]
  rw[e2] at h3;have h4:=holds_grow h3 os;have hsl:(zEd ss).length=ss.length:=by simp[zEd]
  refine zMU (a:=⟨b,off,none⟩) ha h4 ⟨rfl,hf,?_,fun i hi=>?_,by rw[zgL,hsl];simpa using hlen,hc⟩
  ·have:(Sort.putCells (Value.int .i64) off (zEd ss).toArray cs).size=cs.size:=by simp[Sort.putCells]
   rw[this];exact hsz
  ·simp only[zgL] at hi;unfold Sort.putCells;rw[Array.getElem?_mapIdx];have hlt:off+i<cs.size:=by omega
   rw[zg0 hlt,zg1,if_pos (by simp;omega),zgk,zgG hi,zg1,Nat.add_sub_cancel_left,getElem!_pos (zEd ss).toArray i (by simpa using hi)];simp
end
end
section
open Go Go.Sep
set_option maxHeartbeats 4000000
attribute [local irreducible] G Gp Cx Tx Ex Sx Dx Ox Ax Lx Rx Fx Bx Bj Al Do Ld LdN St StN New zI Ar DoU Rd Rd2 Pu Cd Ite Fv vZ zAe uZ yH jm zCj zCt zCx Ext Dead Dr yV Sv LdS xJ RdS zDD Nn Idx zBW zCs Fld Bld Slc zDE Cat All zq jE jY zAp
instance:CB Tryz.prog 114:=⟨by kernel_rfl⟩
instance:CB Tryz.prog 206:=⟨by kernel_rfl⟩
instance:CB Tryz.prog 38:=⟨by kernel_rfl⟩
instance:CB Tryz.prog 67:=⟨by kernel_rfl⟩
instance:CB Tryz.prog 94:=⟨by kernel_rfl⟩
def uz.b2(Q:Bool→K)(o:Int→K)(d p:Addr)(a:Int): K :=
 Ld (d.add 9) Sl.val fun f=>
 Ite (decide (a<(f.n:Int)))
  (Dr<|
  Ld (d.add 9) Sl.val fun g=>
  Idx g a 3 fun i=>
  LdN i 3 fun b=>
  Ld (p.add 9) Sl.val fun j=>
  Idx j a 3 fun k=>
  LdN k 3 fun c=>
  Pu Tryz.prog (do eqGuard .neq 231 (.tmp 39) (.tmp 44) (.agg b) (.agg c);binOp .neq 231 (.agg b) (.agg c):Sem Value) Value.bool fun l=>
  Ite l
   (Q false)
   (Ar (IntKind.wrap .i64 (a+1)) fun m=>
   o m))
  (Q true)
def uz.s1(Q:Bool→K)(a b:Addr)(c:Bool): K :=
 Ite c
  (Q false)
  (zq (α:=Int) (fun X x=>uz.b2 Q X a b x) 0)
def uz(m o:Av)(Q:Bool→K): K :=
 New 54 m fun a=>
 New 54 o fun b=>
 LdN a 4 fun c=>
 LdN b 4 fun d=>
 Pu Tryz.prog (do eqGuard .neq 46 (.tmp 7) (.tmp 9) (.agg c) (.agg d);binOp .neq 46 (.agg c) (.agg d):Sem Value) Value.bool fun f=>
 Ite f
  (uz.s1 Q a b true)
  (LdN (a.add 4) 5 fun g=>
  LdN (b.add 4) 5 fun i=>
  qF.call g i fun j=>
  Ite (!j)
   (uz.s1 Q a b true)
   (Ld (a.add 9) Sl.val fun k=>
   Ld (b.add 9) Sl.val fun l=>
   uz.s1 Q a b (decide ((k.n:Int)≠(l.n:Int)))))
theorem zNx(c d Q w)(h:uz c d Q w):uz.call c d Q w:=by
 have:∀f g,LH 4 (fun x:Int=>[(2,(.pointer (some f))),(3,(.pointer (some g))),(5,.int .i64 x)]) (fun X x=>uz.b2 Q X f g x):=fun _ _=>⟨⟩
 have:JH 2 fun D=>∃a b,D [(2,(.pointer (some a))),(3,(.pointer (some b)))] (fun C=>∀i,C [(2,(.pointer (some a))),(3,(.pointer (some b))),(27,.bool i)] (uz.s1 Q a b i)):=⟨fun _ ⟨_,_,h⟩=>⟨_,_,h⟩⟩
 exact zJ 46 h Tryz.func45
def vF.s1(Q:Bool→K)(a:Bool): K :=
 Q a
def vF(k:Av)(Q:Bool→K): K :=
 New 78 k fun a=>
 LdN (a.add 2) 10 fun f=>
 xB.call f 3 fun g=>
 Ite (!g)
  (Q false)
  (Ld a (Value.int .i64) fun i=>
  Ite (decide (i=1))
   (Ld (a.add 1) (Value.int .i64) fun j=>
   Ite (decide (j=0))
    (vF.s1 Q true)
    (Ld a (Value.int .i64) fun b=>
    Ite (decide (b=2))
     (Ld (a.add 1) (Value.int .i64) fun c=>
     Ite (decide ((0:Int)≤c))
      (Ld (a.add 1) (Value.int .i64) fun d=>
      vF.s1 Q (decide (d<64)))
      (vF.s1 Q false))
     (vF.s1 Q false)))
   (Ld a (Value.int .i64) fun b=>
   Ite (decide (b=2))
    (Ld (a.add 1) (Value.int .i64) fun c=>
    Ite (decide ((0:Int)≤c))
     (Ld (a.add 1) (Value.int .i64) fun d=>
     vF.s1 Q (decide (d<64)))
     (vF.s1 Q false))
    (vF.s1 Q false)))
theorem zJO(a Q w)(h:vF a Q w):vF.call a Q w:=by
 have:JH 1000003 fun D=>D [] (fun C=>∀b,C [(2,.bool b)] (vF.s1 Q b)):=⟨fun _ h=>⟨_,_,h⟩⟩
 exact zJ 30 h Tryz.func66
def xB.s3(Q:Bool→K)(b:Int→K)(f:Int)(g:Addr)(i:Sl)(c:Int)(d:Bool): K :=
 Ite d
  (Q false)
  (Ar (IntKind.wrap .i64 (c+1)) fun a=>
  b a)
def xB.b2(Q:Bool→K)(f:Int→K)(d:Int)(b:Addr)(c:Sl)(a:Int): K :=
 Ite (decide (a<(c.n:Int)))
  (Dr<|
  Ld (b.add 9) Sl.val fun g=>
  Idx g a 3 fun i=>
  Ld i Value.string fun j=>
  Idx c a 1 fun k=>
  Ld k Value.string fun l=>
  Ite (!(j.toList==l.toList))
   (xB.s3 Q f d b c a true)
   (Ld (b.add 9) Sl.val fun m=>
   Idx m a 3 fun o=>
   Ld (o.add 1) (Value.int .i64) fun p=>
   Ite (decide (p<0))
    (xB.s3 Q f d b c a true)
    (Ld (b.add 9) Sl.val fun q=>
    Idx q a 3 fun r=>
    Ld (r.add 1) (Value.int .i64) fun s=>
    xB.s3 Q f d b c a (decide (d≤s)))))
  (Q true)
def xB.s1(Q:Bool→K)(f:Int)(a:Addr)(g:Bool): K :=
 Ite g
  (Q false)
  (LdN (a.add 4) 5 fun c=>
  qU.call c fun b=>
  Ld (a.add 9) Sl.val fun d=>
  Ite (decide ((d.n:Int)≠(b.n:Int)))
   (Q false)
   (zq (α:=Int) (fun X x=>xB.b2 Q X f a b x) 0))
def xB(o:Av)(b:Int)(Q:Bool→K): K :=
 New 54 o fun a=>
 LdN a 3 fun d=>
 New 44 #[.int .i64 0,.int .u64 0,.int .u64 0] fun c=>
 StN c 3 d<|
 LdN (a.add 4) 5 fun f=>
 zy.call f b fun g=>
 Ite (!g)
  (xB.s1 Q b a true)
  (Ld c (Value.int .i64) fun i=>
  Ite (decide (i<0))
   (xB.s1 Q b a true)
   (Ld c (Value.int .i64) fun j=>
   Ite (decide ((8:Int)<j))
    (xB.s1 Q b a true)
    (Ld (c.add 1) (Value.int .u64) fun k=>
    Ite (decide (k=0))
     (xB.s1 Q b a true)
     (Ld (c.add 2) (Value.int .u64) fun l=>
     Ite (decide (l=0))
      (xB.s1 Q b a true)
      (Ld (a.add 3) (Value.int .i64) fun m=>
      Ite (decide (m<0))
       (xB.s1 Q b a true)
       (Ld (a.add 3) (Value.int .i64) fun n=>
       xB.s1 Q b a (decide ((2:Int)<n))))))))
theorem zM5(i j Q w)(h:xB i j Q w):xB.call i j Q w:=by
 have:∀k,XH 8 k→JH 11 fun D=>∃a b c d,D [(1,.int .i64 a),(2,(.pointer (some b))),(6,Sl.val c),(7,.int .i64 d)] (fun C=>∀l,C [(1,.int .i64 a),(2,(.pointer (some b))),(6,Sl.val c),(7,.int .i64 d),(92,.bool l)] (xB.s3 Q k a b c d l)):=by intros;exact⟨fun _ ⟨_,_,_,_,h⟩=>⟨_,_,h⟩⟩
 have:∀m n o,LH 8 (fun x:Int=>[(1,.int .i64 m),(2,(.pointer (some n))),(6,Sl.val o),(7,.int .i64 x)]) (fun X x=>xB.b2 Q X m n o x):=fun _ _ _=>⟨⟩
 have:JH 3 fun D=>∃f g,D [(1,.int .i64 f),(2,(.pointer (some g)))] (fun C=>∀p,C [(1,.int .i64 f),(2,(.pointer (some g))),(47,.bool p)] (xB.s1 Q f g p)):=⟨fun _ ⟨_,_,h⟩=>⟨_,_,h⟩⟩
 exact zJ 93 h Tryz.func67
def zA1.b1(Q:Bool→K)(g:Int→K)(i:Int)(b:Sl)(a:Int): K :=
 Ite (decide (a<(b.n:Int)))
  (Idx b a 1 fun c=>
  Ld c (Value.int .i64) fun d=>
  Ite (decide (d=i))
   (Q true)
   (Ar (IntKind.wrap .i64 (a+1)) fun f=>
   g f))
  (Q false)
def zA1(d:Av)(f:Int)(Q:Bool→K): K :=
 New 54 d fun a=>
 LdN a 10 fun b=>
 qG.call b fun c=>
 zq (α:=Int) (fun X x=>zA1.b1 Q X f c x) 0
theorem zLh(a b Q w)(h:zA1 a b Q w):zA1.call a b Q w:=by
 have:∀c d,LH 3 (fun x:Int=>[(1,.int .i64 c),(5,Sl.val d),(6,.int .i64 x)]) (fun X x=>zA1.b1 Q X c d x):=fun _ _=>⟨⟩
 exact zJ 21 h Tryz.func203
def zAE.s1(Q:Bool→K)(a:Bool): K :=
 Q a
def zAE(f:Av)(Q:Bool→K): K :=
 New 54 f fun a=>
 Ld (a.add 4) (Value.int .i64) fun b=>
 Ite (decide (b=1))
  (LdN a 10 fun c=>
  qG.call c fun d=>
  zAE.s1 Q (decide ((d.n:Int)=1)))
  (zAE.s1 Q false)
theorem zLi(a Q w)(h:zAE a Q w):zAE.call a Q w:=by
 have:JH 1000001 fun D=>D [] (fun C=>∀b,C [(2,.bool b)] (zAE.s1 Q b)):=⟨fun _ h=>⟨_,_,h⟩⟩
 exact zJ 13 h Tryz.func204
def qG.s2(Q:Sl→K)(b:Sl→Int→K)(f:Addr)(c:Sl)(d:Int): K :=
 Ar (IntKind.wrap .i64 (d+1)) fun a=>
 b c a
def qG.s4(Q:Sl→K)(f:Sl→Int→K)(b:Bool→Int→K)(g:Addr)(i:Sl)(j k:Int)(c:Bool)(d:Int): K :=
 Ar (IntKind.wrap .i64 (d+1)) fun a=>
 b c a
def qG.s6(Q:Sl→K)(n:Sl→Int→K)(s:Bool→Int→K)(o:Int→K)(p:Addr)(a:Sl)(q b:Int)(r:Bool): K :=
 Ite r
  (Idx a b 1 fun c=>
  Ld c (Value.int .i64) fun d=>
  Ar (IntKind.wrap .i64 (b-1)) fun f=>
  Idx a f 1 fun g=>
  Ld g (Value.int .i64) fun i=>
  Idx a b 1 fun j=>
  St j (.int .i64 i)<|
  Ar (IntKind.wrap .i64 (b-1)) fun k=>
  Idx a k 1 fun l=>
  St l (.int .i64 d)<|
  Ar (IntKind.wrap .i64 (b-1)) fun m=>
  o m)
  (qG.s2 Q n p a q)
def qG.b5(Q:Sl→K)(c:Sl→Int→K)(d:Bool→Int→K)(f:Int→K)(g:Addr)(b:Sl)(i a:Int): K :=
 Dr<|
 Ite (decide ((0:Int)<a))
  (Idx b a 1 fun j=>
  Ld j (Value.int .i64) fun k=>
  Ar (IntKind.wrap .i64 (a-1)) fun l=>
  Idx b l 1 fun m=>
  Ld m (Value.int .i64) fun n=>
  qG.s6 Q c d f g b i a (decide (k<n)))
  (qG.s6 Q c d f g b i a false)
def qG.b3(Q:Sl→K)(b:Sl→Int→K)(i:Bool→Int→K)(c:Addr)(a:Sl)(d f:Int)(k:Bool)(g:Int): K :=
 Ite (decide (g<(a.n:Int)))
  (Ite k
   (qG.s4 Q b i c a d f true g)
   (Idx a g 1 fun l=>
   Ld l (Value.int .i64) fun m=>
   qG.s4 Q b i c a d f (decide (m=f)) g))
  (Ite k
   (qG.s2 Q b c a d)
   (New 3 #[.int .i64 f] fun o=>
   Do Tryz.prog (Builtin.append_ #[94,94] 94 #[Sl.val a,(Sl.val (Sl.mk (some o) 1 1))]) Sl.val fun j=>
   Ar (IntKind.wrap .i64 ((j.n:Int)-1)) fun p=>
   zq (α:=Int) (fun X x=>qG.b5 Q b i X c j d x) p))
def qG.b1(Q:Sl→K)(m:Sl→Int→K)(a:Addr)(b:Sl)(c:Int): K :=
 Ld (a.add 9) Sl.val fun d=>
 Ite (decide (c<(d.n:Int)))
  (Ld (a.add 9) Sl.val fun f=>
  Idx f c 3 fun g=>
  Ld (g.add 1) (Value.int .i64) fun i=>
  zq (α:=Bool×Int) (fun X x=>qG.b3 Q m (fun j k=>X (j,k)) a b c i x.1 x.2) (false,0))
  (Ite (decide ((b.n:Int)=0))
   (New 3 #[.int .i64 0] fun l=>
   Q (Sl.mk (some l) 1 1))
   (Q b))
def qG(f:Av)(Q:Sl→K): K :=
 New 54 f fun a=>
 New 3 #[] fun b=>
 zq (α:=Sl×Int) (fun X x=>qG.b1 Q (fun c d=>X (c,d)) a x.1 x.2) ((Sl.mk (some b) 0 0),0)
theorem zM6(t Q w)(h:qG t Q w):qG.call t Q w:=by
 have:∀a,XH 3 a→JH 4 fun D=>∃i j,D [(1,(.pointer (some i))),(4,.int .i64 j)] (fun C=>∀u,C [(1,(.pointer (some i))),(3,Sl.val u),(4,.int .i64 j)] (qG.s2 Q (fun b c=>a (b,c)) i u j)):=by intros;exact⟨fun _ ⟨_,_,h⟩=>⟨_,_,h⟩⟩
 have:∀a,XH 3 a→∀d,XH 7 d→JH 8 fun D=>∃k l m n o,D [(1,(.pointer (some k))),(3,Sl.val l),(4,.int .i64 m),(5,.int .i64 n),(7,.int .i64 o)] (fun C=>∀v,C [(1,(.pointer (some k))),(3,Sl.val l),(4,.int .i64 m),(5,.int .i64 n),(6,.bool v),(7,.int .i64 o)] (qG.s4 Q (fun b c=>a (b,c)) (fun f g=>d (f,g)) k l m n v o)):=by intros;exact⟨fun _ ⟨_,_,_,_,_,h⟩=>⟨_,_,h⟩⟩
 have:∀a,XH 3 a→∀d,XH 7 d→∀y,XH 13 y→JH 1000013 fun D=>∃p q r s,D [(1,(.pointer (some p))),(3,Sl.val q),(4,.int .i64 r),(8,.int .i64 s)] (fun C=>∀z,C [(1,(.pointer (some p))),(3,Sl.val q),(4,.int .i64 r),(8,.int .i64 s),(60,.bool z)] (qG.s6 Q (fun b c=>a (b,c)) (fun f g=>d (f,g)) y p q r s z)):=by intros;exact⟨fun _ ⟨_,_,_,_,h⟩=>⟨_,_,h⟩⟩
 have:∀a,XH 3 a→∀d,XH 7 d→∀aa ab ac,LH 13 (fun x:Int=>[(1,(.pointer (some aa))),(3,Sl.val ab),(4,.int .i64 ac),(8,.int .i64 x)]) (fun X x=>qG.b5 Q (fun b c=>a (b,c)) (fun f g=>d (f,g)) X aa ab ac x):=by intros;exact⟨⟩
 have:∀a,XH 3 a→∀ad ae af ag,LH 7 (fun x:Bool×Int=>[(1,(.pointer (some ad))),(3,Sl.val ae),(4,.int .i64 af),(5,.int .i64 ag),(6,.bool x.1),(7,.int .i64 x.2)]) (fun X x=>qG.b3 Q (fun b c=>a (b,c)) (fun f g=>X (f,g)) ad ae af ag x.1 x.2):=by intros;exact⟨⟩
 have:∀ah,LH 3 (fun x:Sl×Int=>[(1,(.pointer (some ah))),(3,Sl.val x.1),(4,.int .i64 x.2)]) (fun X x=>qG.b1 Q (fun b c=>X (b,c)) ah x.1 x.2):=fun _=>⟨⟩
 exact zJ 85 h Tryz.func206
end
section
open Go Go.Sep
set_option maxHeartbeats 4000000
attribute [local irreducible] Do2
attribute [local irreducible] G Gp Cx Tx Ex Sx Dx Ox Ax Lx Rx Fx Bx Bj Al Do Ld LdN St StN New zI Ar DoU Rd Rd2 Pu Cd Ite Fv vZ zAe uZ yH jm zCj zCt zCx Ext Dead Dr yV Sv LdS xJ RdS zDD Nn Idx zBW zCs Fld Bld Slc zDE Cat All zq jE jY zAp
instance:CB Tryz.prog 122:=⟨by kernel_rfl⟩
instance:CB Tryz.prog 123:=⟨by kernel_rfl⟩
instance:CB Tryz.prog 171:=⟨by kernel_rfl⟩
instance:CB Tryz.prog 172:=⟨by kernel_rfl⟩
instance:CB Tryz.prog 225:=⟨by kernel_rfl⟩
instance:CB Tryz.prog 226:=⟨by kernel_rfl⟩
instance:CB Tryz.prog 227:=⟨by kernel_rfl⟩
instance:CB Tryz.prog 95:=⟨by kernel_rfl⟩
instance:FT Tryz.prog 227 0 0 1:=⟨by kernel_rfl⟩
instance:FT Tryz.prog 227 1 1 1:=⟨by kernel_rfl⟩
instance:FT Tryz.prog 227 2 2 1:=⟨by kernel_rfl⟩
instance:PLT Tryz.prog 227 [(0,1),(1,1),(2,1)]:=⟨_,Tryz.underlying227,by kernel_rfl⟩
instance:ZT Tryz.prog 227 (.agg #[(.int .i64 0),(.int .i64 0),(.map none)]):=⟨Tryz.t227,by kernel_rfl,by kernel_rfl⟩
def zBf(c:Int)(Q:Pt→K): K :=
 Do Tryz.prog (Instr.makeMap 223 none) Value.map fun a=>
 New 227 #[.int .i64 c,(.int .i64 (-1)),.map a] fun b=>
 Q (some b)
theorem zF3(a Q w)(h:zBf a Q w):zBf.call a Q w:=by
 exact zJ 7 h Tryz.func41
def yh.s2(Q:Bool→K)(b c:Addr)(d:Bool): K :=
 Ite d
  (Ld (c.add 1) (Value.int .i64) fun a=>
  St (b.add 1) (.int .i64 a)<|
  Q true)
  (Q false)
def yh.s1(Q:Bool→K)(b a:Addr)(j k:Bool): K :=
 Ite k
  (LdN (a.add 2) 4 fun c=>
  zAI.call (some b) c fun d=>
  Q d)
  (Dr<|
  Ld a (Value.int .i64) fun f=>
  Ite (decide (f=2))
   (Ite (!j)
    (Ld (a.add 1) (Value.int .i64) fun g=>
    Ld (b.add 1) (Value.int .i64) fun i=>
    yh.s2 Q b a (decide (i<g)))
    (yh.s2 Q b a false))
   (yh.s2 Q b a false))
def yh(l:Pt)(m:Av)(Q:Bool→K): K :=
 New 78 m fun a=>
 Dr<|yV fun S=>
 Nn l fun b=>
 xJ S (a.add 2) 10 fun d=>
 LdS S b (Value.int .i64) fun f=>
 vJ.call d fun g=>
 Sv S<|
 uJ.call g f fun i=>
 Ite (!i)
  (Q false)
  (LdN (a.add 2) 10 fun j=>
  zAC.call j fun c=>
  Ld a (Value.int .i64) fun k=>
  Ite (decide (k=1))
   (yh.s1 Q b a c c)
   (yh.s1 Q b a c false))
theorem zGp(g i Q w)(h:yh g i Q w):yh.call g i Q w:=by
 have:JH 7 fun D=>∃b c,D [(0,(.pointer (some b))),(3,(.pointer (some c)))] (fun C=>∀j,C [(0,(.pointer (some b))),(3,(.pointer (some c))),(30,.bool j)] (yh.s2 Q b c j)):=⟨fun _ ⟨_,_,h⟩=>⟨_,_,h⟩⟩
 have:JH 5 fun D=>∃d f,D [(0,(.pointer (some d))),(3,(.pointer (some f)))] (fun C=>∀k l,C [(0,(.pointer (some d))),(3,(.pointer (some f))),(5,.bool k),(18,.bool l)] (yh.s1 Q d f k l)):=⟨fun _ ⟨_,_,h⟩=>⟨_,_,h⟩⟩
 have:DH 1 2 [7] (.s [0,3,4,5,1,6] (.a [(2,1,.a [(7,0,.s [8] .e)])])):=⟨⟩
 exact zJ 52 h Tryz.func57
def zAI(m:Pt)(n:Av)(Q:Bool→K): K :=
 New 46 n fun b=>
 Dr<|yV fun S=>
 Nn m fun c=>
 LdS S (c.add 2) Value.map fun a=>
 xJ S b 4 fun d=>
 RdS Tryz.prog S (Instr.lookup 223 (.map a) (.agg d) false) (Value.int .i64) fun f=>
 Ar (IntKind.wrap .i64 (f+1)) fun g=>
 Do2 Tryz.prog (Instr.mapEntry 223 (.map a) (.agg d)) (fun x y=>.tuple #[(Value.int .i64) x,.int .i64 y]) fun o i=>
 Sv S<|
 DoU Tryz.prog (Instr.entryStore 223 (.map a) (.int .i64 i) (.int .i64 g))<|
 Dr<|
 Ld (c.add 2) Value.map fun j=>
 LdN b 4 fun k=>
 Rd Tryz.prog (Instr.lookup 223 (.map j) (.agg k) false) (Value.int .i64) fun l=>
 Q (decide (l=1))
theorem zGT(b c Q w)(h:zAI b c Q w):zAI.call b c Q w:=by
 have:DH 1 2 [9] (.s [0,1,2,3,4,5,6] (.a [(7,1,.s [8] (.a [(9,0,.e)]))])):=⟨⟩
 exact zJ 21 h Tryz.func123
end
section
open Go Go.Sep
set_option maxHeartbeats 4000000
attribute [local irreducible] G Gp Cx Tx Ex Sx Dx Ox Ax Lx Rx Fx Bx Bj Al Do Ld LdN St StN New zI Ar DoU Rd Rd2 Pu Cd Ite Fv vZ zAe uZ yH jm zCj zCt zCx Ext Dead Dr yV Sv LdS xJ RdS zDD Nn Idx zBW zCs Fld Bld Slc zDE Cat All zq jE jY zAp
instance:CB Tryz.prog 221:=⟨by kernel_rfl⟩
instance:CB Tryz.prog 268:=⟨by kernel_rfl⟩
instance:CB Tryz.prog 269:=⟨by kernel_rfl⟩
instance:CT Tryz.prog 38:=⟨by kernel_rfl⟩
instance:PLT Tryz.prog 78 [(0,1),(1,1),(2,10)]:=⟨_,Tryz.underlying78,by kernel_rfl⟩
instance:SLT Tryz.prog 38 54 10:=⟨by kernel_rfl⟩
instance:SZ Tryz.prog 78 12:=⟨by kernel_rfl⟩
instance:ZT Tryz.prog 4 (.bool false):=⟨Tryz.t4,by kernel_rfl,by kernel_rfl⟩
instance:ZT Tryz.prog 78 (.agg #[(.int .i64 0),(.int .i64 0),(.int .i64 0),(.int .u64 0),(.int .u64 0),(.int .i64 0),(.int .i64 0),(Sl.val ⟨none,0,0⟩),(Sl.val ⟨none,0,0⟩),(Sl.val ⟨none,0,0⟩),(.int .i64 0),(Sl.val ⟨none,0,0⟩)]):=⟨Tryz.t78,by kernel_rfl,by kernel_rfl⟩
def jZ.s2(Q:Sl→K)(b:Sl→Int→K)(f:Int)(c g:Sl)(i d:Int): K :=
 Ar (IntKind.wrap .i64 (d+1)) fun a=>
 b c a
def jZ.b1(Q:Sl→K)(j:Sl→Int→K)(c:Int)(d:Sl)(f:Int)(g:Sl)(a:Int): K :=
 Ite (decide (a<f))
  (Idx d a 3 fun k=>
  LdN k 3 fun l=>
  New 231 #[(.string ⟨#[]⟩),.int .i64 0,.int .u64 0] fun b=>
  StN b 3 l<|
  Ld (b.add 1) (Value.int .i64) fun m=>
  Ite (decide (m=c))
   (LdN b 3 fun n=>
   Bld #[(.string ⟨#[]⟩),.int .i64 0,.int .u64 0] (fun i=>some (i*3,3)) [(0,.agg n)] fun o=>
   New 231 o fun p=>
   Do Tryz.prog (Builtin.append_ #[52,52] 52 #[Sl.val g,(Sl.val (Sl.mk (some p) 1 1))]) Sl.val fun q=>
   jZ.s2 Q j c q d f a)
   (jZ.s2 Q j c g d f a))
  (Q g)
def jZ(f:Av)(g:Int)(Q:Sl→K): K :=
 New 54 f fun b=>
 Ld (b.add 9) Sl.val fun a=>
 zq (α:=Sl×Int) (fun X x=>jZ.b1 Q (fun c d=>X (c,d)) g a (a.n:Int) x.1 x.2) ((Sl.mk none 0 0),0)
theorem zNy(i j Q w)(h:jZ i j Q w):jZ.call i j Q w:=by
 have:∀k,XH 2 k→JH 6 fun D=>∃c d f g,D [(1,.int .i64 c),(8,Sl.val d),(9,.int .i64 f),(10,.int .i64 g)] (fun C=>∀l,C [(1,.int .i64 c),(4,Sl.val l),(8,Sl.val d),(9,.int .i64 f),(10,.int .i64 g)] (jZ.s2 Q (fun a b=>k (a,b)) c l d f g)):=by intros;exact⟨fun _ ⟨_,_,_,_,h⟩=>⟨_,_,h⟩⟩
 have:∀m n o,LH 2 (fun x:Sl×Int=>[(1,.int .i64 m),(4,Sl.val x.1),(8,Sl.val n),(9,.int .i64 o),(10,.int .i64 x.2)]) (fun X x=>jZ.b1 Q (fun a b=>X (a,b)) m n o x.1 x.2):=fun _ _ _=>⟨⟩
 exact zJ 24 h Tryz.func61
def zA6.b1(Q:Sl→K)(t:Sl→Int→K)(u:Pt)(c d:Sl)(a:Int): K :=
 Ite (decide (a<(c.n:Int)))
  (Idx c a 1 fun f=>
  Ld f Value.string fun g=>
  qo.call u g fun j=>
  New 208 #[.bool false,Sl.val ⟨none,0,0⟩,.int .i64 0,.int .u64 0] fun b=>
  StN b 4 j<|
  Dr<|
  Idx c a 1 fun k=>
  Ld k Value.string fun l=>
  Ld (b.add 2) (Value.int .i64) fun m=>
  Ld (b.add 3) (Value.int .u64) fun o=>
  Bld #[(.string ⟨#[]⟩),.int .i64 0,.int .u64 0] (fun i=>some (i*3,3)) [(0,(.agg #[.string l,.int .i64 m,.int .u64 o]))] fun p=>
  New 231 p fun q=>
  Do Tryz.prog (Builtin.append_ #[52,52] 52 #[Sl.val d,(Sl.val (Sl.mk (some q) 1 1))]) Sl.val fun r=>
  Ar (IntKind.wrap .i64 (a+1)) fun s=>
  t r s)
  (Q d)
def zA6(i:Pt)(j:Av)(Q:Sl→K): K :=
 New 42 j fun a=>
 New 231 #[] fun b=>
 LdN a 5 fun c=>
 qU.call c fun d=>
 zq (α:=Sl×Int) (fun X x=>zA6.b1 Q (fun f g=>X (f,g)) i d x.1 x.2) ((Sl.mk (some b) 0 0),0)
theorem zM7(b c Q w)(h:zA6 b c Q w):zA6.call b c Q w:=by
 have:DH 6 1 [10,11] (.s [0,1,2,3,5,7,4,6,8,9] (.a [(10,0,.a [(11,0,.s [12] .e)])])):=⟨⟩
 have:∀d f,LH 3 (fun x:Sl×Int=>[(0,.pointer d),(5,Sl.val x.1),(6,Sl.val f),(7,.int .i64 x.2)]) (fun X x=>zA6.b1 Q (fun g i=>X (g,i)) d f x.1 x.2):=fun _ _=>⟨⟩
 exact zJ 37 h Tryz.func46
def zAR.s1(Q:Int→K)(a:Bool): K :=
 Ite a
  (Q 2)
  (Q 0)
def zAR(k l:Av)(Q:Int→K): K :=
 New 208 k fun a=>
 New 231 l fun b=>
 Ld (b.add 2) (Value.int .u64) fun c=>
 Ld (a.add 3) (Value.int .u64) fun d=>
 Ite (decide (d<c))
  (Q 1)
  (Ld (b.add 2) (Value.int .u64) fun f=>
  Ld (a.add 3) (Value.int .u64) fun g=>
  Ite (decide (f<g))
   (zAR.s1 Q true)
   (Ld (b.add 1) (Value.int .i64) fun i=>
   Ld (a.add 2) (Value.int .i64) fun j=>
   zAR.s1 Q (decide (i≠j))))
theorem zNz(a b Q w)(h:zAR a b Q w):zAR.call a b Q w:=by
 have:JH 4 fun D=>D [] (fun C=>∀c,C [(21,.bool c)] (zAR.s1 Q c)):=⟨fun _ h=>⟨_,_,h⟩⟩
 exact zJ 22 h Tryz.func148
instance:AT Tryz.prog 267 7:=⟨by kernel_rfl⟩
instance:CB Tryz.prog 147:=⟨by kernel_rfl⟩
instance:CB Tryz.prog 148:=⟨by kernel_rfl⟩
instance:CB Tryz.prog 149:=⟨by kernel_rfl⟩
instance:CB Tryz.prog 205:=⟨by kernel_rfl⟩
instance:CB Tryz.prog 26:=⟨by kernel_rfl⟩
instance:CB Tryz.prog 78:=⟨by kernel_rfl⟩
instance:CB Tryz.prog 79:=⟨by kernel_rfl⟩
instance:CB Tryz.prog 80:=⟨by kernel_rfl⟩
instance:CT Tryz.prog 134:=⟨by kernel_rfl⟩
instance:FT Tryz.prog 136 0 0 1:=⟨by kernel_rfl⟩
instance:FT Tryz.prog 136 1 1 1:=⟨by kernel_rfl⟩
instance:FT Tryz.prog 136 2 2 1:=⟨by kernel_rfl⟩
instance:FT Tryz.prog 267 0 0 4:=⟨by kernel_rfl⟩
instance:FT Tryz.prog 267 1 4 3:=⟨by kernel_rfl⟩
instance:PLT Tryz.prog 267 [(0,4),(4,3)]:=⟨_,Tryz.underlying267,by kernel_rfl⟩
instance:SLT Tryz.prog 134 267 7:=⟨by kernel_rfl⟩
instance:SZ Tryz.prog 134 1:=⟨by kernel_rfl⟩
instance:SZ Tryz.prog 267 7:=⟨by kernel_rfl⟩
instance:ZT Tryz.prog 267 (.agg #[(.int .i64 0),(.int .u64 0),(.int .u64 0),(.int .i64 0),(.string ⟨#[]⟩),(.int .i64 0),(.int .u64 0)]):=⟨Tryz.t267,by kernel_rfl,by kernel_rfl⟩
def yB.s2(Q:Sl→K)(b:Sl→Int→K)(f:Pt)(g:Addr)(c i:Sl)(d:Int): K :=
 Ar (IntKind.wrap .i64 (d+1)) fun a=>
 b c a
def yB.s4(Q:Sl→K)(f b:Sl→Int→K)(g i:Addr)(c j:Sl)(k:Int)(l:Sl)(d:Int): K :=
 Ar (IntKind.wrap .i64 (d+1)) fun a=>
 b c a
def yB.b3(Q:Sl→K)(f n:Sl→Int→K)(g c:Addr)(j:Sl)(k:Int)(a d:Sl)(b:Int): K :=
 Dr<|
 Idx a b 4 fun o=>
 LdN o 4 fun l=>
 LdN c 4 fun m=>
 Pu Tryz.prog (do eqGuard .neq 46 (.tmp 35) (.tmp 36) (.agg l) (.agg m);binOp .neq 46 (.agg l) (.agg m):Sem Value) Value.bool fun p=>
 Ite p
  (Idx a b 4 fun q=>
  LdN q 4 fun r=>
  zBJ.call d r fun s=>
  Ite (!s)
   (Idx a b 4 fun t=>
   LdN t 4 fun u=>
   Bld #[.int .i64 0,.int .u64 0,.int .u64 0,.int .i64 0] (fun i=>some (i*4,4)) [(0,.agg u)] fun v=>
   New 46 v fun x=>
   Do Tryz.prog (Builtin.append_ #[63,63] 63 #[Sl.val d,(Sl.val (Sl.mk (some x) 1 1))]) Sl.val fun y=>
   yB.s4 Q f n g c y j k a b)
   (yB.s4 Q f n g c d j k a b))
  (yB.s2 Q f (some g) c d j k)
def yB.b1(Q:Sl→K)(i:Sl→Int→K)(r:Pt)(d:Addr)(a f:Sl)(b:Int): K :=
 Ite (decide (b<(a.n:Int)))
  (Dr<|
  Nn r fun c=>
  Idx a b 1 fun j=>
  Ld c Sl.val fun k=>
  Ld j Value.string fun l=>
  jG.call k l fun g=>
  LdN d 4 fun m=>
  zBJ.call g m fun o=>
  Ite (!o)
   (yB.s2 Q i (some c) d f a b)
   (zq (α:=Sl×Int) (fun X x=>yB.b3 Q i (fun p q=>X (p,q)) c d a b g x.1 x.2) (f,0)))
  (Q f)
def yB(a:Pt)(i:Av)(Q:Sl→K): K :=
 New 46 i fun b=>
 New 46 #[] fun c=>
 xM.call a fun d=>
 zq (α:=Sl×Int) (fun X x=>yB.b1 Q (fun f g=>X (f,g)) a b d x.1 x.2) ((Sl.mk (some c) 0 0),0)
theorem zHh(t u Q w)(h:yB t u Q w):yB.call t u Q w:=by
 have:∀b,XH 3 b→JH 4 fun D=>∃i j k l,D [(0,.pointer i),(3,(.pointer (some j))),(6,Sl.val k),(7,.int .i64 l)] (fun C=>∀v,C [(0,.pointer i),(3,(.pointer (some j))),(5,Sl.val v),(6,Sl.val k),(7,.int .i64 l)] (yB.s2 Q (fun c d=>b (c,d)) i j v k l)):=by intros;exact⟨fun _ ⟨_,_,_,_,h⟩=>⟨_,_,h⟩⟩
 have:∀b,XH 3 b→∀y,XH 8 y→JH 9 fun D=>∃m n o p q r,D [(0,(.pointer (some m))),(3,(.pointer (some n))),(6,Sl.val o),(7,.int .i64 p),(8,Sl.val q),(9,.int .i64 r)] (fun C=>∀z,C [(0,(.pointer (some m))),(3,(.pointer (some n))),(5,Sl.val z),(6,Sl.val o),(7,.int .i64 p),(8,Sl.val q),(9,.int .i64 r)] (yB.s4 Q (fun c d=>b (c,d)) (fun f g=>y (f,g)) m n z o p q r)):=by intros;exact⟨fun _ ⟨_,_,_,_,_,_,h⟩=>⟨_,_,h⟩⟩
 have:∀b,XH 3 b→∀aa ab ac ad ae,LH 8 (fun x:Sl×Int=>[(0,(.pointer (some aa))),(3,(.pointer (some ab))),(5,Sl.val x.1),(6,Sl.val ac),(7,.int .i64 ad),(8,Sl.val ae),(9,.int .i64 x.2)]) (fun X x=>yB.b3 Q (fun c d=>b (c,d)) (fun f g=>X (f,g)) aa ab ac ad ae x.1 x.2):=by intros;exact⟨⟩
 have:DH 5 1 [8] (.s [0,1,2,4,5,6,3,7] (.a [(8,0,.s [9] .e)])):=⟨⟩
 have:∀af ag ah,LH 3 (fun x:Sl×Int=>[(0,.pointer af),(3,(.pointer (some ag))),(5,Sl.val x.1),(6,Sl.val ah),(7,.int .i64 x.2)]) (fun X x=>yB.b1 Q (fun c d=>X (c,d)) af ag ah x.1 x.2):=fun _ _ _=>⟨⟩
 exact zJ 55 h Tryz.func26
def zk.s2(Q:K)(b:Int→K)(d f:Pt)(g:Sl)(i:Addr)(c:Int): K :=
 Ar (IntKind.wrap .i64 (c+1)) fun a=>
 b a
def zk.s3(Q:K)(c:Int→K)(s b:Pt)(d:Sl)(a:Addr)(f:Int)(v:Addr)(al:Bool): K :=
 Ite al
  (zk.s2 Q c s b d a f)
  (Dr<|yV fun S=>
  LdS S v Value.string fun ac=>
  xJ S v 3 fun ad=>
  qo.call b ac fun ae=>
  Sv S<|
  zAR.call ae ad fun ab=>
  Ite (decide (ab=0))
   (Dr<|yV fun S=>
   Nn s fun g=>
   LdS S g Sl.val fun x=>
   xJ S a 4 fun af=>
   xJ S v 3 fun ag=>
   Bld #[.int .i64 0,.int .u64 0,.int .u64 0,.int .i64 0,(.string ⟨#[]⟩),.int .i64 0,.int .u64 0] ([(0,4),(4,3)][·]?) [(0,.agg af),(1,.agg ag)] fun y=>
   All [
    (New 267 #[] fun t=>
    Sv S<|
    All [
     (Do Tryz.prog (Builtin.append_ #[134,134] 134 #[(Sl.val (Sl.mk (some t) 0 0)),Sl.val x]) Sl.val fun k=>
     Sv S<|
     Bld #[.int .i64 0,.int .u64 0,.int .u64 0,.int .i64 0,(.string ⟨#[]⟩),.int .i64 0,.int .u64 0] (fun i=>some (i*7,7)) [(0,.agg y)] fun l=>
     New 267 l fun m=>
     Sv S<|
     Do Tryz.prog (Builtin.append_ #[134,134] 134 #[Sl.val k,(Sl.val (Sl.mk (some m) 1 1))]) Sl.val fun n=>
     St g (Sl.val n)<|
     zk.s2 Q c (some g) b d a f),
     (Bld #[.int .i64 0,.int .u64 0,.int .u64 0,.int .i64 0,(.string ⟨#[]⟩),.int .i64 0,.int .u64 0] (fun i=>some (i*7,7)) [(0,.agg y)] fun l=>
     New 267 l fun m=>
     Sv S<|
     Do Tryz.prog (Builtin.append_ #[134,134] 134 #[(Sl.val (Sl.mk (some t) 0 0)),Sl.val x]) Sl.val fun k=>
     Sv S<|
     Do Tryz.prog (Builtin.append_ #[134,134] 134 #[Sl.val k,(Sl.val (Sl.mk (some m) 1 1))]) Sl.val fun n=>
     St g (Sl.val n)<|
     zk.s2 Q c (some g) b d a f)
     ]),
    (Bld #[.int .i64 0,.int .u64 0,.int .u64 0,.int .i64 0,(.string ⟨#[]⟩),.int .i64 0,.int .u64 0] (fun i=>some (i*7,7)) [(0,.agg y)] fun l=>
    New 267 l fun m=>
    Sv S<|
    New 267 #[] fun t=>
    Sv S<|
    Do Tryz.prog (Builtin.append_ #[134,134] 134 #[(Sl.val (Sl.mk (some t) 0 0)),Sl.val x]) Sl.val fun k=>
    Sv S<|
    Do Tryz.prog (Builtin.append_ #[134,134] 134 #[Sl.val k,(Sl.val (Sl.mk (some m) 1 1))]) Sl.val fun n=>
    St g (Sl.val n)<|
    zk.s2 Q c (some g) b d a f)
    ])
   (Ite (decide (ab=1))
    (Dr<|yV fun S=>
    Nn s fun j=>
    LdS S (j.add 1) Sl.val fun z=>
    xJ S a 4 fun ah=>
    xJ S v 3 fun aj=>
    Bld #[.int .i64 0,.int .u64 0,.int .u64 0,.int .i64 0,(.string ⟨#[]⟩),.int .i64 0,.int .u64 0] ([(0,4),(4,3)][·]?) [(0,.agg ah),(1,.agg aj)] fun aa=>
    All [
     (New 267 #[] fun u=>
     Sv S<|
     All [
      (Do Tryz.prog (Builtin.append_ #[134,134] 134 #[(Sl.val (Sl.mk (some u) 0 0)),Sl.val z]) Sl.val fun o=>
      Sv S<|
      Bld #[.int .i64 0,.int .u64 0,.int .u64 0,.int .i64 0,(.string ⟨#[]⟩),.int .i64 0,.int .u64 0] (fun i=>some (i*7,7)) [(0,.agg aa)] fun p=>
      New 267 p fun q=>
      Sv S<|
      Do Tryz.prog (Builtin.append_ #[134,134] 134 #[Sl.val o,(Sl.val (Sl.mk (some q) 1 1))]) Sl.val fun r=>
      St (j.add 1) (Sl.val r)<|
      zk.s2 Q c (some j) b d a f),
      (Bld #[.int .i64 0,.int .u64 0,.int .u64 0,.int .i64 0,(.string ⟨#[]⟩),.int .i64 0,.int .u64 0] (fun i=>some (i*7,7)) [(0,.agg aa)] fun p=>
      New 267 p fun q=>
      Sv S<|
      Do Tryz.prog (Builtin.append_ #[134,134] 134 #[(Sl.val (Sl.mk (some u) 0 0)),Sl.val z]) Sl.val fun o=>
      Sv S<|
      Do Tryz.prog (Builtin.append_ #[134,134] 134 #[Sl.val o,(Sl.val (Sl.mk (some q) 1 1))]) Sl.val fun r=>
      St (j.add 1) (Sl.val r)<|
      zk.s2 Q c (some j) b d a f)
      ]),
     (Bld #[.int .i64 0,.int .u64 0,.int .u64 0,.int .i64 0,(.string ⟨#[]⟩),.int .i64 0,.int .u64 0] (fun i=>some (i*7,7)) [(0,.agg aa)] fun p=>
     New 267 p fun q=>
     Sv S<|
     New 267 #[] fun u=>
     Sv S<|
     Do Tryz.prog (Builtin.append_ #[134,134] 134 #[(Sl.val (Sl.mk (some u) 0 0)),Sl.val z]) Sl.val fun o=>
     Sv S<|
     Do Tryz.prog (Builtin.append_ #[134,134] 134 #[Sl.val o,(Sl.val (Sl.mk (some q) 1 1))]) Sl.val fun r=>
     St (j.add 1) (Sl.val r)<|
     zk.s2 Q c (some j) b d a f)
     ])
    (LdN a 4 fun ak=>
    jg.call s ak<|
    zk.s2 Q c s b d a f)))
def zk.b1(Q:K)(g:Int→K)(u i:Pt)(c:Sl)(d:Addr)(f:Int): K :=
 Ite (decide (f<(c.n:Int)))
  (Idx c f 3 fun j=>
  LdN j 3 fun k=>
  New 231 #[(.string ⟨#[]⟩),.int .i64 0,.int .u64 0] fun a=>
  StN a 3 k<|
  Dr<|yV fun S=>
  Nn u fun b=>
  LdS S b Sl.val fun l=>
  LdS S a Value.string fun m=>
  xJ S d 4 fun o=>
  jM.call l m o fun p=>
  Sv S<|
  Ite p
   (zk.s3 Q g (some b) i c d f a true)
   (LdS S (b.add 1) Sl.val fun q=>
   LdS S a Value.string fun r=>
   xJ S d 4 fun s=>
   jM.call q r s fun t=>
   zk.s3 Q g (some b) i c d f a t))
  (Q)
def zk(b c:Pt)(d:Av)(f:Sl)(Q:K): K :=
 New 46 d fun a=>
 zq (α:=Int) (fun X x=>zk.b1 Q X b c f a x) 0
theorem zHi(q r t u Q w)(h:zk q r t u Q w):zk.call q r t u Q w:=by
 have:∀b,XH 2 b→JH 3 fun D=>∃c d f g j,D [(0,.pointer c),(1,.pointer d),(3,Sl.val f),(6,(.pointer (some g))),(8,.int .i64 j)] (fun C=>C [(0,.pointer c),(1,.pointer d),(3,Sl.val f),(6,(.pointer (some g))),(8,.int .i64 j)] (zk.s2 Q b c d f g j)):=by intros;exact⟨fun _ ⟨_,_,_,_,_,h⟩=>⟨_,_,h⟩⟩
 have:DH 8 2 [11,14] (.s [0,2,3,4,5,7,8,9] (.a [(1,1,.a [(6,1,.a [(10,1,.a [(11,0,.s [12,13] (.a [(14,0,.e)]))])]),(10,1,.a [(6,1,.a [(11,0,.s [12,13] (.a [(14,0,.e)]))])])]),(10,1,.a [(1,1,.a [(6,1,.a [(11,0,.s [12,13] (.a [(14,0,.e)]))])])])])):=⟨⟩
 have:DH 10 2 [11,14] (.s [0,2,3,4,5,7,8,9] (.a [(1,1,.a [(6,1,.a [(10,1,.a [(11,0,.s [12,13] (.a [(14,0,.e)]))])]),(10,1,.a [(6,1,.a [(11,0,.s [12,13] (.a [(14,0,.e)]))])])]),(10,1,.a [(1,1,.a [(6,1,.a [(11,0,.s [12,13] (.a [(14,0,.e)]))])])])])):=⟨⟩
 have:DH 6 2 [5] (.s [0,1,2,4] (.a [(3,1,.a [(5,0,.s [6] .e)])])):=⟨⟩
 have:∀b,XH 2 b→JH 1000005 fun D=>∃k l m n o p,D [(0,.pointer k),(1,.pointer l),(3,Sl.val m),(6,(.pointer (some n))),(8,.int .i64 o),(9,(.pointer (some p)))] (fun C=>∀v,C [(0,.pointer k),(1,.pointer l),(3,Sl.val m),(6,(.pointer (some n))),(8,.int .i64 o),(9,(.pointer (some p))),(38,.bool v)] (zk.s3 Q b k l m n o p v)):=by intros;exact⟨fun _ ⟨_,_,_,_,_,_,h⟩=>⟨_,_,h⟩⟩
 have:DH 5 2 [16] (.s [0,1,2,4,3,5,6] (.a [(7,1,.s [8] (.i (.s [9,10,11,12,13,14,15,16,17] .e) (.s [9,10,11,13,12,14,15] (.a [(16,0,.s [17] .e)]))))])):=⟨⟩
 have:∀y z aa ab,LH 2 (fun x:Int=>[(0,.pointer y),(1,.pointer z),(3,Sl.val aa),(6,(.pointer (some ab))),(8,.int .i64 x)]) (fun X x=>zk.b1 Q X y z aa ab x):=fun _ _ _ _=>⟨⟩
 exact zJ 80 h Tryz.func72
def xM.b2(Q:Sl→K)(p o:Sl→Int→K)(b:Addr)(c:Sl)(a:Int): K :=
 Ld (b.add 1) Sl.val fun d=>
 Ite (decide (a<(d.n:Int)))
  (Ld (b.add 1) Sl.val fun f=>
  Idx f a 7 fun g=>
  Ld (g.add 4) Value.string fun i=>
  New 9 #[.string i] fun j=>
  Do Tryz.prog (Builtin.append_ #[39,39] 39 #[Sl.val c,(Sl.val (Sl.mk (some j) 1 1))]) Sl.val fun k=>
  Ar (IntKind.wrap .i64 (a+1)) fun l=>
  o k l)
  (qU.call #[.int .i64 0,Sl.val ⟨none,0,0⟩,Sl.val c,Sl.val ⟨none,0,0⟩,.int .i64 0] fun m=>
  Q m)
def xM.b1(Q:Sl→K)(c:Sl→Int→K)(q:Pt)(d:Sl)(b:Int): K :=
 Nn q fun a=>
 Ld a Sl.val fun f=>
 Ite (decide (b<(f.n:Int)))
  (Ld a Sl.val fun g=>
  Idx g b 7 fun i=>
  Ld (i.add 4) Value.string fun j=>
  New 9 #[.string j] fun k=>
  Do Tryz.prog (Builtin.append_ #[39,39] 39 #[Sl.val d,(Sl.val (Sl.mk (some k) 1 1))]) Sl.val fun l=>
  Ar (IntKind.wrap .i64 (b+1)) fun m=>
  c l m)
  (zq (α:=Sl×Int) (fun X x=>xM.b2 Q c (fun o p=>X (o,p)) a x.1 x.2) (d,0))
def xM(d:Pt)(Q:Sl→K): K :=
 New 9 #[] fun a=>
 zq (α:=Sl×Int) (fun X x=>xM.b1 Q (fun b c=>X (b,c)) d x.1 x.2) ((Sl.mk (some a) 0 0),0)
theorem zIY(c Q w)(h:xM c Q w):xM.call c Q w:=by
 have:∀d,XH 3 d→∀f,LH 7 (fun x:Sl×Int=>[(0,(.pointer (some f))),(3,Sl.val x.1),(5,.int .i64 x.2)]) (fun X x=>xM.b2 Q (fun a b=>d (a,b)) (fun i j=>X (i,j)) f x.1 x.2):=by intros;exact⟨⟩
 have:∀g,LH 3 (fun x:Sl×Int=>[(0,.pointer g),(3,Sl.val x.1),(4,.int .i64 x.2)]) (fun X x=>xM.b1 Q (fun a b=>X (a,b)) g x.1 x.2):=fun _=>⟨⟩
 exact zJ 52 h Tryz.func78
def jG.s2(Q:Sl→K)(b:Sl→Int→K)(f:Sl)(g:ByteArray)(c:Sl)(d:Int): K :=
 Ar (IntKind.wrap .i64 (d+1)) fun a=>
 b c a
def jG.b1(Q:Sl→K)(f:Sl→Int→K)(a:Sl)(c:ByteArray)(d:Sl)(b:Int): K :=
 Ite (decide (b<(a.n:Int)))
  (Idx a b 7 fun g=>
  Ld (g.add 4) Value.string fun j=>
  Ite (j.toList==c.toList)
   (Idx a b 7 fun k=>
   LdN k 4 fun l=>
   Bld #[.int .i64 0,.int .u64 0,.int .u64 0,.int .i64 0] (fun i=>some (i*4,4)) [(0,.agg l)] fun m=>
   New 46 m fun o=>
   Do Tryz.prog (Builtin.append_ #[63,63] 63 #[Sl.val d,(Sl.val (Sl.mk (some o) 1 1))]) Sl.val fun p=>
   jG.s2 Q f a c p b)
   (jG.s2 Q f a c d b))
  (Q d)
def jG(d:Sl)(f:ByteArray)(Q:Sl→K): K :=
 New 46 #[] fun a=>
 zq (α:=Sl×Int) (fun X x=>jG.b1 Q (fun b c=>X (b,c)) d f x.1 x.2) ((Sl.mk (some a) 0 0),0)
theorem zN0(g i Q w)(h:jG g i Q w):jG.call g i Q w:=by
 have:∀j,XH 3 j→JH 4 fun D=>∃c d f,D [(0,Sl.val c),(1,.string d),(6,.int .i64 f)] (fun C=>∀k,C [(0,Sl.val c),(1,.string d),(5,Sl.val k),(6,.int .i64 f)] (jG.s2 Q (fun a b=>j (a,b)) c d k f)):=by intros;exact⟨fun _ ⟨_,_,_,h⟩=>⟨_,_,h⟩⟩
 have:∀l m,LH 3 (fun x:Sl×Int=>[(0,Sl.val l),(1,.string m),(5,Sl.val x.1),(6,.int .i64 x.2)]) (fun X x=>jG.b1 Q (fun a b=>X (a,b)) l m x.1 x.2):=fun _ _=>⟨⟩
 exact zJ 31 h Tryz.func79
def zBJ.b1(Q:Bool→K)(j:Int→K)(d:Sl)(k:Addr)(a:Int): K :=
 Ite (decide (a<(d.n:Int)))
  (Dr<|
  Idx d a 4 fun f=>
  LdN f 4 fun b=>
  LdN k 4 fun c=>
  Pu Tryz.prog (do eqGuard .eql 46 (.tmp 15) (.tmp 16) (.agg b) (.agg c);binOp .eql 46 (.agg b) (.agg c):Sem Value) Value.bool fun g=>
  Ite g
   (Q true)
   (Ar (IntKind.wrap .i64 (a+1)) fun i=>
   j i))
  (Q false)
def zBJ(b:Sl)(c:Av)(Q:Bool→K): K :=
 New 46 c fun a=>
 zq (α:=Int) (fun X x=>zBJ.b1 Q X b a x) 0
theorem zRm(a b Q w)(h:zBJ a b Q w):zBJ.call a b Q w:=by
 have:∀c d,LH 2 (fun x:Int=>[(0,Sl.val c),(3,(.pointer (some d))),(5,.int .i64 x)]) (fun X x=>zBJ.b1 Q X c d x):=fun _ _=>⟨⟩
 exact zJ 18 h Tryz.func80
def zCm.b1(Q:K)(r:Int→K)(s:Pt)(b:Int): K :=
 Nn s fun a=>
 Ld (a.add 2) Sl.val fun c=>
 Ite (decide (b<(c.n:Int)))
  (Dr<|
  Ld a Sl.val fun d=>
  Ld (a.add 2) Sl.val fun f=>
  Idx f b 4 fun g=>
  LdN g 4 fun i=>
  xI.call d i fun j=>
  St a (Sl.val j)<|
  Dr<|
  Ld (a.add 1) Sl.val fun k=>
  Ld (a.add 2) Sl.val fun l=>
  Idx l b 4 fun m=>
  LdN m 4 fun o=>
  xI.call k o fun p=>
  St (a.add 1) (Sl.val p)<|
  Ar (IntKind.wrap .i64 (b+1)) fun q=>
  r q)
  (Q)
def zCm(a:Pt)(Q:K): K :=
 zq (α:=Int) (fun X x=>zCm.b1 Q X a x) 0
def uD.b1(Q:Bool→K)(p:Int→K)(q:Pt)(f:Addr)(b:Int): K :=
 Nn q fun a=>
 Ld (a.add 1) Sl.val fun g=>
 Ite (decide (b<(g.n:Int)))
  (Dr<|
  Ld (a.add 1) Sl.val fun i=>
  Idx i b 7 fun j=>
  LdN j 4 fun c=>
  LdN f 4 fun d=>
  Pu Tryz.prog (do eqGuard .eql 46 (.tmp 22) (.tmp 23) (.agg c) (.agg d);binOp .eql 46 (.agg c) (.agg d):Sem Value) Value.bool fun k=>
  Ite k
   (Q false)
   (Ar (IntKind.wrap .i64 (b+1)) fun l=>
   p l))
  (LdN f 4 fun m=>
  yB.call (some a) m fun o=>
  Q (decide ((o.n:Int)=0)))
def uD(b:Pt)(c:Av)(Q:Bool→K): K :=
 New 46 c fun a=>
 zq (α:=Int) (fun X x=>uD.b1 Q X b a x) 0
theorem zHj(a b Q w)(h:uD a b Q w):uD.call a b Q w:=by
 have:∀c d,LH 2 (fun x:Int=>[(0,.pointer c),(3,(.pointer (some d))),(5,.int .i64 x)]) (fun X x=>uD.b1 Q X c d x):=fun _ _=>⟨⟩
 exact zJ 30 h Tryz.func142
def qg.s2(Q:K)(b:Sl→Int→K)(f g:Addr)(c:Sl)(d:Int): K :=
 Ar (IntKind.wrap .i64 (d+1)) fun a=>
 b c a
def qg.b1(Q:K)(j:Sl→Int→K)(a c:Addr)(d:Sl)(b:Int): K :=
 Ld (a.add 2) Sl.val fun k=>
 Ite (decide (b<(k.n:Int)))
  (Dr<|
  Ld (a.add 2) Sl.val fun l=>
  Idx l b 4 fun m=>
  LdN m 4 fun f=>
  LdN c 4 fun g=>
  Pu Tryz.prog (do eqGuard .neq 46 (.tmp 40) (.tmp 41) (.agg f) (.agg g);binOp .neq 46 (.agg f) (.agg g):Sem Value) Value.bool fun o=>
  Ite o
   (Ld (a.add 2) Sl.val fun p=>
   Idx p b 4 fun q=>
   LdN q 4 fun r=>
   Bld #[.int .i64 0,.int .u64 0,.int .u64 0,.int .i64 0] (fun i=>some (i*4,4)) [(0,.agg r)] fun s=>
   New 46 s fun t=>
   Do Tryz.prog (Builtin.append_ #[63,63] 63 #[Sl.val d,(Sl.val (Sl.mk (some t) 1 1))]) Sl.val fun u=>
   qg.s2 Q j a c u b)
   (qg.s2 Q j a c d b))
  (St (a.add 2) (Sl.val d)<|
  Q)
def qg(n:Pt)(o:Av)(Q:K): K :=
 New 46 o fun b=>
 Dr<|
 Nn n fun a=>
 Ld a Sl.val fun c=>
 LdN b 4 fun d=>
 xI.call c d fun f=>
 St a (Sl.val f)<|
 Dr<|
 Ld (a.add 1) Sl.val fun g=>
 LdN b 4 fun i=>
 xI.call g i fun j=>
 St (a.add 1) (Sl.val j)<|
 New 46 #[] fun k=>
 zq (α:=Sl×Int) (fun X x=>qg.b1 Q (fun l m=>X (l,m)) a b x.1 x.2) ((Sl.mk (some k) 0 0),0)
theorem zHk(i j Q w)(h:qg i j Q w):qg.call i j Q w:=by
 have:∀k,XH 5 k→JH 6 fun D=>∃d f g,D [(0,(.pointer (some d))),(3,(.pointer (some f))),(5,.int .i64 g)] (fun C=>∀l,C [(0,(.pointer (some d))),(3,(.pointer (some f))),(4,Sl.val l),(5,.int .i64 g)] (qg.s2 Q (fun b c=>k (b,c)) d f l g)):=by intros;exact⟨fun _ ⟨_,_,_,h⟩=>⟨_,_,h⟩⟩
 have:∀m n,LH 5 (fun x:Sl×Int=>[(0,(.pointer (some m))),(3,(.pointer (some n))),(4,Sl.val x.1),(5,.int .i64 x.2)]) (fun X x=>qg.b1 Q (fun b c=>X (b,c)) m n x.1 x.2):=fun _ _=>⟨⟩
 have:DH 2 1 [6,9] (.s [0,1,2,3,4,5] (.a [(6,0,.s [7,8] (.a [(9,0,.e)]))])):=⟨⟩
 have:DH 1 1 [6,9] (.s [0,1,2,3,4,5] (.a [(6,0,.s [7,8] (.a [(9,0,.e)]))])):=⟨⟩
 exact zJ 57 h Tryz.func143
def zK.s2(Q:K)(b:Int→K)(d:Addr)(f:ByteArray)(g:Addr)(c:Int): K :=
 Ar (IntKind.wrap .i64 (c+1)) fun a=>
 b a
def zK.s3(Q:K)(c:Int→K)(a:Addr)(d:ByteArray)(f:Addr)(b:Int)(k:Bool): K :=
 Ite k
  (Ld a Sl.val fun g=>
  Idx g b 7 fun i=>
  LdN i 4 fun j=>
  jg.call (some a) j<|
  zK.s2 Q c a d f b)
  (zK.s2 Q c a d f b)
def zK.s5(Q:K)(f:Int→K)(b:Sl→Int→K)(g:Addr)(i:ByteArray)(j:Addr)(c:Sl)(d:Int): K :=
 Ar (IntKind.wrap .i64 (d+1)) fun a=>
 b c a
def zK.s6(Q:K)(g:Int→K)(j:Sl→Int→K)(a:Addr)(k:ByteArray)(l:Addr)(m:Sl)(n:Int)(r:Addr)(y:Int)(z:Bool): K :=
 Ite z
  (LdN r 7 fun s=>
  Bld #[.int .i64 0,.int .u64 0,.int .u64 0,.int .i64 0,(.string ⟨#[]⟩),.int .i64 0,.int .u64 0] (fun i=>some (i*7,7)) [(0,.agg s)] fun t=>
  New 267 t fun u=>
  Do Tryz.prog (Builtin.append_ #[134,134] 134 #[Sl.val m,(Sl.val (Sl.mk (some u) 1 1))]) Sl.val fun v=>
  zK.s5 Q g j a k l v n)
  (Ite (decide (y=0))
   (Dr<|yV fun S=>
   LdS S a Sl.val fun p=>
   xJ S r 7 fun q=>
   All [
    (New 267 #[] fun o=>
    Sv S<|
    All [
     (Do Tryz.prog (Builtin.append_ #[134,134] 134 #[(Sl.val (Sl.mk (some o) 0 0)),Sl.val p]) Sl.val fun b=>
     Sv S<|
     Bld #[.int .i64 0,.int .u64 0,.int .u64 0,.int .i64 0,(.string ⟨#[]⟩),.int .i64 0,.int .u64 0] (fun i=>some (i*7,7)) [(0,.agg q)] fun c=>
     New 267 c fun d=>
     Sv S<|
     Do Tryz.prog (Builtin.append_ #[134,134] 134 #[Sl.val b,(Sl.val (Sl.mk (some d) 1 1))]) Sl.val fun f=>
     St a (Sl.val f)<|
     zK.s5 Q g j a k l m n),
     (Bld #[.int .i64 0,.int .u64 0,.int .u64 0,.int .i64 0,(.string ⟨#[]⟩),.int .i64 0,.int .u64 0] (fun i=>some (i*7,7)) [(0,.agg q)] fun c=>
     New 267 c fun d=>
     Sv S<|
     Do Tryz.prog (Builtin.append_ #[134,134] 134 #[(Sl.val (Sl.mk (some o) 0 0)),Sl.val p]) Sl.val fun b=>
     Sv S<|
     Do Tryz.prog (Builtin.append_ #[134,134] 134 #[Sl.val b,(Sl.val (Sl.mk (some d) 1 1))]) Sl.val fun f=>
     St a (Sl.val f)<|
     zK.s5 Q g j a k l m n)
     ]),
    (Bld #[.int .i64 0,.int .u64 0,.int .u64 0,.int .i64 0,(.string ⟨#[]⟩),.int .i64 0,.int .u64 0] (fun i=>some (i*7,7)) [(0,.agg q)] fun c=>
    New 267 c fun d=>
    Sv S<|
    New 267 #[] fun o=>
    Sv S<|
    Do Tryz.prog (Builtin.append_ #[134,134] 134 #[(Sl.val (Sl.mk (some o) 0 0)),Sl.val p]) Sl.val fun b=>
    Sv S<|
    Do Tryz.prog (Builtin.append_ #[134,134] 134 #[Sl.val b,(Sl.val (Sl.mk (some d) 1 1))]) Sl.val fun f=>
    St a (Sl.val f)<|
    zK.s5 Q g j a k l m n)
    ])
   (LdN r 4 fun x=>
   jg.call (some a) x<|
   zK.s5 Q g j a k l m n))
def zK.b4(Q:K)(j:Int→K)(k:Sl→Int→K)(b:Addr)(f:ByteArray)(g:Addr)(i:Sl)(c:Int): K :=
 Ld (b.add 1) Sl.val fun l=>
 Ite (decide (c<(l.n:Int)))
  (Ld (b.add 1) Sl.val fun m=>
  Idx m c 7 fun o=>
  LdN o 7 fun p=>
  New 267 #[.int .i64 0,.int .u64 0,.int .u64 0,.int .i64 0,(.string ⟨#[]⟩),.int .i64 0,.int .u64 0] fun a=>
  StN a 7 p<|
  LdN g 4 fun q=>
  LdN (a.add 4) 3 fun r=>
  zAR.call q r fun d=>
  Ld (a.add 4) Value.string fun s=>
  Ite (!(s.toList==f.toList))
   (zK.s6 Q j k b f g i c a d true)
   (zK.s6 Q j k b f g i c a d (decide (d=1))))
  (St (b.add 1) (Sl.val i)<|
  Q)
def zK.b1(Q:K)(f:Int→K)(u:Pt)(c:ByteArray)(d:Addr)(b:Int): K :=
 Nn u fun a=>
 Ld a Sl.val fun g=>
 Ite (decide (b<(g.n:Int)))
  (Dr<|
  Ld a Sl.val fun i=>
  Idx i b 7 fun j=>
  Ld (j.add 4) Value.string fun k=>
  Ite (k.toList==c.toList)
   (LdN d 4 fun l=>
   Ld a Sl.val fun m=>
   Idx m b 7 fun o=>
   LdN (o.add 4) 3 fun p=>
   zAR.call l p fun q=>
   zK.s3 Q f a c d b (decide (q≠0)))
   (zK.s3 Q f a c d b false))
  (New 267 #[] fun r=>
  zq (α:=Sl×Int) (fun X x=>zK.b4 Q f (fun s t=>X (s,t)) a c d x.1 x.2) ((Sl.mk (some r) 0 0),0))
def zK(d f:Pt)(b:ByteArray)(Q:K): K :=
 qo.call f b fun c=>
 New 208 #[.bool false,Sl.val ⟨none,0,0⟩,.int .i64 0,.int .u64 0] fun a=>
 StN a 4 c<|
 zq (α:=Int) (fun X x=>zK.b1 Q X d b a x) 0
theorem zHl(ae af ag Q w)(h:zK ae af ag Q w):zK.call ae af ag Q w:=by
 have:∀b,XH 2 b→JH 3 fun D=>∃g j k l,D [(0,(.pointer (some g))),(2,.string j),(6,(.pointer (some k))),(7,.int .i64 l)] (fun C=>C [(0,(.pointer (some g))),(2,.string j),(6,(.pointer (some k))),(7,.int .i64 l)] (zK.s2 Q b g j k l)):=by intros;exact⟨fun _ ⟨_,_,_,_,h⟩=>⟨_,_,h⟩⟩
 have:∀b,XH 2 b→JH 5 fun D=>∃m n o p,D [(0,(.pointer (some m))),(2,.string n),(6,(.pointer (some o))),(7,.int .i64 p)] (fun C=>∀ah,C [(0,(.pointer (some m))),(2,.string n),(6,(.pointer (some o))),(7,.int .i64 p),(47,.bool ah)] (zK.s3 Q b m n o p ah)):=by intros;exact⟨fun _ ⟨_,_,_,_,h⟩=>⟨_,_,h⟩⟩
 have:DH 4 1 [21] (.s [0,1,2,4,9,3,5,6,7,8,10,11] (.i (.s [13,14,15,17,12,16,18,19,20] (.a [(21,0,.s [22,23] .e)])) (.s [12,13,14,15,16,17,18,19,20,21,22,23] .e))):=⟨⟩
 have:∀b,XH 2 b→∀f,XH 8 f→JH 9 fun D=>∃q r t u,D [(0,(.pointer (some q))),(2,.string r),(6,(.pointer (some t))),(9,.int .i64 u)] (fun C=>∀aj,C [(0,(.pointer (some q))),(2,.string r),(6,(.pointer (some t))),(8,Sl.val aj),(9,.int .i64 u)] (zK.s5 Q b (fun c d=>f (c,d)) q r t aj u)):=by intros;exact⟨fun _ ⟨_,_,_,_,h⟩=>⟨_,_,h⟩⟩
 have:DH 15 2 [9,12] (.s [0,2,3,4,5,7] (.a [(1,1,.a [(6,1,.a [(8,1,.a [(9,0,.s [10,11] (.a [(12,0,.e)]))])]),(8,1,.a [(6,1,.a [(9,0,.s [10,11] (.a [(12,0,.e)]))])])]),(8,1,.a [(1,1,.a [(6,1,.a [(9,0,.s [10,11] (.a [(12,0,.e)]))])])])])):=⟨⟩
 have:∀b,XH 2 b→∀f,XH 8 f→JH 13 fun D=>∃v y z aa ab ac ad,D [(0,(.pointer (some v))),(2,.string y),(6,(.pointer (some z))),(8,Sl.val aa),(9,.int .i64 ab),(10,(.pointer (some ac))),(11,.int .i64 ad)] (fun C=>∀ak,C [(0,(.pointer (some v))),(2,.string y),(6,(.pointer (some z))),(8,Sl.val aa),(9,.int .i64 ab),(10,(.pointer (some ac))),(11,.int .i64 ad),(87,.bool ak)] (zK.s6 Q b (fun c d=>f (c,d)) v y z aa ab ac ad ak)):=by intros;exact⟨fun _ ⟨_,_,_,_,_,_,_,h⟩=>⟨_,_,h⟩⟩
 have:∀b,XH 2 b→∀al am an,LH 8 (fun x:Sl×Int=>[(0,(.pointer (some al))),(2,.string am),(6,(.pointer (some an))),(8,Sl.val x.1),(9,.int .i64 x.2)]) (fun X x=>zK.b4 Q b (fun c d=>X (c,d)) al am an x.1 x.2):=by intros;exact⟨⟩
 have:∀ao ap aq,LH 2 (fun x:Int=>[(0,.pointer ao),(2,.string ap),(6,(.pointer (some aq))),(7,.int .i64 x)]) (fun X x=>zK.b1 Q X ao ap aq x):=fun _ _ _=>⟨⟩
 exact zJ 114 h Tryz.func146
def jM.s2(Q:Bool→K)(b:Int→K)(f:Sl)(g:ByteArray)(i:Addr)(c:Int)(d:Bool): K :=
 Ite d
  (Q true)
  (Ar (IntKind.wrap .i64 (c+1)) fun a=>
  b a)
def jM.b1(Q:Bool→K)(i:Int→K)(a:Sl)(c:ByteArray)(d:Addr)(b:Int): K :=
 Ite (decide (b<(a.n:Int)))
  (Dr<|
  Idx a b 7 fun j=>
  Ld (j.add 4) Value.string fun k=>
  Ite (k.toList==c.toList)
   (Idx a b 7 fun l=>
   LdN l 4 fun f=>
   LdN d 4 fun g=>
   Pu Tryz.prog (do eqGuard .eql 46 (.tmp 27) (.tmp 28) (.agg f) (.agg g);binOp .eql 46 (.agg f) (.agg g):Sem Value) Value.bool fun m=>
   jM.s2 Q i a c d b m)
   (jM.s2 Q i a c d b false))
  (Q false)
def jM(b:Sl)(c:ByteArray)(d:Av)(Q:Bool→K): K :=
 New 46 d fun a=>
 zq (α:=Int) (fun X x=>jM.b1 Q X b c a x) 0
theorem zP7(f g i Q w)(h:jM f g i Q w):jM.call f g i Q w:=by
 have:∀j,XH 2 j→JH 5 fun D=>∃a b c d,D [(0,Sl.val a),(1,.string b),(5,(.pointer (some c))),(7,.int .i64 d)] (fun C=>∀k,C [(0,Sl.val a),(1,.string b),(5,(.pointer (some c))),(7,.int .i64 d),(30,.bool k)] (jM.s2 Q j a b c d k)):=by intros;exact⟨fun _ ⟨_,_,_,_,h⟩=>⟨_,_,h⟩⟩
 have:∀l m n,LH 2 (fun x:Int=>[(0,Sl.val l),(1,.string m),(5,(.pointer (some n))),(7,.int .i64 x)]) (fun X x=>jM.b1 Q X l m n x):=fun _ _ _=>⟨⟩
 exact zJ 31 h Tryz.func147
def jg(p:Pt)(q:Av)(Q:K): K :=
 New 46 q fun l=>
 Dr<|
 Nn p fun a=>
 Ld (a.add 2) Sl.val fun m=>
 LdN l 4 fun n=>
 zBJ.call m n fun o=>
 Ite (!o)
  (Dr<|yV fun S=>
  LdS S (a.add 2) Sl.val fun j=>
  xJ S l 4 fun k=>
  All [
   (New 46 #[] fun g=>
   Sv S<|
   All [
    (Do Tryz.prog (Builtin.append_ #[63,63] 63 #[(Sl.val (Sl.mk (some g) 0 0)),Sl.val j]) Sl.val fun b=>
    Sv S<|
    Bld #[.int .i64 0,.int .u64 0,.int .u64 0,.int .i64 0] (fun i=>some (i*4,4)) [(0,.agg k)] fun c=>
    New 46 c fun d=>
    Sv S<|
    Do Tryz.prog (Builtin.append_ #[63,63] 63 #[Sl.val b,(Sl.val (Sl.mk (some d) 1 1))]) Sl.val fun f=>
    St (a.add 2) (Sl.val f)<|
    Q),
    (Bld #[.int .i64 0,.int .u64 0,.int .u64 0,.int .i64 0] (fun i=>some (i*4,4)) [(0,.agg k)] fun c=>
    New 46 c fun d=>
    Sv S<|
    Do Tryz.prog (Builtin.append_ #[63,63] 63 #[(Sl.val (Sl.mk (some g) 0 0)),Sl.val j]) Sl.val fun b=>
    Sv S<|
    Do Tryz.prog (Builtin.append_ #[63,63] 63 #[Sl.val b,(Sl.val (Sl.mk (some d) 1 1))]) Sl.val fun f=>
    St (a.add 2) (Sl.val f)<|
    Q)
    ]),
   (Bld #[.int .i64 0,.int .u64 0,.int .u64 0,.int .i64 0] (fun i=>some (i*4,4)) [(0,.agg k)] fun c=>
   New 46 c fun d=>
   Sv S<|
   New 46 #[] fun g=>
   Sv S<|
   Do Tryz.prog (Builtin.append_ #[63,63] 63 #[(Sl.val (Sl.mk (some g) 0 0)),Sl.val j]) Sl.val fun b=>
   Sv S<|
   Do Tryz.prog (Builtin.append_ #[63,63] 63 #[Sl.val b,(Sl.val (Sl.mk (some d) 1 1))]) Sl.val fun f=>
   St (a.add 2) (Sl.val f)<|
   Q)
   ])
  (Q)
theorem zIZ(b c Q w)(h:jg b c Q w):jg.call b c Q w:=by
 have:DH 2 2 [9,12] (.s [0,2,3,4,5,7] (.a [(1,1,.a [(6,1,.a [(8,1,.a [(9,0,.s [10,11] (.a [(12,0,.e)]))])]),(8,1,.a [(6,1,.a [(9,0,.s [10,11] (.a [(12,0,.e)]))])])]),(8,1,.a [(1,1,.a [(6,1,.a [(9,0,.s [10,11] (.a [(12,0,.e)]))])])])])):=⟨⟩
 have:DH 1 1 [5] (.s [0,1,2,3,4] (.a [(5,0,.s [6] .e)])):=⟨⟩
 exact zJ 23 h Tryz.func149
def xI.s2(Q:Sl→K)(b:Sl→Int→K)(f:Sl)(g:Addr)(c:Sl)(d:Int): K :=
 Ar (IntKind.wrap .i64 (d+1)) fun a=>
 b c a
def xI.b1(Q:Sl→K)(j:Sl→Int→K)(a:Sl)(c:Addr)(d:Sl)(b:Int): K :=
 Ite (decide (b<(a.n:Int)))
  (Dr<|
  Idx a b 7 fun k=>
  LdN k 4 fun f=>
  LdN c 4 fun g=>
  Pu Tryz.prog (do eqGuard .neq 46 (.tmp 18) (.tmp 19) (.agg f) (.agg g);binOp .neq 46 (.agg f) (.agg g):Sem Value) Value.bool fun l=>
  Ite l
   (Idx a b 7 fun m=>
   LdN m 7 fun o=>
   Bld #[.int .i64 0,.int .u64 0,.int .u64 0,.int .i64 0,(.string ⟨#[]⟩),.int .i64 0,.int .u64 0] (fun i=>some (i*7,7)) [(0,.agg o)] fun p=>
   New 267 p fun q=>
   Do Tryz.prog (Builtin.append_ #[134,134] 134 #[Sl.val d,(Sl.val (Sl.mk (some q) 1 1))]) Sl.val fun r=>
   xI.s2 Q j a c r b)
   (xI.s2 Q j a c d b))
  (Q d)
def xI(f:Sl)(g:Av)(Q:Sl→K): K :=
 New 46 g fun a=>
 New 267 #[] fun b=>
 zq (α:=Sl×Int) (fun X x=>xI.b1 Q (fun c d=>X (c,d)) f a x.1 x.2) ((Sl.mk (some b) 0 0),0)
theorem zKt(g i Q w)(h:xI g i Q w):xI.call g i Q w:=by
 have:∀j,XH 3 j→JH 4 fun D=>∃c d f,D [(0,Sl.val c),(3,(.pointer (some d))),(6,.int .i64 f)] (fun C=>∀k,C [(0,Sl.val c),(3,(.pointer (some d))),(5,Sl.val k),(6,.int .i64 f)] (xI.s2 Q (fun a b=>j (a,b)) c d k f)):=by intros;exact⟨fun _ ⟨_,_,_,h⟩=>⟨_,_,h⟩⟩
 have:∀l m,LH 3 (fun x:Sl×Int=>[(0,Sl.val l),(3,(.pointer (some m))),(5,Sl.val x.1),(6,.int .i64 x.2)]) (fun X x=>xI.b1 Q (fun a b=>X (a,b)) l m x.1 x.2):=fun _ _=>⟨⟩
 exact zJ 29 h Tryz.func205
instance:ART Tryz.prog 61 60 3 1:=⟨by kernel_rfl⟩
instance:ART Tryz.prog 62 3 3 1:=⟨by kernel_rfl⟩
instance:AT Tryz.prog 198 7:=⟨by kernel_rfl⟩
instance:AT Tryz.prog 80 13:=⟨by kernel_rfl⟩
instance:AT Tryz.prog 97 7:=⟨by kernel_rfl⟩
instance:CB Tryz.prog 170:=⟨by kernel_rfl⟩
instance:CB Tryz.prog 20:=⟨by kernel_rfl⟩
instance:CB Tryz.prog 24:=⟨by kernel_rfl⟩
instance:CB Tryz.prog 32:=⟨by kernel_rfl⟩
instance:CB Tryz.prog 33:=⟨by kernel_rfl⟩
instance:CB Tryz.prog 34:=⟨by kernel_rfl⟩
instance:CB Tryz.prog 35:=⟨by kernel_rfl⟩
instance:CB Tryz.prog 43:=⟨by kernel_rfl⟩
instance:CB Tryz.prog 53:=⟨by kernel_rfl⟩
instance:CB Tryz.prog 73:=⟨by kernel_rfl⟩
instance:CB Tryz.prog 74:=⟨by kernel_rfl⟩
instance:CB Tryz.prog 75:=⟨by kernel_rfl⟩
instance:CB Tryz.prog 76:=⟨by kernel_rfl⟩
instance:CB Tryz.prog 96:=⟨by kernel_rfl⟩
instance:CT Tryz.prog 58:=⟨by kernel_rfl⟩
instance:CT Tryz.prog 60:=⟨by kernel_rfl⟩
instance:FT Tryz.prog 115 1 4 2:=⟨by kernel_rfl⟩
instance:FT Tryz.prog 198 0 0 1:=⟨by kernel_rfl⟩
instance:FT Tryz.prog 198 1 1 1:=⟨by kernel_rfl⟩
instance:FT Tryz.prog 198 2 2 5:=⟨by kernel_rfl⟩
instance:FT Tryz.prog 67 1 1 1:=⟨by kernel_rfl⟩
instance:FT Tryz.prog 67 4 6 3:=⟨by kernel_rfl⟩
instance:FT Tryz.prog 67 8 16 1:=⟨by kernel_rfl⟩
instance:FT Tryz.prog 80 1 1 12:=⟨by kernel_rfl⟩
instance:FT Tryz.prog 97 0 0 3:=⟨by kernel_rfl⟩
instance:FT Tryz.prog 97 1 3 1:=⟨by kernel_rfl⟩
instance:FT Tryz.prog 97 2 4 3:=⟨by kernel_rfl⟩
instance:PLT Tryz.prog 44 [(0,1),(1,1),(2,1)]:=⟨_,Tryz.underlying44,by kernel_rfl⟩
instance:PLT Tryz.prog 46 [(0,3),(3,1)]:=⟨_,Tryz.underlying46,by kernel_rfl⟩
instance:PLT Tryz.prog 97 [(0,3),(3,1),(4,3)]:=⟨_,Tryz.underlying97,by kernel_rfl⟩
instance:SLT Tryz.prog 60 78 12:=⟨by kernel_rfl⟩
instance:SLT Tryz.prog 75 80 13:=⟨by kernel_rfl⟩
instance:SLT Tryz.prog 93 198 7:=⟨by kernel_rfl⟩
instance:SZ Tryz.prog 198 7:=⟨by kernel_rfl⟩
instance:SZ Tryz.prog 38 1:=⟨by kernel_rfl⟩
instance:SZ Tryz.prog 60 1:=⟨by kernel_rfl⟩
instance:SZ Tryz.prog 80 13:=⟨by kernel_rfl⟩
instance:SZ Tryz.prog 97 7:=⟨by kernel_rfl⟩
instance:UN Tryz.prog 32 (.pointer 130):=⟨Tryz.underlying32⟩
instance:ZT Tryz.prog 198 (.agg #[(.int .i64 0),(.int .i64 0),(.int .i64 0),(Sl.val ⟨none,0,0⟩),(Sl.val ⟨none,0,0⟩),(Sl.val ⟨none,0,0⟩),(.int .i64 0)]):=⟨Tryz.t198,by kernel_rfl,by kernel_rfl⟩
instance:ZT Tryz.prog 80 (.agg #[(.int .i64 0),(.int .i64 0),(.int .i64 0),(.int .i64 0),(.int .u64 0),(.int .u64 0),(.int .i64 0),(.int .i64 0),(Sl.val ⟨none,0,0⟩),(Sl.val ⟨none,0,0⟩),(Sl.val ⟨none,0,0⟩),(.int .i64 0),(Sl.val ⟨none,0,0⟩)]):=⟨Tryz.t80,by kernel_rfl,by kernel_rfl⟩
instance:ZT Tryz.prog 97 (.agg #[(Sl.val ⟨none,0,0⟩),(Sl.val ⟨none,0,0⟩),(Sl.val ⟨none,0,0⟩),(Sl.val ⟨none,0,0⟩),(.int .i64 0),(.int .i64 0),(.int .i64 0)]):=⟨Tryz.t97,by kernel_rfl,by kernel_rfl⟩
instance:CB Tryz.prog 139:=⟨by kernel_rfl⟩
instance:CB Tryz.prog 150:=⟨by kernel_rfl⟩
instance:CB Tryz.prog 203:=⟨by kernel_rfl⟩
instance:CB Tryz.prog 204:=⟨by kernel_rfl⟩
def qm.s2(Q:Bool→K)(b:Int→K)(f:Int)(g:Sl)(i:Int)(j:Addr)(c:Int)(d:Bool): K :=
 Ite d
  (Q false)
  (Ar (IntKind.wrap .i64 (c+1)) fun a=>
  b a)
def qm.b1(Q:Bool→K)(g:Int→K)(c:Int)(b:Sl)(d:Int)(f:Addr)(a:Int): K :=
 Ite (decide (a<d))
  (Dr<|
  Idx b a 12 fun k=>
  Ld k (Value.int .i64) fun l=>
  Ite (decide (l=1))
   (Idx b a 12 fun m=>
   LdN (m.add 2) 4 fun i=>
   LdN (f.add 2) 4 fun j=>
   Pu Tryz.prog (do eqGuard .eql 46 (.tmp 42) (.tmp 45) (.agg i) (.agg j);binOp .eql 46 (.agg i) (.agg j):Sem Value) Value.bool fun n=>
   Ite n
    (qm.call c b a fun o=>
    qm.s2 Q g c b d f a o)
    (qm.s2 Q g c b d f a false))
   (qm.s2 Q g c b d f a false))
  (Q true)
def qm.s3(Q:Bool→K)(a:Bool): K :=
 Q a
def qm(d:Int)(b:Sl)(f:Int)(Q:Bool→K): K :=
 Idx b f 12 fun g=>
 LdN g 12 fun i=>
 New 78 #[.int .i64 0,.int .i64 0,.int .i64 0,.int .u64 0,.int .u64 0,.int .i64 0,.int .i64 0,Sl.val ⟨none,0,0⟩,Sl.val ⟨none,0,0⟩,Sl.val ⟨none,0,0⟩,.int .i64 0,Sl.val ⟨none,0,0⟩] fun a=>
 StN a 12 i<|
 LdN (a.add 2) 10 fun j=>
 zA1.call j d fun k=>
 Ite (!k)
  (Q false)
  (Ld a (Value.int .i64) fun l=>
  Ite (decide (l=1))
   (LdN (a.add 2) 10 fun m=>
   zAE.call m fun n=>
   Ite (!n)
    (Q false)
    (zq (α:=Int) (fun X x=>qm.b1 Q X d b f a x) 0))
   (Dr<|yV fun S=>
   LdS S a (Value.int .i64) fun o=>
   Ite (decide (o=2))
    (xJ S (a.add 2) 10 fun p=>
    zAE.call p fun q=>
    Sv S<|
    Ite (!q)
     (Slc b 0 f (b.c:Int) 12 fun r=>
     LdS S (a.add 1) (Value.int .i64) fun s=>
     xR.call d r fun t=>
     Sv S<|
     qm.s3 Q (decide (t<s)))
     (qm.s3 Q false))
    (qm.s3 Q false)))
theorem zLj(j k l Q w)(h:qm j k l Q w):qm.call j k l Q w:=by
 have:∀m,XH 8 m→JH 11 fun D=>∃b c d f g,D [(0,.int .i64 b),(1,Sl.val c),(2,.int .i64 d),(7,(.pointer (some f))),(8,.int .i64 g)] (fun C=>∀n,C [(0,.int .i64 b),(1,Sl.val c),(2,.int .i64 d),(7,(.pointer (some f))),(8,.int .i64 g),(53,.bool n)] (qm.s2 Q m b c d f g n)):=by intros;exact⟨fun _ ⟨_,_,_,_,_,h⟩=>⟨_,_,h⟩⟩
 have:DH 10 1 [22] (.s [0,1,2,3,4,5,6] (.i (.s [7,8,9,10,11,13,14,12,15,16,17,18] (.i (.s [19,20,21] (.a [(22,0,.s [23] .e)])) (.s [19,20,21,22,23] .e))) (.s [7,8,9,10,11,12,13,14,15,16,17,18,19,20,21,22,23] .e))):=⟨⟩
 have:∀o p q r,LH 8 (fun x:Int=>[(0,.int .i64 o),(1,Sl.val p),(2,.int .i64 q),(7,(.pointer (some r))),(8,.int .i64 x)]) (fun X x=>qm.b1 Q X o p q r x):=fun _ _ _ _=>⟨⟩
 have:JH 1000013 fun D=>D [] (fun C=>∀t,C [(6,.bool t)] (qm.s3 Q t)):=⟨fun _ h=>⟨_,_,h⟩⟩
 have:DH 13 2 [] (.s [0,1,2,3] (.i (.s [4,5] (.a [(6,1,.s [7,8,9] (.i (.s [10,12,13,14,15,11] (.a [(16,1,.s [17,18,19] .e)])) (.s [10,11,12,13,14,15,16,17,18,19] .e)))])) (.s [4,5,6,7,8,9,10,11,12,13,14,15,16,17,18,19] .e))):=⟨⟩
 exact zJ 73 h Tryz.func139
def xR.s2(Q:Int→K)(b:Int→Int→K)(f:Int)(g:Sl)(c d:Int): K :=
 Ar (IntKind.wrap .i64 (d+1)) fun a=>
 b c a
def xR.s3(Q:Int→K)(a:Int→Int→K)(b:Int)(c:Sl)(g d:Int)(i:Addr)(j:Bool): K :=
 Ite j
  (Ld (i.add 1) (Value.int .i64) fun f=>
  xR.s2 Q a b c f d)
  (xR.s2 Q a b c g d)
def xR.b1(Q:Int→K)(g:Int→Int→K)(f:Int)(b:Sl)(c d:Int): K :=
 Ite (decide (d<(b.n:Int)))
  (Idx b d 12 fun i=>
  LdN i 12 fun j=>
  New 78 #[.int .i64 0,.int .i64 0,.int .i64 0,.int .u64 0,.int .u64 0,.int .i64 0,.int .i64 0,Sl.val ⟨none,0,0⟩,Sl.val ⟨none,0,0⟩,Sl.val ⟨none,0,0⟩,.int .i64 0,Sl.val ⟨none,0,0⟩] fun a=>
  StN a 12 j<|
  Ld a (Value.int .i64) fun k=>
  Ite (decide (k=2))
   (LdN (a.add 2) 10 fun l=>
   zAE.call l fun m=>
   Ite (!m)
    (LdN (a.add 2) 10 fun o=>
    zA1.call o f fun p=>
    Ite p
     (Ld (a.add 1) (Value.int .i64) fun q=>
     xR.s3 Q g f b c d a (decide (c<q)))
     (xR.s3 Q g f b c d a false))
    (xR.s3 Q g f b c d a false))
   (xR.s3 Q g f b c d a false))
  (Q c)
def xR(c:Int)(d:Sl)(Q:Int→K): K :=
 zq (α:=Int×Int) (fun X x=>xR.b1 Q (fun a b=>X (a,b)) c d x.1 x.2) ((-1),0)
theorem zN1(n o Q w)(h:xR n o Q w):xR.call n o Q w:=by
 have:∀c,XH 3 c→JH 4 fun D=>∃d f g,D [(0,.int .i64 d),(1,Sl.val f),(6,.int .i64 g)] (fun C=>∀p,C [(0,.int .i64 d),(1,Sl.val f),(5,.int .i64 p),(6,.int .i64 g)] (xR.s2 Q (fun a b=>c (a,b)) d f p g)):=by intros;exact⟨fun _ ⟨_,_,_,h⟩=>⟨_,_,h⟩⟩
 have:∀c,XH 3 c→JH 7 fun D=>∃i j k l m,D [(0,.int .i64 i),(1,Sl.val j),(5,.int .i64 k),(6,.int .i64 l),(7,(.pointer (some m)))] (fun C=>∀q,C [(0,.int .i64 i),(1,Sl.val j),(5,.int .i64 k),(6,.int .i64 l),(7,(.pointer (some m))),(38,.bool q)] (xR.s3 Q (fun a b=>c (a,b)) i j k l m q)):=by intros;exact⟨fun _ ⟨_,_,_,_,_,h⟩=>⟨_,_,h⟩⟩
 have:∀r s,LH 3 (fun x:Int×Int=>[(0,.int .i64 r),(1,Sl.val s),(5,.int .i64 x.1),(6,.int .i64 x.2)]) (fun X x=>xR.b1 Q (fun a b=>X (a,b)) r s x.1 x.2):=fun _ _=>⟨⟩
 exact zJ 42 h Tryz.func150
end
section
open Go Go.Sep
abbrev SlI(s:Sl)(L:List Int):zB:=SlC zDF 1 s (L.map (Value.int .i64))
section
variable{B:World}{Γ Δ:List zB}{k:K}
theorem zRn{s:Sl}{L:List Int}{Q:Sl→K}(hL:L.length<100000000)(h:∀s',HG B (SlI s' (jA L)::Γ) (Q s')):HG B (SlI s L::Γ) (yA.call s Q):=by
 refine fun w hw=>zEw _ _ _ ?_;refine hg hw ?_;clear hw w;unfold yA;refine yw s fun a1 a2 a3 a4=>?_;rw[zgL,zgs] at a1;refine zF (fun hb=>?_) fun hb=>?_
 ·have e:jA L=L:=by
   match L,a1 with
   | [],_=>rfl
   | [x],_=>rfl
   | x::y::L,a1=>simp only[zgO] at a1;simp only[zgH] at hb;omega
  rw[e] at h;exact h s
 have hn2:2≤L.length:=by simp only[zgF] at hb;omega
 refine zAa (α:=Int) (fun x=>∃i:Nat,x=(i:Int)∧1≤i∧i≤L.length∧jA (L.take i)=L.take i) (fun x=>L.length-x.toNat) ⟨1,rfl,zgu _,by omega,?_⟩ fun k' x hx hk'=>?_
 ·match L,hn2 with
  | x::L,_=>simp[jA]
 obtain⟨i,rfl,hi1,hi,hc⟩:=hx;unfold yA.b1;refine zF (fun hb2=>?_) fun hb2=>?_;rotate_left
 ·have hil:i=L.length:=by simp only[zgF] at hb2;omega
  rw[hil,zgQ] at hc;rw[hc] at h;exact h s
 have hil:i<L.length:=by simp only[zgH] at hb2;omega
 obtain⟨j,rfl⟩:∃j,i=j+1:=⟨i-1,by omega⟩
 have step:∀m,m+1<L.length→jA (L.take (m+2))=if L[m+1]?=L[m]? then jA (L.take (m+1)) else jA (L.take (m+1))++L[m+1]?.toList:=fun m hm=>by
  have t1:L.take (m+2)=L.take m++[L[m],L[m+1]]:=by rw[zgJ hm,zgJ (by omega),zg9];rfl
  have t2:L.take (m+1)=L.take m++[L[m]]:=zgJ (by omega);rw[t1,t2,zGN,zgG hm,zgG (show m<L.length by omega)];simp
 obtain⟨a,ha⟩:∃a,L[j+1]?=some a:=⟨_,zgG hil⟩
 obtain⟨b,hb'⟩:∃b,L[j]?=some b:=⟨_,zgG (by omega)⟩
 refine xg ?_;refine je (c:=Value.int .i64) (L:=L) (j:=j+1) (fun w hw=>(zO (s:=s) hw).1) ha ?_ rfl;refine qJ ?_;refine je (c:=Value.int .i64) (L:=L) (j:=j) (fun w hw=>(zO (s:=s) hw).1) hb' ?_ (by omega);have hst:=step j hil;rw[ha,hb'] at hst;refine zF (fun he=>?_) fun he=>?_;rotate_left
 ·have hne:¬some a=some b:=by simpa using he
  rw[if_neg hne] at hst;refine qJ ?_;refine hk' _ ⟨j+2,by simp;omega,by omega,hil,?_⟩ (by omega);rw[hst,hc,zgJ hil];rw[zgG hil] at ha;rw[zhh ha];rfl
 have hab:some a=some b:=by simpa using he
 rw[if_pos hab,hc] at hst;refine zAl (lo:=j+1) (hi:=s.n) (mx:=s.c) ?_;refine qH (α:=Int×Int) (ι:=Nat×Nat×List Int) (fun y i=>y.1=(i.1:Int)∧y.2=(i.2.1:Int)∧1≤i.2.1∧j+1+i.2.1≤L.length∧i.1<j+1+i.2.1∧i.2.2.length=L.length∧i.2.2.drop (j+i.2.1)=L.drop (j+i.2.1)∧i.2.2.take i.1=jA (L.take (j+1+i.2.1)))
  (fun y i=>SlI s i.2.2::Γ) (fun y i=>L.length-i.2.1) (j+1,1,L) ⟨rfl,rfl,zgu _,by simp only;omega,by simp only;omega,rfl,rfl,hst.symm⟩ ?_
 rintro k2 ⟨_,_⟩ ⟨p,q,M⟩ ⟨rfl,rfl,hq1,hq,hpq,hM,hd,ht⟩ hk2;simp only at hq1 hq hpq hM hd ht hk2 ⊢;unfold yA.b2;simp only;refine yw s fun d1 d2 d3 d4=>?_;rw[zgL,zgs] at d1;refine zF (fun hb3=>?_) fun hb3=>?_
 ·have hql:j+1+q<L.length:=by simp only[zgH] at hb3;omega
  obtain⟨x,hx⟩:∃x,L[j+1+q]?=some x:=⟨_,zgG hql⟩
  obtain⟨y,hy⟩:∃y,L[j+q]?=some y:=⟨_,zgG (by omega)⟩
  have hMx:M[j+1+q]?=some x:=by
   have:=congrArg (·[1]?) hd;simp only[zgt] at this;rw[show j+q+1=j+1+q by omega] at this;rw[this,hx]
  have hMy:M[j+q]?=some y:=by
   have:=congrArg (·[0]?) hd;simp only[zgt,zho] at this;rw[this,hy]
  have hrd:∀w,Holds B (SlI s M::Γ) w→RdC w ⟨zCW s.a (j+1) s.c 1,s.n-(j+1),s.c-(j+1)⟩ 1 ((M.drop (j+1)).map (Value.int .i64)):=fun w hw=>by
   have:=(zO (s:=s) hw).1.drop (l:=j+1) (c:=s.c) (by omega) d2 d3;rwa[zgs,←ziJ] at this
  have hst2:=step (j+q) (by omega);rw[show j+q+1=j+1+q by omega,hx,hy,show j+q+2=j+1+(q+1) by omega] at hst2;refine xg ?_;refine je (c:=Value.int .i64) (L:=M.drop (j+1)) (j:=q) hrd (by rw[zgt];exact hMx) ?_ rfl;refine qJ ?_;refine je (c:=Value.int .i64) (L:=M.drop (j+1)) (j:=q-1) hrd (by rw[zgt,show j+1+(q-1)=j+q by omega];exact hMy) ?_ (by omega);unfold yA.s3;refine zF (fun he2=>?_) fun he2=>?_
  ·have hne:¬some x=some y:=by simpa using he2
   rw[if_neg hne] at hst2;refine je (c:=Value.int .i64) (L:=M.drop (j+1)) (j:=q) hrd (by rw[zgt];exact hMx) ?_ rfl;refine zBk (s:=s) (i:=p) ?_;rw[←add0 (elA s p 1)];refine zFV (s:=s) ?_ (by simp;omega);rw[show p*1+0=p by omega,show Value.int .i64 x=(Value.int .i64) x from rfl,←zh8];refine qJ ?_;refine qJ ?_;refine hk2 _ (p+1,q+1,M.set p x) ⟨by simp,by simp,by simp only;omega,by simp only;omega,by simp only;omega,by simpa using hM,?_,?_⟩ (by simp only;omega)
   ·simp only;rw[ziB (by omega),show j+(q+1)=(j+q)+1 by omega,←zgo,hd,zgo]
   ·simp only;rw[zJ3 (by omega),ht,hst2];rfl
  ·have heq:some x=some y:=by simpa using he2
   rw[if_pos heq] at hst2;refine qJ ?_;refine hk2 _ (p,q+1,M) ⟨rfl,by simp,by simp only;omega,by simp only;omega,by simp only;omega,hM,?_,?_⟩ (by simp only;omega)
   ·simp only;rw[show j+(q+1)=(j+q)+1 by omega,←zgo,hd,zgo]
   ·simp only;rw[ht,hst2]
 ·have hql:j+1+q=L.length:=by simp only[zgF] at hb3;omega
  rw[hql,zgQ] at ht;refine zAl (lo:=p) (hi:=s.n) (mx:=s.c) ?_;refine zEZ (s:=s) (m:=p) (c':=s.c) (by omega) (by omega) (zgu _) ?_;rw[show(M.map (Value.int .i64)).take (p*1)=(jA L).map (Value.int .i64) by rw[zgs,←ziI,ht]];refine zJs (s:=⟨s.a,p,s.c⟩) (l:=p) (q:=s.n-p) (m:=s.c) rfl (zgu _) (by simp only;omega) (by omega) ?_;refine zAl (lo:=0) (hi:=p) (mx:=s.c) ?_;rw[zKZ d3];exact h ⟨s.a,p,s.c⟩
def xA(L:List MkX):List Int:=jA (zEd (if L.length=0 then[0] else L.map MkX.home))
theorem zKu(L:List Int):(zEd L).length=L.length:=(zhb L _).length_eq
theorem zM8{ms:Sl}{L:List MkX}{pre:List Value}{Q:Sl→K}(hpre:pre.length=9)(hr:∀w,Holds B Γ w→RdC w ms 3 (L.flatMap mkL))(hL:L.length≤1000)(h:∀s,HG B (SlI s (xA L)::Γ) (Q s)):HG B Γ (vJ.call (pre++[ms.val]).toArray Q):=fun w hw=>by
 refine zMx _ _ _ ?_;have hn:ms.n=L.length:=zAM jB (by omega) (hr w hw);refine Sep.hg hw ?_;clear hw w;unfold vJ;refine zD fun o1=>?_;refine zh (b:=o1) (x:=ms) ?_ (by rw[zI2,zhE (by omega),hpre];rfl);refine zA (Δ:=Γ) ?_;have fin:∀(s:Sl) (H:List Int),H=(if L.length=0 then[0] else L.map MkX.home)→H.length≤1001→HG B (SlI s H::Γ) (vJ.s2 Q (fun _ _=>Q s) s):=fun s H hH hl=>by
  unfold vJ.s2;refine fun w hw=>zKE (by omega) hw fun w hw=>?_;refine Sep.hg hw ?_;clear hw w;refine zRn (by rw[zKu];omega) fun s'=>?_;have:=h s';unfold xA at this;rw[←hH] at this;exact this
 refine zYM (E:=zDF) (esz:=1) (vs:=([]:List Int).map (Value.int .i64)) ?_;refine qH (α:=Sl×Int) (ι:=Nat) (fun x i=>x.2=(i:Int)∧i≤L.length) (fun x i=>SlI x.1 ((L.take i).map MkX.home)::Γ) (fun x i=>L.length-i) 0 ⟨rfl,zgW _⟩ ?_;rintro k' ⟨o,_⟩ i ⟨rfl,hi⟩ hk';simp only at hi hk' ⊢;refine yw o fun b1 b2 b3 b4=>?_;rw[zgL,zgL,zgR] at b1;unfold vJ.b1;refine zF (fun hb=>?_) fun hb=>?_
 ·have hil:i<L.length:=by simp only[zgH] at hb;omega
  have hge:L[i]?=some L[i]:=zgG hil;have htk:L.take (i+1)=L.take i++[L[i]]:=zgJ hil;generalize L[i]=m at hge htk;refine uT mkL jB (fun w hw=>hr w hw.drops) hge ?_;refine zD fun m4=>?_
  repeat refine zT ?_
  refine zDI (s:=o) (m:=1) (us:=[.int .i64 m.home]) (fun o2 ho2=>?_);refine qJ ?_;rw[show((L.take i).map MkX.home).map (Value.int .i64)++[.int .i64 m.home]=((L.take (i+1)).map MkX.home).map (Value.int .i64) by rw[htk];simp];exact zA (hk' (o2,(i:Int)+1) (i+1) ⟨by simp,hil⟩ (by omega))
 ·have hil:i=L.length:=by simp only[zgF] at hb;omega
  rw[hil,zgQ];have fin2:∀(X1:Sl→Int→K) (s:Sl) (H:List Int),H=(if L.length=0 then[0] else L.map MkX.home)→H.length≤1001→HG B (SlI s H::Γ) (vJ.s2 Q X1 s):=fun X1 s H hH hl=>by
   have:=fin s H hH hl;unfold vJ.s2 at this ⊢;exact this
  refine zF (fun hc=>?_) fun hc=>?_
  ·have h0:L.length=0:=by simp only[zgH] at hc;omega
   refine zD fun t21=>?_;refine zBg (A':=SlI ⟨some ⟨t21,0,none⟩,1,1⟩ [0]) (zAq (vs:=[.int .i64 0]) rfl (by simp)) ?_;exact zA (fin2 _ _ [0] (by rw[if_pos h0]) (by simp))
  ·have h0:L.length≠0:=by simp only[zgF] at hc;omega
   exact fin2 _ o _ (by rw[if_neg h0]) (by rw[zgL];omega)
theorem zVy{a b c d:Int}{t:TxX}{ms:Sl}{L:List MkX}{Q:Bool→K}(hr:∀w,Holds B Γ w→RdC w ms 3 (L.flatMap mkL))(hL:L.length≤1000)(h:HG B Γ (Q (decide (t.kind=1)&&decide ((xA L).length=1)))):HG B Γ (zAC.call (orL a b c d t ms).toArray Q):=fun w hw=>by
 refine zLf _ _ _ ?_;refine Sep.hg hw ?_;clear hw w;unfold zAC;refine zD fun o1=>?_
 repeat refine zT ?_
 unfold zAC.s1;refine zF (fun hb=>?_) fun hb=>?_
 ·repeat refine zT ?_
  refine zM8 (pre:=[.int .i64 a,.int .u64 b,.int .u64 c,.int .i64 d,.int .i64 t.kind,t.rs.val,t.ws.val,t.os.val,.int .i64 t.to]) (L:=L) rfl (fun w hw=>hr w hw.drops) hL fun s=>?_;refine yw s fun b1 b2 b3 b4=>?_;rw[zgL,zgs] at b1;rw[hb,zhH] at h;rw[show decide ((s.n:Int)=1)=decide ((xA L).length=1) from ziD.2 (by omega)];exact zA h
 ·rw[hb,zhs] at h;exact zA h
end
end
section
open Go Go.Sep
structure zIa where
 last:Int
 seen:List zx
structure zaR(S:List zx)(N:Nat)(D:List (zx×Int)):Prop where
 keys:D.map Prod.fst=S
 once:S.Nodup
 cnt:∀p∈D,1≤p.2∧p.2≤N
abbrev zKv(rg last:Int)(m:Nat):List Value:=[.int .i64 rg,.int .i64 last,.map (some m)]
def zJP(fb:Nat)(rg:Int)(N:Nat)(f:zIa):zB:=ex fun m=>ex fun D:List (zx×Int)=>Sep.stars [pur (zaR f.seen N D),blk fb (.cells (zKv rg f.last m).toArray jf (0,0)),vv (kyS zQ) (Value.int .i64) m D]
def firstM(tag:zx)(S:List zx):List zx:=if tag∈S then S else S++[tag]
def zCB(rg:Int)(f:zIa)(kind ix:Int)(tag:zx)(homes:List Int)(single:Bool):zIa×Bool :=
 if rg∉homes then(f,false) else
 if kind=1∧single=true then({ f with seen:=firstM tag f.seen },!decide (tag∈f.seen)) else
 if kind=2∧single=false∧f.last<ix then({ f with last:=ix },true) else(f,false)
section
variable{B:World}{Γ Δ:List zB}{fb N:Nat}{rg:Int}{f:zIa}{k:K}
theorem zYV(h:∀m D,zaR f.seen N D→HG B (blk fb (.cells (zKv rg f.last m).toArray jf (0,0))::vv (kyS zQ) (Value.int .i64) m D::Γ) k):HG B (zJP fb rg N f::Γ) k :=
 zCE fun m=>zCE fun D=>zBL<|zHK fun h1=>h m D h1
theorem zKF{m:Nat}{D:List (zx×Int)}(h1:zaR f.seen N D)(h:HG B (zJP fb rg N f::Γ) k):HG B (blk fb (.cells (zKv rg f.last m).toArray jf (0,0))::vv (kyS zQ) (Value.int .i64) m D::Γ) k:=fun w hw=>by
 refine h w ?_;have h3:Holds B (Sep.stars [pur (zaR f.seen N D),blk fb (.cells (zKv rg f.last m).toArray jf (0,0)),vv (kyS zQ) (Value.int .i64) m D]::Γ) w:=Holds.flat.2 (Holds.pur.2 ⟨h1,hw⟩);exact h3.imp fun g hg=>⟨m,D,hg⟩
instance(priority:=high) ze0:Sep.Own fb (zJP fb rg N f::Γ) (zJP fb rg N f) Γ:=⟨.refl _⟩
theorem zTH{N':Nat}(hN:N≤N')(h:HG B (zJP fb rg N' f::Γ) k):HG B (zJP fb rg N f::Γ) k:=zYV fun m D hD=>zKF ⟨hD.keys,hD.once,fun p hp=>by have:=hD.cnt p hp;omega⟩ h
theorem zVz{q:Option Addr→K}(h:∀fb,HG B (zJP fb rg 0 ⟨-1,[]⟩::Γ) (q (some ⟨fb,0,none⟩))):HG B Γ (zBf.call rg q):=by
 refine fun w hw=>zF3 _ _ _ ?_;refine hg hw ?_;clear hw w;unfold zBf;refine zGL (enc:=kyS zQ) (cV:=Value.int .i64) fun m=>?_;refine zD fun fb=>?_;exact zKF (f:=⟨-1,[]⟩) (D:=[]) ⟨rfl,by simp,by simp⟩ (h fb)
theorem zV0{D:List (zx×Int)}{tag:zx}:(qj tag D).isSome=true↔tag∈D.map Prod.fst:=by
 induction D with
 | nil=>simp[qj]
 | cons p D ih=>
  unfold qj;split
  ·rename_i h;simp[h]
  ·rename_i h;rw[ih];simp[h]
theorem zOm{α ν:Type}[DecidableEq α]{k:α}{v:ν}{p:α×ν}:∀{M:List (α×ν)},p∈uH k v M→p=(k,v)∨p∈M
 | [],h=>by
  unfold uH at h;exact .inl (zgM.1 h)
 | q::M,h=>by
  unfold uH at h;split at h
  ·rcases zgS.1 h with h|h
   ·exact .inl h
   ·exact .inr (zgI _ h)
  ·rcases zgS.1 h with h|h
   ·exact .inr (h▸zgN)
   ·exact(zOm h).imp id (zgI _)
theorem zYW{tag:zx}{q:Bool→K}(hN:N≤1000000000)(h:HG B (zJP fb rg (N+1) { f with seen:=firstM tag f.seen }::Γ) (q (!decide (tag∈f.seen)))):HG B (zJP fb rg N f::Γ) (zAI.call (some ⟨fb,0,none⟩) (zQ tag).toArray q):=by
 refine fun w hw=>zGT _ _ _ _ ?_;refine hg hw ?_;clear hw w;refine zYV fun m D hD=>?_;unfold zAI;refine zD fun t3=>?_;have hc:0≤(qj tag D).getD 0∧(qj tag D).getD 0≤N:=by
  cases hg:qj tag D with
  | none=>simp
  | some v=>have:=hD.cnt _ (zFx hg);simp only[zhP];simp only at this;omega
 have hz:(qj tag D).getD 0=0↔tag∉f.seen:=by
  rw[←hD.keys,←zV0];cases hg:qj tag D with
  | none=>simp
  | some v=>have:=hD.cnt _ (zFx hg);simp only[zhP,Option.isSome_some,not_true,iff_false];simp only at this;omega
 refine xg ?_;refine zLO (fun w=>w.cell? ((⟨fb,0,none⟩:Addr).add 2)=some (.map (some m))∧RdN w ⟨t3,0,none⟩ (zQ tag).toArray∧(Instr.lookup zDG (.map (some m)) (kyS zQ tag) false).run Tryz.prog w = .ok (.int .i64 ((qj tag D).getD 0)) w) (fun w hw=>⟨by rw[jD];exact y9 (xZ hw (b:=fb)) rfl,zDu (b:=t3) (l:=zQ tag) (n:=4) hw,zUj (b:=m) hw zDq zEX⟩) ?_;refine uf ?_;refine zDt (x:=some m) (fun w hS=>hS.1) ?_;refine zES (l:=zQ tag) (fun w hS=>hS.2.1) ?_;refine zcp (x:=(qj tag D).getD 0) (fun w hS=>hS.2.2) ?_;refine qJ ?_;refine zYO (b:=m) (m:=D) (cV:=Value.int .i64) (z:=(0:Int)) (a:=tag) (zfo zDq) zEX fun stp=>?_;refine zF1 (fun w hw=>⟨by rw[jD];exact y9 (xZ hw (b:=fb)) rfl,zDu (b:=t3) (l:=zQ tag) (n:=4) hw,by
  have h1:=zUj (b:=m) (m:=uH tag ((qj tag D).getD 0) D) (cV:=Value.int .i64) (a:=tag) (T:=zDG) (zTD.map hw) zDq zEX;rw[zOk] at h1;exact h1⟩) ?_
 refine zTE (b:=m) (enc:=kyS zQ) (cV:=Value.int .i64) (m:=D) (z:=(0:Int)) (a:=tag) (v:=(qj tag D).getD 0+1) rfl ?_;refine xg ?_;refine zh (b:=fb) (off:=2) (l:=zKv rg f.last m) (x:=some m) ?_;refine yC (b:=t3) (l':=zQ tag) ?_;refine zMf (b:=m) (m:=uH tag ((qj tag D).getD 0+1) D) (cV:=Value.int .i64) (z:=(0:Int)) (a:=tag) zDq zEX ?_;rw[zOk,zhP];have e:decide ((qj tag D).getD 0+1=1) = !decide (tag∈f.seen):=by
  by_cases hm:tag∈f.seen
  ·have:¬(qj tag D).getD 0=0:=fun h0=>hz.1 h0 hm;simp[hm];omega
  ·rw[hz.2 hm];simp[hm]
 rw[e];refine yN m ?_;refine yN fb ?_;refine zKF (f:={ f with seen:=firstM tag f.seen }) (N:=N+1) ⟨?_,?_,fun p hp=>?_⟩ (zA h)
 ·rw[zEK,hD.keys];rfl
 ·unfold firstM;split
  ·exact hD.once
  ·rename_i hm;exact zhd.2 ⟨hD.once,by simp,fun a ha b hb=>by rw[zgM.1 hb];exact fun e=>hm (e▸ha)⟩
 ·rcases zOm hp with rfl|hp
  ·simp only;omega
  ·have:=hD.cnt p hp;omega
theorem zV1{s:Sl}{L:List Int}{x:Int}{q:Bool→K}(hL:L.length<1000000000)(hr:∀w,Holds B Γ w→RdC w s 1 (L.map (Value.int .i64)))(h:HG B Γ (q (decide (x∈L)))):HG B Γ (uJ.call s x q):=fun w hw=>by
 refine zEh _ _ _ _ ?_;have hsn:s.n=L.length:=by have:=(hr w hw).len;simpa using this.symm
 refine hg hw ?_;clear hw w;unfold uJ;refine fun w hw=>zFO _ _ _ _ ?_;refine hg hw ?_;clear hw w;unfold xq;refine zAa (α:=Int) (fun y=>∃i:Nat,y=(i:Int)∧i≤L.length∧x∉L.take i) (fun y=>L.length-y.toNat) ⟨0,rfl,zgW _,by simp⟩ fun k' y hy hk'=>?_;obtain⟨i,rfl,hi,hno⟩:=hy;unfold xq.b1;refine zF (fun hb=>?_) fun hb=>?_
 ·have hil:i<L.length:=by simp only[zgH] at hb;omega
  have hge:L[i]?=some L[i]:=zgG hil;have hmem:L[i]∈L:=zgX hil;have htk:L.take (i+1)=L.take i++[L[i]]:=zgJ hil;generalize L[i]=z at hge hmem htk;refine je (L:=L) hr hge ?_;refine zF (fun hc=>?_) fun hc=>?_
  ·have hxz:x=z:=by simpa using hc
   show HG B Γ (q (decide ((0:Int)≤(i:Int))));rw[show decide ((0:Int)≤(i:Int))=decide (x∈L) by simp[hxz,hmem]];exact h
  ·have hxz:x≠z:=by simpa using hc
   refine qJ ?_;refine hk' _ ⟨i+1,by simp,hil,?_⟩ (by omega);rw[htk,zgP,zgM];exact fun hh=>hh.elim hno hxz
 ·have hil:i=L.length:=by simp only[zgF] at hb;omega
  rw[hil,zgQ] at hno;show HG B Γ (q (decide ((0:Int) ≤ -1)));rw[show decide ((0:Int) ≤ -1)=decide (x∈L) by simp[hno]];exact h
theorem zTI{kind ix:Int}{tag:zx}{t:TxX}{ms:Sl}{mks:List MkX}{q:Bool→K}(hm:∀w,Holds B Γ w→RdC w ms 3 (mks.flatMap mkL))(hml:mks.length≤1000)(hN:N≤1000000000)
  (h:HG B (zJP fb rg (N+1) (zCB rg f kind ix tag (xA mks) (decide (t.kind=1)&&decide ((xA mks).length=1))).1::Γ) (q (zCB rg f kind ix tag (xA mks) (decide (t.kind=1)&&decide ((xA mks).length=1))).2)) :
  HG B (zJP fb rg N f::Γ) (yh.call (some ⟨fb,0,none⟩) (.int .i64 kind::.int .i64 ix::orV tag t ms).toArray q):=by
 refine fun w hw=>zGp _ _ _ _ ?_;refine hg hw ?_;clear hw w;have hhl:(xA mks).length≤100000:=by
  have h1:=zIG (zEd (if mks.length=0 then[0] else mks.map MkX.home));rw[zKu] at h1;have h2:(if mks.length=0 then[0] else mks.map MkX.home).length≤1000:=by split <;> simp <;> omega
  unfold xA;omega
 generalize hH:xA mks=H at *;generalize hS:(decide (t.kind=1)&&decide (H.length=1))=sg at *;refine zYV fun m D hD=>?_;unfold yh;refine zD fun i3=>?_;refine xg ?_;refine zBl [blk i3 (.cells (.int .i64 kind::.int .i64 ix::orV tag t ms).toArray uq (0,0)),blk fb (.cells (zKv rg f.last m).toArray jf (0,0))] ?_;refine uf ?_;refine jq (b:=i3) (off:=2) (l:=.int .i64 kind::.int .i64 ix::orV tag t ms) (l':=orV tag t ms) ?_;refine jK (b:=fb) (l:=zKv rg f.last m) (x:=rg) ?_;refine zM8 (pre:=zQ tag++txL t) (L:=mks) rfl (fun w hw=>hm w hw.drops) (by omega) fun hs=>?_;rw[hH];refine vS ?_;refine zV1 (L:=H) (by omega) (fun w hw=>(zO (s:=hs) hw).1) ?_;have back:∀{X:List zB} {kk:K} [Drops X (blk fb (.cells (zKv rg f.last m).toArray jf (0,0))::vv (kyS zQ) (Value.int .i64) m D::Γ)],HG B (zJP fb rg N f::Γ) kk→HG B X kk:=by
  intro X kk d hk;exact zA (d:=d) (zKF hD hk)
 by_cases hr:rg∈H;rotate_left
 ·rw[zgU hr];refine s_t ?_;rw[show zCB rg f kind ix tag H sg=(f,false) by unfold zCB;rw[if_pos hr]] at h;exact back (zTH (by omega) h)
 rw[zga hr];refine s_f ?_;refine yC (b:=i3) (off:=2) (l:=.int .i64 kind::.int .i64 ix::orV tag t ms) (l':=orV tag t ms) ?_;refine zVy (L:=mks) (fun w hw=>hm w hw.drops) (by omega) ?_;rw[hH,hS];have S2:∀b:Bool,(b=true↔kind=2∧sg=false∧f.last<ix)→¬(kind=1∧sg=true)→HG B (blk i3 (.cells (.int .i64 kind::.int .i64 ix::orV tag t ms).toArray uq (0,0))::blk fb (.cells (zKv rg f.last m).toArray jf (0,0))::vv (kyS zQ) (Value.int .i64) m D::Γ) (yh.s2 q ⟨fb,0,none⟩ ⟨i3,0,none⟩ b):=fun b hb hn=>by
  unfold yh.s2;cases b
  ·refine s_f ?_;rw[show zCB rg f kind ix tag H sg=(f,false) by unfold zCB;rw[if_neg (by simp[hr]),if_neg hn,if_neg fun hh=>by have:=hb.2 hh;cases this]] at h;exact back (zTH (by omega) h)
  ·refine s_t ?_;rw[show zCB rg f kind ix tag H sg=({ f with last:=ix },true) by unfold zCB;rw[if_neg (by simp[hr]),if_neg hn,if_pos (hb.1 rfl)]] at h;refine zh (b:=i3) (off:=1) (l:=.int .i64 kind::.int .i64 ix::orV tag t ms) (x:=ix) ?_;refine zCN (b:=fb) (l:=zKv rg f.last m) (l':=zKv rg ix m) ?_ rfl rfl;refine yN m ?_;refine yN fb ?_;exact zKF (f:={ f with last:=ix }) (N:=N+1) ⟨hD.keys,hD.once,fun p hp=>by have:=hD.cnt p hp;omega⟩ (zA h)
 have S1:∀b:Bool,(b=true↔kind=1∧sg=true)→HG B (blk i3 (.cells (.int .i64 kind::.int .i64 ix::orV tag t ms).toArray uq (0,0))::blk fb (.cells (zKv rg f.last m).toArray jf (0,0))::vv (kyS zQ) (Value.int .i64) m D::Γ) (yh.s1 q ⟨fb,0,none⟩ ⟨i3,0,none⟩ sg b):=fun b hb=>by
  unfold yh.s1;cases b
  ·have hn:¬(kind=1∧sg=true):=fun hh=>by have:=hb.2 hh;cases this
   refine s_f ?_;refine xg ?_;refine zh (b:=i3) (l:=.int .i64 kind::.int .i64 ix::orV tag t ms) (x:=kind) ?_;refine zF (fun h2=>?_) fun h2=>?_
   ·have hk2:kind=2:=by simpa using h2
    refine zF (fun h3=>?_) fun h3=>?_
    ·have hs3:sg=false:=by simpa using h3
     refine zh (b:=i3) (off:=1) (l:=.int .i64 kind::.int .i64 ix::orV tag t ms) (x:=ix) ?_;refine zh (b:=fb) (off:=1) (l:=zKv rg f.last m) (x:=f.last) ?_;exact S2 _ (by simp[hk2,hs3]) hn
    ·have hs3:sg=true:=by simpa using h3
     exact S2 false (by simp[hs3]) hn
   ·have hk2:kind≠2:=by simpa using h2
    exact S2 false (by simp[hk2]) hn
  ·have hy:=hb.1 rfl;refine s_t ?_;refine yC (b:=i3) (off:=2) (l:=.int .i64 kind::.int .i64 ix::orV tag t ms) (l':=zQ tag) ?_;refine back ?_;refine zYW hN ?_;rw[show zCB rg f kind ix tag H sg=({ f with seen:=firstM tag f.seen },!decide (tag∈f.seen)) by unfold zCB;rw[if_neg (by simp[hr]),if_pos hy]] at h;exact h
 refine zh (b:=i3) (l:=.int .i64 kind::.int .i64 ix::orV tag t ms) (x:=kind) ?_;refine zF (fun h1=>?_) fun h1=>?_
 ·have hk1:kind=1:=by simpa using h1
  exact zA (S1 sg (by simp[hk1]))
 ·have hk1:kind≠1:=by simpa using h1
  exact zA (S1 false (by simp[hk1]))
end
end
section
open Go Go.Sep Go.Sep.Bt
def zJQ(t:TxX):TxX:=⟨t.kind,t.reads,t.writes,t.ops.map fun x=>(x.1,⟨none,0,0⟩),t.to,⟨none,0,0⟩,⟨none,0,0⟩,⟨none,0,0⟩⟩
theorem zII(t:TxX):zC9 (zJQ t) t:=⟨rfl,rfl,rfl,rfl,by simp[zJQ,zhc]⟩
theorem zV2{a b:TxX}(h:zC9 a b):zJQ a=zJQ b:=by
 obtain⟨h1,h2,h3,h4,h5⟩:=h;have e:∀L:List OpX,(L.map fun x=>(x.1,(⟨none,0,0⟩:Sl)))=(L.map Prod.fst).map fun o=>(o,⟨none,0,0⟩):=fun L=>by simp[zhc]
 unfold zJQ;rw[h1,h2,h3,h4,e,e,h5]
structure zFP where
 tag:zx
 tx:TxX
 mks:List MkX
 need:List Int
structure zB3 where
 b:Nat
 tag:zx
 t:TxX
 ms:Sl
 mks:List MkX
 ns:Sl
 need:List Int
def zCf(j:zB3):zFP:=⟨j.tag,zJQ j.t,j.mks,j.need⟩
abbrev zP8(j:zB3):List Value:=[.int .i64 j.tag.node,.int .u64 j.tag.epoch,.int .u64 j.tag.seq,.int .i64 j.tag.tr,.int .i64 j.t.kind,j.t.rs.val,j.t.ws.val,j.t.os.val,.int .i64 j.t.to,j.ms.val,j.ns.val]
abbrev zD4(j:zB3):Option Addr:=some ⟨j.b,0,none⟩
abbrev zTJ(j:zB3)(Γ:List zB):List zB:=blk j.b (.cells (zP8 j).toArray zJq (0,0))::SlI j.ns j.need::SlC zi 3 j.ms (j.mks.flatMap mkL)::txC j.t Γ
def zGU(j:zB3):zB:=Sep.stars (zTJ j [])
structure zba(n:Nat)(j:zB3):Prop where
 ord:zCr (n:Int) j.tag j.t j.mks
 nn:∀x∈j.t.ops,-9223372036854775808≤x.1.n∧x.1.n≤9223372036854775807
 nl:j.need.length≤1000
structure DcM where
 tag:zx
 code:Int
 out:OM
structure DcX where
 tag:zx
 code:Int
 os:Sl
 O:OX
def zIb(d:DcX):DcM:=⟨d.tag,d.code,d.O.map Prod.fst⟩
abbrev dcF(d:DcX):List Value:=[.int .i64 d.tag.node,.int .u64 d.tag.epoch,.int .u64 d.tag.seq,.int .i64 d.tag.tr,.int .i64 d.code,d.os.val]
theorem zUm(d:DcX):(dcF d).length=6:=rfl
def dcO(d:DcX):zB:=Sep.stars [SlC qA 2 d.os (d.O.flatMap oF),Sep.stars (d.O.map oB)]
def zM9{α:Type}(p:α→Bool):List α→Option (α×List α)
 | []=>none
 | j::J=>if p j then some (j,J) else(zM9 p J).map fun r=>(r.1,j::r.2)
theorem zNA{α:Type}{p:α→Bool}:∀{J:List α},(∀y∈J,p y=false)→zM9 p J=none
 | [],_=>rfl
 | j::J,h=>by
  unfold zM9;rw[if_neg (by simp[h j zgN]),zNA fun y hy=>h y (zgI _ hy)];rfl
theorem zOn{α:Type}{p:α→Bool}{x:α}{C:List α}:∀{A:List α},(∀y∈A,p y=false)→p x=true→zM9 p (A++x::C)=some (x,A++C)
 | [],_,h=>by simp[zM9,h]
 | j::J,h,h2=>by
  rw[zhC];unfold zM9;rw[if_neg (by simp[h j zgN]),zOn (fun y hy=>h y (zgI _ hy)) h2];rfl
def pick(G:GM×DM)(j:zFP):Bool:=decide (j.need=[])&&(G.2 j.tag||zFj j.tag G.1)
def zAo(n:Nat):Nat→List zFP→zo→GM×DM→(List zFP×zo×(GM×DM))×List DcM
 | 0,J,M,G=>((J,M,G),[])
 | f+1,J,M,G=>match zM9 (pick G) J with
  | none=>((J,M,G),[])
  | some (j,J')=>((zAo n f J' (zDe n j.tag j.tx M G) (zFl n j.tag j.tx M G)).1,⟨j.tag,zFm n j.tag j.tx M G,zKs n j.tag j.tx M G⟩::(zAo n f J' (zDe n j.tag j.tx M G) (zFl n j.tag j.tx M G)).2)
theorem zUn{α:Type}(p:α→Bool):∀L:List α,(∀y∈L,p y=false)∨∃A x C,L=A++x::C∧(∀y∈A,p y=false)∧p x=true
 | []=>.inl (by simp)
 | x::L=>by
  cases hx:p x with
  | true=>exact .inr ⟨[],x,L,rfl,by simp,hx⟩
  | false=>
   rcases zUn p L with h|⟨A,y,C,h1,h2,h3⟩
   ·refine .inl fun z hz=>?_;rcases zgS.1 hz with rfl|hz
    ·exact hx
    ·exact h z hz
   ·refine .inr ⟨x::A,y,C,by rw[h1];rfl,fun z hz=>?_,h3⟩;rcases zgS.1 hz with rfl|hz
    ·exact hx
    ·exact h2 z hz
theorem zeW{α:Type}{p:α→Bool}{A C:List α}{x:α}(hA:∀y∈A,p y=false)(hx:p x=true):zFH ((A++x::C).findIdx? p)=(A.length:Int):=by
 have:(A++x::C).findIdx? p=some A.length:=by
  rw[List.findIdx?_append,zhN.2 hA];simp[ziE,hx]
 rw[this];rfl
theorem zRo{n:Nat}{g:zx}{a b:TxX}{M:zo}{G:GM×DM}(h:zC9 a b):zDe n g a M G=zDe n g b M G∧zFl n g a M G=zFl n g b M G∧zFm n g a M G=zFm n g b M G∧zKs n g a M G=zKs n g b M G:=by
 have e:=zVq (n:=n) (M:=M) h;obtain⟨h1,h2,h3,h4,h5⟩:=h;unfold zDe zFl zFm zKs wrU;rw[e,h1,h4];exact⟨rfl,rfl,rfl,rfl⟩
theorem zNB{n:Nat}:∀(W:WM) (M:zo),(zAU n M W).length≤M.length+2*W.length
 | [],M=>by simp[zAU]
 | x::W,M=>by
  have h1:=zMs n M x;have h2:=zNB (n:=n) W (zDL n M x);show(zAU n (zDL n M x) W).length≤_;simp only[zgO];omega
theorem zNC{n:Nat}{rg:Int}{g:zx}{t:TxX}{M:zo}{G:GM×DM}(hrt:qC rg t=true):(zDe n g t M G).length≤M.length+32:=by
 unfold zDe;split
 ·omega
 ·have:=zNB (n:=n) (wrU n M t) M;have:=(zaQ (n:=n) (M:=M) hrt).1;omega
section
variable{B:World}{Γ Δ:List zB}{k:K}{sd st l n:Nat}{M:zo}{G:GM×DM}{a b c:Sl}{J:List zB3}
theorem zUo{j:zB3}(h:HG B (zTJ j Γ) k):HG B (zGU j::Γ) k:=zBL h
theorem zL8{j:zB3}(h:HG B (zGU j::Γ) k):HG B (zTJ j Γ) k:=fun w hw=>h w ((Holds.flat (Δ:=zTJ j [])).2 hw)
theorem zct{d:DcX}(h:HG B (dcO d::Γ) k):HG B (SlC qA 2 d.os (d.O.flatMap oF)::Sep.stars (d.O.map oB)::Γ) k:=fun w hw=>h w ((Holds.flat (Δ:=[SlC qA 2 d.os (d.O.flatMap oF),Sep.stars (d.O.map oB)])).2 hw)
theorem zIJ{α:Type}{F:α→zB}{A:List α}{x:α}(h:HG B (Sep.stars ((A++[x]).map F)::Γ) k):HG B (F x::Sep.stars (A.map F)::Γ) k:=by
 refine zAb (A:=A) (C:=[]) ?_|>fun h=>by rw[zgy] at h;exact h
 exact h
abbrev zLk(sd st l n:Nat)(M:zo)(G:GM×DM)(a b c:Sl)(J:List zB3)(Γ:List zB):List zB :=
 blk sd (.cells (sdL st l a b c).toArray yS (0,0))::vL l G.1 G.2::yM st n M::SlC uw 1 c ((J.map zD4).map Value.pointer)::Sep.stars (J.map zGU)::Γ
abbrev fiJ(b:Nat):Value:=.func (.func 125) #[] #[.pointer (some ⟨b,0,none⟩)]
abbrev woJ(b:Nat):Value:=.func (.func 126) #[] #[.pointer (some ⟨b,0,none⟩)]
theorem zYX{tag:zx}{q:Option Addr→K}(hJ:J.length≤1000000)(hno:(∀j∈J,j.tag≠tag)→HG B (zLk sd st l n M G a b c J Γ) (q none))(hyes:∀A j C,J=A++j::C→(∀y∈A,y.tag≠tag)→j.tag=tag→HG B (zLk sd st l n M G a b c J Γ) (q (zD4 j))):
  HG B (zLk sd st l n M G a b c J Γ) (zBE.call (some ⟨sd,0,none⟩) (zQ tag).toArray q):=by
 refine fun w hw=>zIV _ _ _ _ ?_;refine hg hw ?_;clear hw w;refine yw c fun a1 a2 a3 a4=>?_;rw[zgL,zgL,zgs] at a1;unfold zBE;refine zD fun tb=>?_;refine uf ?_;refine zh (b:=sd) (off:=4) (l:=sdL st l a b c) (x:=c) ?_;refine fun w hw=>zAK _ _ _ _ ?_;refine hg hw ?_;clear hw w;show HG B _ (zIw Tryz.prog (zVd Value.pointer) c (fiJ tb) _);refine zIA (vV:=fun e:zB3=>.pointer (zD4 e)) (L:=J) (fun j=>decide (j.tag=tag)) (by omega) (by omega) (fun i x k hx hk=>?_) (fun e q he hq=>?_) ?_
 ·exact je (c:=Value.pointer) (fun w hw=>(zO (s:=c) hw).1) (by rw[zgk,hx];rfl) hk
 ·obtain⟨A,C,rfl⟩:=zhf he;refine zEa (cs:=[.pointer (some ⟨tb,0,none⟩)]) ?_;refine fun w hw=>zGl _ _ _ _ ?_;refine hg hw ?_;clear hw w;unfold zB7;refine qc (Sep.stars ((A++e::C).map zGU)) ?_;refine zFB ?_;refine zUo ?_;refine xg ?_;refine uf ?_;refine yC (b:=e.b) (l:=zP8 e) (l':=zQ e.tag) ?_;refine yC (b:=tb) (l':=zQ tag) ?_;refine zHQ (xs:=zQ e.tag) (ys:=zQ tag) (ks:=zJ2) (p:=e.tag=tag) zBw ?_;refine zL8 ?_;refine zAb ?_;exact zA hq
 ·rcases zUn (fun j:zB3=>decide (j.tag=tag)) J with hn|⟨A,e,C,rfl,hA,he⟩
  ·rw[zhN.2 hn];refine s_t ?_ (by simp[zFH]);exact zA (hno fun j hj=>by simpa using hn j hj)
  ·rw[zeW hA he];refine s_f ?_ (by simp);refine zh (b:=sd) (off:=4) (l:=sdL st l a b c) (x:=c) ?_;refine je (c:=Value.pointer) (L:=(A++e::C).map zD4) (j:=A.length) (x:=zD4 e) (fun w hw=>(zO (s:=c) hw).1) (by simp) ?_;exact zA (hyes A e C rfl (fun y hy=>by simpa using hA y hy) (by simpa using he))
theorem zJR{f:Nat}{L:List zFP}(h:∀y∈L,pick G y=false):zAo n f L M G=((L,M,G),[]):=by
 cases f with
 | zero=>rfl
 | succ f=>unfold zAo;rw[zNA h]
theorem zJS{f:Nat}{A C:List zFP}{j:zFP}(hA:∀y∈A,pick G y=false)(hj:pick G j=true):
  zAo n (f+1) (A++j::C) M G=((zAo n f (A++C) (zDe n j.tag j.tx M G) (zFl n j.tag j.tx M G)).1,⟨j.tag,zFm n j.tag j.tx M G,zKs n j.tag j.tx M G⟩::(zAo n f (A++C) (zDe n j.tag j.tx M G) (zFl n j.tag j.tx M G)).2):=by
 rw[zAo,zOn hA hj]
abbrev s1B(s1 sd:Nat):zB:=blk s1 (.cells [.pointer (some ⟨sd,0,none⟩)].toArray zD9 (0,0))
theorem zaS{s1 T:Nat}{A C:List zB3}{e:zB3}{q:Bool→K}(hsz:SzG T G)(hT:T≤1000000)(hJ:J=A++e::C)(hq:HG B (s1B s1 sd::zLk sd st l n M G a b c J Γ) (q (pick G (zCf e)))):
  HG B (s1B s1 sd::zLk sd st l n M G a b c J Γ) (vH.call (zD4 e) ⟨s1,0,none⟩ q):=by
 refine fun w hw=>zGm _ _ _ _ ?_;refine hg hw ?_;clear hw w;unfold vH vH.s1;subst hJ;refine uf ?_;refine qc (Sep.stars ((A++e::C).map zGU)) ?_;refine zFB ?_;refine zUo ?_;refine yw e.ns fun a1 a2 a3 a4=>?_;rw[zgL,zgs] at a1;have hz:decide ((e.ns.n:Int)=0)=decide (e.need=[]):=by
  rw[←a1];cases e.need <;> simp
  omega
 have back:HG B (zTJ e (Sep.stars ((A++C).map zGU)::s1B s1 sd::blk sd (.cells (sdL st l a b c).toArray yS (0,0))::vL l G.1 G.2::yM st n M::SlC uw 1 c (((A++e::C).map zD4).map Value.pointer)::Γ)) (q (pick G (zCf e))):=by
  refine zL8 ?_;refine zAb ?_;exact zA hq
 have hpk:pick G (zCf e)=(decide (e.need=[])&&(G.2 e.tag||zFj e.tag G.1)):=rfl;rw[hpk] at back;refine yC (b:=e.b) (l:=zP8 e) (l':=zQ e.tag) ?_;refine zD fun tb=>?_;refine yX (b:=tb) (l':=zQ e.tag) ?_;refine xg ?_;refine zBl [blk e.b (.cells (zP8 e).toArray zJq (0,0)),blk tb (.cells (zQ e.tag).toArray zN (0,0)),s1B s1 sd,blk sd (.cells (sdL st l a b c).toArray yS (0,0))] ?_;refine jK (b:=e.b) (off:=10) (l:=zP8 e) (x:=e.ns) ?_;rw[hz];refine zF (fun h1=>?_) fun h1=>?_
 ·refine jK (b:=s1) (l:=[.pointer (some ⟨sd,0,none⟩)]) (x:=some ⟨sd,0,none⟩) ?_;refine uf ?_;refine jK (b:=sd) (off:=1) (l:=sdL st l a b c) (x:=some ⟨l,0,none⟩) ?_;refine jq (b:=tb) (l:=zQ e.tag) (l':=zQ e.tag) ?_;refine yN l ?_;refine zOZ ?_;refine vS ?_;rw[h1,zhH] at back;by_cases hd:G.2 e.tag=true
  ·rw[hd] at back ⊢;refine s_t ?_;exact zA back
  ·rw[Bool.eq_false_iff.2 hd] at back ⊢;refine s_f ?_;refine jK (b:=s1) (l:=[.pointer (some ⟨sd,0,none⟩)]) (x:=some ⟨sd,0,none⟩) ?_;refine uf ?_;refine jK (b:=sd) (off:=1) (l:=sdL st l a b c) (x:=some ⟨l,0,none⟩) ?_;refine jq (b:=tb) (l:=zQ e.tag) (l':=zQ e.tag) ?_;refine zX0 hsz.gsz hT ?_;rw[Bool.false_or] at back;exact zA back
 ·rw[h1,zhs] at back;exact zA back
theorem zND{A C:List zB3}{e:zB3}:(A++e::C).map zCf=A.map zCf++zCf e::C.map zCf:=by simp
theorem zYY{Pm:zo→Prop}{Pt:TxX→Prop}{T:Nat}{q:Sl→K}(Kt:zRk n Pm Pt)(hPm:Pm M)(hPt:∀j∈J,Pt j.t)(hok:∀j∈J,zba n j)(hsz:SzG T G)(hT:T+J.length≤900000)(hM:M.length+32*J.length≤10000000)
  (h:∀(s:Sl) (D:List DcX) (c':Sl) (J':List zB3),D.map zIb=(zAo n J.length (J.map zCf) M G).2→J'.map zCf=(zAo n J.length (J.map zCf) M G).1.1→(∀j∈J',j∈J)→J'.length+D.length=J.length→(zAo n J.length (J.map zCf) M G).1.2.1.length≤M.length+32*D.length→SzG (T+D.length) (zAo n J.length (J.map zCf) M G).1.2.2 →
   HG B (SlC zu 6 s (D.flatMap dcF)::Sep.stars (D.map dcO)::zLk sd st l n (zAo n J.length (J.map zCf) M G).1.2.1 (zAo n J.length (J.map zCf) M G).1.2.2 a b c' J' Γ) (q s)) :
  HG B (zLk sd st l n M G a b c J Γ) (vM.call (some ⟨sd,0,none⟩) q):=by
 refine fun w hw=>zIW _ _ _ ?_;refine hg hw ?_;clear hw w;unfold vM;refine zD fun s1=>?_;refine fun w hw=>?_;refine hg (show Holds B (SlC zu 6 ⟨none,0,0⟩ (([]:List DcX).flatMap dcF)::Sep.stars (([]:List DcX).map dcO)::s1B s1 sd::zLk sd st l n M G a b c J Γ) w from(hw.zAA).ji _ _) ?_;clear hw w;generalize hW:zAo n J.length (J.map zCf) M G=W at h;refine qH (α:=Sl) (ι:=List zB3×zo×(GM×DM)×List DcX×Sl)
  (fun x i=>Pm i.2.1∧(∀j∈i.1,j∈J)∧i.1.length+i.2.2.2.1.length=J.length∧SzG (T+i.2.2.2.1.length) i.2.2.1∧i.2.1.length≤M.length+32*i.2.2.2.1.length∧(zAo n i.1.length (i.1.map zCf) i.2.1 i.2.2.1).1=W.1∧i.2.2.2.1.map zIb++(zAo n i.1.length (i.1.map zCf) i.2.1 i.2.2.1).2=W.2)
  (fun x i=>SlC zu 6 x (i.2.2.2.1.flatMap dcF)::Sep.stars (i.2.2.2.1.map dcO)::s1B s1 sd::zLk sd st l n i.2.1 i.2.2.1 a b i.2.2.2.2 i.1 Γ)
  (fun x i=>i.1.length) (J,M,G,[],c) ⟨hPm,fun _ h=>h,by simp,by simpa using hsz,by simp,by rw[hW],by rw[hW];simp⟩ ?_
 rintro k' o ⟨J1,M1,G1,D1,c1⟩ ⟨i0,i1,i2,i3,i4,i5,i6⟩ hk';simp only at i0 i1 i2 i3 i4 i5 i6 hk' ⊢;refine yw c1 fun a1 a2 a3 a4=>?_;rw[zgL,zgL,zgs] at a1;refine yw o fun b1 b2 b3 b4=>?_;rw[zH _ 6 zUm] at b1;unfold vM.b1;refine zh (b:=s1) (l:=[.pointer (some ⟨sd,0,none⟩)]) (x:=some ⟨sd,0,none⟩) ?_;refine uf ?_;refine zh (b:=sd) (off:=4) (l:=sdL st l a b c1) (x:=c1) ?_;refine fun w hw=>zAK _ _ _ _ ?_;refine hg hw ?_;clear hw w;show HG B _ (zIw Tryz.prog (zVd Value.pointer) c1 (woJ s1) _);refine zIA (vV:=fun e:zB3=>.pointer (zD4 e)) (L:=J1) (fun j=>pick G1 (zCf j)) (by omega) (by omega) (fun i x k hx hk=>?_) (fun e q he hq=>?_) ?_
 ·exact je (c:=Value.pointer) (fun w hw=>(zO (s:=c1) hw).1) (by rw[zgk,hx];rfl) hk
 ·obtain⟨A,C,hAC⟩:=zhf he;refine zEa (cs:=[.pointer (some ⟨s1,0,none⟩)]) ?_;refine qc (Sep.stars (J1.map zGU)) ?_;refine uL c1 ?_;refine yN st ?_;refine yN l ?_;refine yN sd ?_;refine yN s1 ?_;refine zaS (T:=T+D1.length) i3 (by omega) hAC ?_;exact zA hq
 ·rcases zUn (fun j:zB3=>pick G1 (zCf j)) J1 with hn|⟨A,e,C,rfl,hA,he⟩
  ·rw[zhN.2 hn];refine s_t ?_ (by simp[zFH]);rw[zJR (fun y hy=>by obtain⟨z,hz,rfl⟩:=zgV.1 hy;exact hn z hz)] at i5 i6;simp only[zgy] at i5 i6;have h1:=h o D1 c1 J1 (by rw[i6]) (by rw[←i5]) i1 i2;rw[←i5] at h1;exact zA (h1 i4 i3)
  ·rw[zeW hA he];have hlen:(A++e::C).length=A.length+(C.length+1):=by simp
   have hwf:=zJS (n:=n) (f:=(A++C).length) (A:=A.map zCf) (C:=C.map zCf) (j:=zCf e) (M:=M1) (G:=G1) (fun y hy=>by obtain⟨z,hz,rfl⟩:=zgV.1 hy;exact hA z hz) he;rw[←zND,show(A++C).length+1=(A++e::C).length by simp;omega] at hwf;rw[hwf] at i5 i6;have hok1:=hok e (i1 e (by simp));obtain⟨e1,e2,e3,e4⟩:=zRo (n:=n) (g:=e.tag) (a:=zJQ e.t) (b:=e.t) (M:=M1) (G:=G1) (zII e.t);simp only[zCf,e1,e2,e3,e4] at i5 i6;rw[←zgT] at i5 i6;refine s_f ?_ (by simp);refine zh (b:=s1) (l:=[.pointer (some ⟨sd,0,none⟩)]) (x:=some ⟨sd,0,none⟩) ?_;refine uf ?_;refine zh (b:=sd) (off:=4) (l:=sdL st l a b c1) (x:=c1) ?_;refine je (c:=Value.pointer) (L:=(A++e::C).map zD4) (j:=A.length) (x:=zD4 e) (fun w hw=>(zO (s:=c1) hw).1) (by simp) ?_;refine uf ?_;refine qc (Sep.stars ((A++e::C).map zGU)) ?_;refine zFB ?_;refine zUo ?_;refine yC (b:=e.b) (l:=zP8 e) (l':=orV e.tag e.t e.ms) ?_;refine zD fun o4=>?_;refine yX (b:=o4) (l':=orV e.tag e.t e.ms) ?_;refine xg ?_;refine zBl [blk s1 (.cells [.pointer (some ⟨sd,0,none⟩)].toArray zD9 (0,0)),blk sd (.cells (sdL st l a b c1).toArray yS (0,0))] ?_;refine qJ ?_;refine jK (b:=s1) (l:=[.pointer (some ⟨sd,0,none⟩)]) (x:=some ⟨sd,0,none⟩) ?_;refine jK (b:=s1) (l:=[.pointer (some ⟨sd,0,none⟩)]) (x:=some ⟨sd,0,none⟩) ?_;refine uf ?_;refine jK (b:=sd) (off:=4) (l:=sdL st l a b c1) (x:=c1) ?_;refine fun w hw=>zCb _ _ _ _ _ ?_;refine hg hw ?_;clear hw w;refine(show ∀(Γ':List zB) (Q':Sl→K),HG B Γ' (zZ4 Tryz.prog zKW 0 1 c1 (A.length:Int) ((A.length:Int)+1) Q')→HG B Γ' (xu c1 (A.length:Int) ((A.length:Int)+1) Q') from fun _ _ h=>h) _ _ ?_;refine zbS (s:=c1) (E:=uw) (i:=A.length) (j:=A.length+1) (by omega) (by omega) (by omega) (by intro v hv;obtain⟨y,_,rfl⟩:=zgV.1 hv;rfl) (fun c2 hc2=>?_) (by kernel_rfl);rw[show(((A++e::C).map zD4).map Value.pointer).take (A.length*1)++(((A++e::C).map zD4).map Value.pointer).drop ((A.length+1)*1)=((A++C).map zD4).map Value.pointer by
    rw[zgs,zgs,←ziI,←ziI,←ziJ,←ziJ,zhU,show A++e::C=(A++[e])++C by simp,zhi (by simp)];simp]
   refine vS ?_;refine uf ?_;refine zCN (b:=sd) (off:=4) (l:=sdL st l a b c1) (l':=sdL st l a b c2) ?_ rfl rfl;refine xg ?_;refine zBl [blk s1 (.cells [.pointer (some ⟨sd,0,none⟩)].toArray zD9 (0,0)),blk o4 (.cells (orV e.tag e.t e.ms).toArray zU (0,0))] ?_;refine jq (b:=o4) (l:=orV e.tag e.t e.ms) (l':=zQ e.tag) ?_;refine jK (b:=s1) (l:=[.pointer (some ⟨sd,0,none⟩)]) (x:=some ⟨sd,0,none⟩) ?_;refine jq (b:=o4) (l:=orV e.tag e.t e.ms) (l':=orV e.tag e.t e.ms) ?_;refine yN st ?_;refine yN l ?_;refine yN sd ?_;refine Kt.dec (T:=T+D1.length) hok1.ord.1 hok1.nn (fun w hw=>zKr (Γ:=[]) hw.drops) i3 (by omega) (by omega) (fun os O hO=>?_) i0 (hPt e (i1 e (by simp)));refine vS ?_;refine zCv (cs:=dcF ⟨e.tag,zFm n e.tag e.t M1 G1,os,O⟩) ?_;refine zBh (cs:=dcF ⟨e.tag,zFm n e.tag e.t M1 G1,os,O⟩) ?_;refine zD fun t42=>?_;refine qp (s:=o) (esz:=6) (us:=dcF ⟨e.tag,zFm n e.tag e.t M1 G1,os,O⟩) (zBM rfl) (by simp[qD]) (by simp only;omega) fun o' _=>?_;rw[show D1.flatMap dcF++dcF ⟨e.tag,zFm n e.tag e.t M1 G1,os,O⟩=(D1++[(⟨e.tag,zFm n e.tag e.t M1 G1,os,O⟩:DcX)]).flatMap dcF by simp];refine zA (Δ:=SlC qA 2 os (O.flatMap oF)::Sep.stars (O.map oB)::Sep.stars (D1.map dcO)::SlC zu 6 o' ((D1++[(⟨e.tag,zFm n e.tag e.t M1 G1,os,O⟩:DcX)]).flatMap dcF)::s1B s1 sd::zLk sd st l n (zDe n e.tag e.t M1 G1) (zFl n e.tag e.t M1 G1) a b c2 (A++C) Γ) ?_;refine zct (d:=⟨e.tag,zFm n e.tag e.t M1 G1,os,O⟩) ?_;refine zIJ ?_;refine zA (hk' o' (A++C,zDe n e.tag e.t M1 G1,zFl n e.tag e.t M1 G1,D1++[⟨e.tag,zFm n e.tag e.t M1 G1,os,O⟩],c2) ⟨Kt.keep i0 (hPt e (i1 e (by simp))) hok1.ord.1,fun j hj=>i1 j ?_,?_,?_,?_,i5,?_⟩ ?_)
   ·rcases zgP.1 hj with hj|hj
    ·exact zhF _ hj
    ·exact zg3 _ (zgI _ hj)
   ·simp only[zgK,zgO,zgl] at i2 ⊢;omega
   ·simp only[zgK,zgO,zgl];exact zcr i3
   ·have:=zNC (n:=n) (g:=e.tag) (M:=M1) (G:=G1) hok1.ord.1;simp only[zgK,zgO,zgl];omega
   ·rw[←i6];simp[zIb,hO]
   ·simp only[zgK,zgO];omega
end
end
end Go.Proofs.YtlelhlcjaapkoaaGreat
namespace Go.Sep
section
open Go Go.RowKit
section
variable{P:Program}{B:World}{Γ Δ:List zB}{E esz:Nat}{s:Sl}{vs:List Value}
end
end
section
open Go Go.RowKit
section
variable{B:World}{Γ Δ:List zB}{k:K}
theorem zYZ(us l:List Value)(off:Nat)(h:off+us.length≤l.length):(us.zipIdx off).foldl (fun(c:Array Value) q=>c.setIfInBounds q.2 q.1) l.toArray=(l.take off++us++l.drop (off+us.length)).toArray:=by
 apply Array.ext
 ·rw[fold_size];simp;omega
 intro i h1 h2;rw[fold_size] at h1;simp only[zg7] at h1;have e:∀(a b:Array Value) (ha:i<a.size) (hb:i<b.size),a[i]?=b[i]?→a[i]=b[i]:=fun a b ha hb hab=>by
  rw[zg0 ha,zg0 hb] at hab;exact zhh hab
 have e2:∀L:List Value,L.toArray[i]?=L[i]?:=fun L=>by simp
 apply e;rw[e2 (l.take off++us++l.drop (off+us.length)),zg9,zhk];split
 ·rename_i h3;simp only[zgR] at h3;rw[zEY _ _ _ _ (by omega),zhY,if_pos (by omega),e2 l]
 ·rename_i h3;simp only[zgR] at h3 ⊢;rw[show min off l.length=off by omega] at h3 ⊢;rw[zhk];split
  ·rename_i h4;have h5:=zLy us off l.toArray (i-off) h4 (by simp only[zg7];omega);rw[show off+(i-off)=i by omega] at h5;exact h5
  ·rename_i h4;rw[zEY _ _ _ _ (by omega),zgt,e2 l,show off+us.length+(i-off-us.length)=i by omega]
theorem zTK{a:Addr}{b off n:Nat}{l us:List Value}{T:TypeId}(l':List Value)(h:HG B (blk b (.cells l'.toArray T (0,0))::Δ) k)[ad:zDk a b off][p:Own b Γ (blk b (.cells l.toArray T (0,0))) Δ](hn:us.length=n:=by rfl)(ho:off+n≤l.length:=by exact zgY rfl)(hl:l.take off++us++l.drop (off+n)=l':=by rfl)
  (hf:us.all qD=true:=by rfl):HG B Γ (StN a n us.toArray k):=fun w hw=>by
 subst hn;subst hl;have h1:=hw.perm p.perm;have hb:=h1.block;rw[ad.h];refine⟨_,rfl,by simp,fun i hi=>?_,by simpa using zHH hf,h _ ?_⟩
 ·simp only[zg7] at hi;rw[jD];have hlt:off+i<l.toArray.size:=by simp only[zg7];omega
  exact⟨⟨_,y9 hb (zg0 hlt)⟩,zBX hb (by omega)⟩
 ·rw[zCJ _ _ _ _ _ hb,zho];have:=zYZ us l off ho;simp only at this ⊢;rw[this];exact h1.setBlock rfl
end
end
end Go.Sep
namespace Go.Proofs.YtlelhlcjaapkoaaGreat
section
open Go Go.Sep Go.Sep.Bt
structure zCg where
 M:zo
 G:GM×DM
 fils:List zIa
 fed:List Int
 jobs:List zFP
def mM(m:MkX):zCT:=⟨m.key,m.home,m.cnt⟩
theorem zUp(L:List MkX):(L.map mM).flatMap zBN=L.flatMap mkL:=by
 rw[List.flatMap_map];rfl
def zKw(tag:zx)(r:Int):List zFP→List zFP
 | []=>[]
 | j::J=>if j.tag=tag then { j with need:=j.need.filter fun h=>!decide (h=r) }::J else j::zKw tag r J
def zGq(n:Nat)(S:zCg):zCg×List DcM :=
 (⟨(zAo n S.jobs.length S.jobs S.M S.G).1.2.1,(zAo n S.jobs.length S.jobs S.M S.G).1.2.2,S.fils,S.fed,(zAo n S.jobs.length S.jobs S.M S.G).1.1⟩,(zAo n S.jobs.length S.jobs S.M S.G).2)
def zP9(kind r:Int)(mks:List MkX):List MkX:=if kind=2 then mks.filter fun m=>decide (m.home=r) else mks
abbrev zFn(t:TxX)(mks:List MkX):Bool:=decide (t.kind=1)&&decide ((xA mks).length=1)
abbrev zFL(r kind ix:Int)(tag:zx)(t:TxX)(mks:List MkX)(S:zCg):zIa×Bool:=zCB r (S.fils.getD r.toNat ⟨-1,[]⟩) kind ix tag (xA mks) (zFn t mks)
abbrev zHm(r kind ix:Int)(tag:zx)(t:TxX)(mks:List MkX)(S:zCg):zCg :=
 ⟨S.M,S.G,S.fils.set r.toNat (zFL r kind ix tag t mks S).1,S.fed.set r.toNat (S.fed.getD r.toNat 0+1),S.jobs⟩
abbrev zQA(n:Nat)(r kind:Int)(tag:zx)(mks:List MkX)(J:List zFP)(S:zCg):zCg :=
 ⟨S.M,zBO n S.M tag ((zP9 kind r mks).map mM) S.G,S.fils,S.fed,zKw tag r J⟩
def zUq(n:Nat)(r kind ix:Int)(tag:zx)(t:TxX)(mks:List MkX)(S:zCg):zCg×List DcM :=
 if(zFL r kind ix tag t mks S).2=false then(zHm r kind ix tag t mks S,[]) else
 if(∃j∈S.jobs,j.tag=tag) then
  if kind=1 then zGq n (zHm r kind ix tag t mks S) else zGq n (zQA n r kind tag mks S.jobs (zHm r kind ix tag t mks S))
 else zGq n (zQA n r kind tag mks (S.jobs++[⟨tag,zJQ t,mks,xA mks⟩]) (zHm r kind ix tag t mks S))
abbrev zNE(n:Nat)(r kind ix:Int)(tag:zx)(t:TxX)(mks:List MkX):Prop:=zDN kind ix∧zCr 3 tag t mks∧(0≤r∧r<n)∧zCr (n:Int) tag t mks
def zF4(n:Nat)(r kind ix:Int)(tag:zx)(t:TxX)(mks:List MkX)(S:zCg):zCg×List DcM :=
 if zNE n r kind ix tag t mks then zUq n r kind ix tag t mks S else(S,[])
structure FX where
 b:Nat
 rg:Int
 f:zIa
abbrev zIc(x:FX):Option Addr:=some ⟨x.b,0,none⟩
def zGV(N:Nat)(x:FX):zB:=zJP x.b x.rg N x.f
structure zF5(n T:Nat)(S:zCg)(F:List FX)(J:List zB3):Prop where
 n1:1≤n
 n3:n≤3
 fils:F.map FX.f=S.fils
 rgs:F.map FX.rg=(List.range n).map fun i:Nat=>(i:Int)
 fedl:S.fed.length=n
 fedr:∀x∈S.fed,0≤x∧x≤T
 jobs:J.map zCf=S.jobs
 ok:∀j∈J,zba n j
 jl:J.length≤T
 gz:∃K,SzG K S.G∧K+J.length≤40*T
 ml:S.M.length+32*J.length≤40*T
abbrev zFQ(sd st l n T:Nat)(S:zCg)(a b c:Sl)(F:List FX)(J:List zB3)(Γ:List zB):List zB :=
 zLk sd st l n S.M S.G a b c J (SlC xD 1 a ((F.map zIc).map Value.pointer)::Sep.stars (F.map (zGV T))::SlI b S.fed::Γ)
def zCh(sd n T:Nat)(S:zCg):zB:=ex fun st=>ex fun l=>ex fun a:Sl=>ex fun b:Sl=>ex fun c:Sl=>ex fun F:List FX=>ex fun J:List zB3=>Sep.stars (pur (zF5 n T S F J)::zFQ sd st l n T S a b c F J [])
section
variable{B:World}{Γ Δ:List zB}{k:K}{sd st l n T:Nat}{S:zCg}{a b c:Sl}{F:List FX}{J:List zB3}{t:TxX}{mks:List MkX}{ms:Sl}{tag:zx}
instance(priority:=high) ze1:Sep.Own sd (zCh sd n T S::Γ) (zCh sd n T S) Γ:=⟨.refl _⟩
theorem zRp(h:∀st l a b c F J,zF5 n T S F J→HG B (zFQ sd st l n T S a b c F J Γ) k):HG B (zCh sd n T S::Γ) k :=
 zCE fun st=>zCE fun l=>zCE fun a=>zCE fun b=>zCE fun c=>zCE fun F=>zCE fun J=>zBL<|zHK fun h1=>h st l a b c F J h1
theorem zFX(h1:zF5 n T S F J)(h:HG B (zCh sd n T S::Γ) k):HG B (zFQ sd st l n T S a b c F J Γ) k:=fun w hw=>by
 refine h w ?_;have h3:Holds B (Sep.stars (pur (zF5 n T S F J)::zFQ sd st l n T S a b c F J [])::Γ) w:=Holds.flat.2 (Holds.pur.2 ⟨h1,hw⟩);exact h3.imp fun g hg=>⟨st,l,a,b,c,F,J,hg⟩
theorem zTL{s:Sl}{L:List MkX}{Q:Sl→K}(hr:∀w,Holds B Γ w→RdC w s 3 (L.flatMap mkL))(hl:L.length≤20000000)(h:∀s',HG B (SlC zi 3 s' (L.flatMap mkL)::Γ) (Q s')):HG B Γ (qP.call s Q):=by
 refine fun w hw=>zA8 _ _ _ ?_;refine hg hw ?_;clear hw w;unfold qP;exact zEv (us:=L.flatMap mkL) hr (zRh _) (by rw[zH _ 3 jB];omega) (by omega) fun s' _=>h s'
theorem zRq{Q:Array Value→K}(hr:∀w,Holds B Γ w→zAn w t)(hm:∀w,Holds B Γ w→RdC w ms 3 (mks.flatMap mkL))(hl:t.reads.length≤1000∧t.writes.length≤1000∧t.ops.length≤1000∧∀x∈t.ops,x.1.val.length≤1000000)(hml:mks.length≤1000)
  (h:∀t' ms',zKC t' t→HG B (SlC zi 3 ms' (mks.flatMap mkL)::txC t' Γ) (Q (orV tag t' ms').toArray)):HG B Γ (zB5.call (orV tag t ms).toArray Q):=by
 refine fun w hw=>zIx _ _ _ ?_;refine hg hw ?_;clear hw w;unfold zB5;refine zD fun o1=>?_;refine zD fun t2=>?_
 repeat refine zT ?_
 refine zL7 (t:=t) (fun w hw=>hr w hw.drops) hl fun t' ht'=>?_
 repeat refine zT ?_
 refine zTL (L:=mks) (fun w hw=>hm w hw.drops) (by omega) fun ms'=>?_;refine zTK (b:=o1) (off:=4) (us:=txL t') (orV tag t' ms) ?_
 repeat refine zT ?_
 exact zA (h t' ms' ht')
theorem zTM{s:Sl}{L:List Int}{rb:Nat}{r:Int}{Q:Sl→K}(hL:L.length<1000000000)(h:∀s',HG B (SlI s' (L.filter fun x=>!decide (x=r))::Γ) (Q s'))[p:Sep.Own rb Γ (blk rb (.cells [.int .i64 r].toArray zDF (0,0))) Δ]:
  HG B (SlI s L::Γ) (yc.call s (.func (.func 63) #[] #[.pointer (some ⟨rb,0,none⟩)]) Q):=by
 refine fun w hw=>zEG _ _ _ _ ?_;refine hg hw ?_;clear hw w;show HG B _ (zXt Tryz.prog xL.call zMO 0 (Value.int .i64) s (.func (.func 63) #[] #[.pointer (some ⟨rb,0,none⟩)]) Q);refine zaE (R:=fun _=>Γ) (L:=L) (c:=Value.int .i64) (fun(_:Unit) x=>decide (x=r)) (fun _ _=>()) () (fun _ _=>True) trivial (fun _ _ _ _=>trivial) (fun s fv Q w h=>zEb _ _ _ _ h) (fun _=>rfl) hL (fun Ξ g x C q _ _ hq=>?_) fun s' _=>?_
 ·refine zEa (cs:=[.pointer (some ⟨rb,0,none⟩)]) ?_;refine fun w hw=>zGk _ _ _ _ ?_;refine hg hw ?_;clear hw w;unfold zB6;refine zh (b:=rb) (l:=[.int .i64 r]) (x:=r) ?_;exact hq
 ·rw[zKe];exact h s'
theorem zaT{r:Int}{Q:Sl→K}(hm:∀w,Holds B Γ w→RdC w ms 3 (mks.flatMap mkL))(hml:mks.length≤1000)(h:∀s,HG B (SlC zi 3 s ((mks.filter fun m=>decide (m.home=r)).flatMap mkL)::Γ) (Q s)):HG B Γ (jZ.call (orV tag t ms).toArray r Q):=by
 refine fun w hw=>zNy _ _ _ _ ?_;have hmn:ms.n=mks.length:=zAM jB (by omega) (hm w hw);refine hg (show Holds B (SlC zi 3 ⟨none,0,0⟩ []::Γ) w from hw.ji _ _) ?_;clear hw w;unfold jZ;refine zD fun o2=>?_;refine zh (b:=o2) (off:=9) (l:=orV tag t ms) (x:=ms) ?_;refine qH (α:=Sl×Int) (ι:=Nat) (fun x i=>x.2=(i:Int)∧i≤mks.length) (fun x i=>blk o2 (.cells (orV tag t ms).toArray zU (0,0))::SlC zi 3 x.1 (((mks.take i).filter fun m=>decide (m.home=r)).flatMap mkL)::Γ) (fun x i=>mks.length-i) 0 ⟨rfl,zgW _⟩ ?_;rintro k' ⟨o,_⟩ i ⟨rfl,hi⟩ hk';simp only at hi hk' ⊢;unfold jZ.b1;refine zF (fun hb=>?_) fun hb=>?_
 ·have hil:i<mks.length:=by simp only[zgH] at hb;omega
  have hge:mks[i]?=some mks[i]:=zgG hil;have htk:mks.take (i+1)=mks.take i++[mks[i]]:=zgJ hil;generalize mks[i]=m at hge htk;refine yw o fun a1 a2 a3 a4=>?_;rw[zH _ 3 jB] at a1;have hfl:((mks.take i).filter fun m=>decide (m.home=r)).length≤1000:=by
   have:=zgr (fun m:MkX=>decide (m.home=r)) (mks.take i);rw[zgR] at this;omega
  refine uT mkL jB (fun w hw=>hm w hw.tail.tail) hge ?_;refine zD fun m6=>?_;refine yX (b:=m6) (l':=mkL m) ?_;refine zh (b:=m6) (off:=1) (l:=mkL m) (x:=m.home) ?_;unfold jZ.s2;refine zF (fun hc=>?_) fun hc=>?_
  ·refine yC (b:=m6) (l:=mkL m) (l':=mkL m) ?_;refine zBh (cs:=mkL m) ?_;refine zD fun t20=>?_;refine qp (s:=o) (esz:=3) (us:=mkL m) (zBM rfl) (by simp[qD]) (by simp only;omega) fun o' _=>?_;refine qJ ?_;rw[show((mks.take i).filter fun m=>decide (m.home=r)).flatMap mkL++mkL m=((mks.take (i+1)).filter fun m=>decide (m.home=r)).flatMap mkL by rw[htk,List.filter_append];simp[show m.home=r by simpa using hc]];exact zA (hk' (o',(i:Int)+1) (i+1) ⟨by simp,hil⟩ (by omega))
  ·refine qJ ?_;rw[show(mks.take i).filter (fun m=>decide (m.home=r))=(mks.take (i+1)).filter fun m=>decide (m.home=r) by rw[htk,List.filter_append];simp[show ¬m.home=r by simpa using hc]];exact zA (hk' (o,(i:Int)+1) (i+1) ⟨by simp,hil⟩ (by omega))
 ·have hil:i=mks.length:=by simp only[zgF] at hb;omega
  rw[hil,zgQ];exact zA (h o)
theorem zYa{r:Int}{L:List Int}{q:Bool→K}(hL:L.length=n)(h:HG B (blk sd (.cells (sdL st l a b c).toArray yS (0,0))::SlI b L::Γ) (q (decide (0≤r∧r<n)))):HG B (blk sd (.cells (sdL st l a b c).toArray yS (0,0))::SlI b L::Γ) (vQ.call (some ⟨sd,0,none⟩) r q):=by
 refine fun w hw=>zHc _ _ _ _ ?_;refine hg hw ?_;clear hw w;refine yw b fun a1 a2 a3 a4=>?_;rw[zgL,zgs] at a1;unfold vQ vQ.s1;refine zF (fun h1=>?_) fun h1=>?_
 ·have h1':0≤r:=by simpa using h1
  refine uf ?_;refine zh (b:=sd) (off:=3) (l:=sdL st l a b c) (x:=b) ?_;rw[←a1,hL,show decide (r<(n:Int))=decide (0≤r∧r<n) by simp[h1']];exact h
 ·have h1':¬0≤r:=by simpa using h1
  rw[show decide (0≤r∧r<n)=false by simp[h1']] at h;exact h
theorem zOo{α:Type}{F G:α→zB}:∀{L:List α} {Γ:List zB} {k:K},(∀x∈L,∀(Γ':List zB) (k':K),HG B (G x::Γ') k'→HG B (F x::Γ') k')→HG B (Sep.stars (L.map G)::Γ) k→HG B (Sep.stars (L.map F)::Γ) k
 | [],Γ,k,_,h=>h
 | x::L,Γ,k,h1,h=>by
  refine zBL (Δ:=F x::L.map F) ?_;refine h1 x zgN _ _ ?_;refine fun w hw=>?_;refine(zOo (F:=F) (G:=G) (L:=L) (Γ:=G x::Γ) (fun y hy=>h1 y (zgI _ hy)) ?_) w (Holds.flat.2 (hw.perm List.perm_middle.symm));exact fun w hw=>h w (Holds.flat.2 ((Holds.flat.1 hw).perm zhq))
theorem zUr{L:List FX}{N N':Nat}(hN:N≤N')(h:HG B (Sep.stars (L.map (zGV N'))::Γ) k):HG B (Sep.stars (L.map (zGV N))::Γ) k :=
 zOo (fun x _ Γ' k' h=>zTH hN h) h
end
end
section
open Go Go.Sep Go.Sep.Bt
theorem zYb(L:List Int):(zEd L).Pairwise (·≤·):=by
 have h:=ziC (le:=fun x y:Int=>decide (x≤y)) (fun a b c h1 h2=>by simp only[zgH] at *;omega) (fun a b=>by simp only[Bool.or_eq_true,zgH];omega) L;exact h.imp fun h=>by simpa using h
theorem zKG:∀(L:List Int),L.Pairwise (·≤·)→(jA L).Pairwise (·<·)
 | [],_=>List.Pairwise.nil
 | [x],_=>zhe _ _
 | x::y::L,h=>by
  have h1:=zgm.1 h;have ih:=zKG (y::L) h1.2;rw[jA];split
  ·exact ih
  ·rename_i e;refine zgm.2 ⟨fun z hz=>?_,ih⟩;have hz2:z∈y::L:=zE6.1 hz;have h2:=h1.1 y zgN;rcases zgS.1 hz2 with rfl|hz3
   ·omega
   ·have:=(zgm.1 h1.2).1 z hz3;omega
theorem zQB(L:List MkX):(xA L).Pairwise (·<·):=zKG _ (zYb _)
theorem zNF{L:List MkX}(h:L≠[]){x:Int}:x∈xA L↔∃m∈L,m.home=x:=by
 unfold xA;rw[zE6,(zhb _ _).mem_iff,if_neg (by simpa using h)];exact zgV
theorem zJT:xA []=[0]:=by unfold xA zEd;simp[jA]
end
section
open Go Go.Sep
abbrev mkK:List Ck:=[.str,.int .i64,.int .u64]
section
variable{B:World}{Γ Δ:List zB}{k:K}
theorem zV3{g:zx}{s t:TxX}{ms ns:Sl}{L:List MkX}{Q:Bool→K}(hs:zC9 s t)(hL:L.length≤100000)(h1:∀w,Holds B Γ w→zAn w s)(h2:∀w,Holds B Γ w→zAn w t)(hm:∀w,Holds B Γ w→RdC w ms 3 (L.flatMap mkL))(hn:∀w,Holds B Γ w→RdC w ns 3 (L.flatMap mkL))(hl:s.reads.length<1000000∧s.writes.length<1000000∧s.ops.length<1000000)(h:HG B Γ (Q true)):HG B Γ (uz.call (orV g s ms).toArray (orV g t ns).toArray Q):=fun w hw=>by
 refine zNx _ _ _ _ ?_;have hmn:ms.n=L.length:=zAM jB (by omega) (hm w hw);have hnn:ns.n=L.length:=zAM jB (by omega) (hn w hw);refine Sep.hg hw ?_;clear hw w;unfold uz;refine zD fun a2=>?_;refine zD fun b3=>?_;refine yC (b:=a2) (l:=orV g s ms) (l':=zQ g) ?_;refine yC (b:=b3) (l:=orV g t ns) (l':=zQ g) ?_;refine zMe (xs:=zQ g) (ys:=zQ g) (ks:=zJ2) (p:=True) (by simp) ?_;refine s_f ?_ (by simp);refine yC (b:=a2) (off:=4) (l:=orV g s ms) (l':=txL s) ?_;refine yC (b:=b3) (off:=4) (l:=orV g t ns) (l':=txL t) ?_;refine zVn (fun w hw=>h1 w (hw.drops (Δ:=Γ))) (fun w hw=>h2 w (hw.drops (Δ:=Γ))) ⟨by omega,by omega,by omega⟩ ?_;rw[zga hs];refine s_f ?_ (by rfl);refine zh (b:=a2) (off:=9) (l:=orV g s ms) (x:=ms) ?_;refine zh (b:=b3) (off:=9) (l:=orV g t ns) (x:=ns) ?_;rw[show decide ((ms.n:Int)≠(ns.n:Int))=false by simp;omega];unfold uz.s1;refine s_f ?_ (by rfl);refine zAa (α:=Int) (fun x=>∃i:Nat,x=(i:Int)∧i≤L.length) (fun x=>L.length-x.toNat) ⟨0,rfl,zgW _⟩ fun k' x hx hk'=>?_;obtain⟨i,rfl,hi⟩:=hx;unfold uz.b2;refine zh (b:=a2) (off:=9) (l:=orV g s ms) (x:=ms) ?_;refine zF (fun hb=>?_) fun hb=>zA h;have hil:i<L.length:=by simp only[zgH] at hb;omega
 have hge:L[i]?=some L[i]:=zgG hil;generalize L[i]=m at hge;refine xg ?_;refine zh (b:=a2) (off:=9) (l:=orV g s ms) (x:=ms) ?_;refine uT mkL jB (fun w hw=>hm w (hw.drops (Δ:=Γ))) hge ?_;refine zh (b:=b3) (off:=9) (l:=orV g t ns) (x:=ns) ?_;refine uT mkL jB (fun w hw=>hn w (hw.drops (Δ:=Γ))) hge ?_;refine zMe (xs:=mkL m) (ys:=mkL m) (ks:=mkK) (p:=True) (by simp) ?_;refine s_f ?_ (by simp);refine qJ ?_;exact hk' _ ⟨i+1,by simp,hil⟩ (by omega)
end
end
section
open Go Go.Sep Go.Sep.Bt
theorem zaU(L:List zx):∀v∈L.flatMap zQ,qD v=true:=fun v hv=>by
 obtain⟨x,_,hx⟩:=zhS.1 hv;simp only[zQ,zgS,zhg,or_false] at hx;rcases hx with rfl|rfl|rfl|rfl <;> rfl
section
variable{B:World}{Γ Δ:List zB}{k:K}{tag:zx}
theorem zCi{E esz b:Nat}(h:HG B (SlC E esz ⟨some ⟨b,0,none⟩,0,0⟩ []::Γ) k):HG B (blk b (.cells ([]:List Value).toArray E (0,0))::Γ) k:=zBg (zAq (vs:=[]) rfl (by simp)) h
theorem zJU{E T esz:Nat}{z us vs:List Value}{S:World→Prop}{s:Sl}{k:Sl→K}(h0:∀w,Holds B Γ w→S w)(hr:∀w,Holds B Γ w→RdC w s esz vs)(hv:∀u∈vs,qD u=true)(hroom:s.n≤1000000)(h:∀s',s'.n=s.n+1→HG B (SlC E esz s' (vs++us)::Γ) (k s'))
  (hz:z.length=esz:=by rfl) (hl:us.length=esz:=by rfl) (hfl:us.all qD=true:=by rfl) (hT:zFe Tryz.prog T T E esz=true:=by kernel_rfl):HG B Γ (All [
   (New E #[] fun t=>Sv S<|All [
    (Do Tryz.prog (Builtin.append_ #[T,T] T #[Sl.val (Sl.mk (some t) 0 0),s.val]) Sl.val fun a=>Sv S<|Bld z.toArray (fun i=>some (i*esz,esz)) [(0,.agg us.toArray)] fun ct=>New E ct fun b=>Sv S<|
     Do Tryz.prog (Builtin.append_ #[T,T] T #[a.val,Sl.val (Sl.mk (some b) 1 1)]) Sl.val k),
    (Bld z.toArray (fun i=>some (i*esz,esz)) [(0,.agg us.toArray)] fun ct=>New E ct fun b=>Sv S<|
     Do Tryz.prog (Builtin.append_ #[T,T] T #[Sl.val (Sl.mk (some t) 0 0),s.val]) Sl.val fun a=>Sv S<|Do Tryz.prog (Builtin.append_ #[T,T] T #[a.val,Sl.val (Sl.mk (some b) 1 1)]) Sl.val k)]),
   (Bld z.toArray (fun i=>some (i*esz,esz)) [(0,.agg us.toArray)] fun ct=>New E ct fun b=>Sv S<|New E #[] fun t=>Sv S<|
    Do Tryz.prog (Builtin.append_ #[T,T] T #[Sl.val (Sl.mk (some t) 0 0),s.val]) Sl.val fun a=>Sv S<|Do Tryz.prog (Builtin.append_ #[T,T] T #[a.val,Sl.val (Sl.mk (some b) 1 1)]) Sl.val k)]):=by
 have hfa:=zHH hfl;refine zBS ?_ ?_
 ·refine zD fun t=>?_;refine zCi (esz:=esz) ?_;refine zF1 (fun w hw=>h0 w hw.drops) ?_;refine zBS ?_ ?_
  ·refine qp (E:=E) (esz:=esz) (us:=vs) (fun w hw=>hr w hw.drops) hv (by simp only;omega) (hT:=hT) fun a ha=>?_;refine zF1 (fun w hw=>h0 w hw.drops) ?_;refine zBh ?_ hz hl;refine zD fun b=>?_;refine zF1 (fun w hw=>h0 w hw.drops) ?_;refine qp (E:=E) (esz:=esz) (us:=us) (fun w hw=>RdC.zGF hw zgN (by simp) (by omega) 1) hfa (by simp only at ha ⊢;omega) (hT:=hT) fun a' ha'=>?_;rw[zg6];exact zA (h a' (by simp only at ha ha';omega))
  ·refine zBh ?_ hz hl;refine zD fun b=>?_;refine zF1 (fun w hw=>h0 w hw.drops) ?_;refine qp (s:=⟨some ⟨t,0,none⟩,0,0⟩) (E:=E) (esz:=esz) (us:=vs) (fun w hw=>hr w hw.drops) hv (by simp only;omega) (hT:=hT) fun a ha=>?_;refine zF1 (fun w hw=>h0 w hw.drops) ?_;refine qp (E:=E) (esz:=esz) (us:=us) (fun w hw=>RdC.zGF hw (zgI _ zgN) (by simp) (by omega) 1) hfa (by simp only at ha ⊢;omega) (hT:=hT) fun a' ha'=>?_;rw[zg6];exact zA (h a' (by simp only at ha ha';omega))
 ·refine zBh ?_ hz hl;refine zD fun b=>?_;refine zF1 (fun w hw=>h0 w hw.drops) ?_;refine zD fun t=>?_;refine zCi (esz:=esz) ?_;refine zF1 (fun w hw=>h0 w hw.drops) ?_;refine qp (E:=E) (esz:=esz) (us:=vs) (fun w hw=>hr w hw.drops) hv (by simp only;omega) (hT:=hT) fun a ha=>?_;refine zF1 (fun w hw=>h0 w hw.drops) ?_;refine qp (E:=E) (esz:=esz) (us:=us) (fun w hw=>RdC.zGF hw (zgI _ zgN) (by simp) (by omega) 1) hfa (by simp only at ha ⊢;omega) (hT:=hT) fun a' ha'=>?_;rw[zg6];exact zA (h a' (by simp only at ha ha';omega))
theorem zIK{s:Sl}{L:List zx}{Q:Bool→K}(hl:L.length<1000000000)(hr:∀w,Holds B Γ w→RdC w s 4 (L.flatMap zQ))(h:HG B Γ (Q (decide (tag∈L)))):HG B Γ (zBJ.call s (zQ tag).toArray Q):=fun w hw=>by
 refine zRm _ _ _ _ ?_;have ln:s.n=L.length:=zAM zBv (by omega) (hr w hw);refine hg hw ?_;clear hw w;unfold zBJ;refine zD fun g3=>?_;refine qH (α:=Int) (ι:=Nat) (fun x i=>x=(i:Int)∧i≤L.length∧tag∉L.take i) (fun x i=>blk g3 (.cells (zQ tag).toArray zN (0,0))::Γ) (fun x i=>L.length-i) 0 ⟨rfl,zgW _,by simp⟩ ?_;rintro k' _ i ⟨rfl,hi,hn⟩ hk';unfold zBJ.b1;refine zF (fun hb=>?_) fun hb=>?_
 ·have hil:i<L.length:=by simp only[zgH] at hb;omega
  have htk:=zgJ hil;have hge:L[i]?=some L[i]:=zgG hil;have hmem:L[i]∈L:=zgX hil;generalize L[i]=x at htk hge hmem;refine xg ?_;refine uT zQ zBv (fun w hw=>hr w hw.drops) hge ?_;refine yC (b:=g3) (l':=zQ tag) ?_;refine zHQ (xs:=zQ x) (ys:=zQ tag) (ks:=zJ2) zBw ?_;refine zF (fun hp=>?_) fun hp=>?_
  ·have:x=tag:=by simpa using hp
   rw[show decide (tag∈L)=true by rw[←this];simpa using hmem] at h;exact zA h
  ·have hne:x≠tag:=by simpa using hp
   refine qJ ?_;exact hk' ((i:Int)+1) (i+1) ⟨by simp,hil,by rw[htk];simp[hn,Ne.symm hne]⟩ (by omega)
 ·have hil:i=L.length:=by simp only[zgF] at hb;omega
  rw[hil,zgQ] at hn;rw[show decide (tag∈L)=false by simpa using hn] at h;exact zA h
def zF6(L:List Claim)(key:List UInt8)(tag:zx):Bool:=L.any fun c=>decide (c.2.key=key)&&decide (c.1=tag)
theorem zBc{a:Addr}{m:Nat}{cs us:List Value}{k:Array Value→K}(hn:∀w,Holds B Γ w→RdN w a cs.toArray)(hm:m≤cs.length)(h:HG B Γ (k us.toArray))(hu:cs.take m=us:=by rfl):HG B Γ (LdN a m k):=fun w hw=>by
 refine⟨us.toArray,by rw[←hu];simp;omega,fun i hi=>?_,h w hw⟩;have hl:us.length=min m cs.length:=by rw[←hu,zgR]
 simp only[zg7] at hi;have:=hn w hw i (by simp only[zg7];omega);rw[this];have e:cs[i]?=us[i]?:=by rw[←hu,zhY,if_pos (by omega)]
 simpa using e
theorem zNG{α:Type}{a:Addr}{i:Nat}{cs:List Value}{c:α→Value}{x:α}{k:α→K}(hn:∀w,Holds B Γ w→RdN w a cs.toArray)(hv:cs[i]?=some (c x))(h:HG B Γ (k x)):HG B Γ (Ld (a.add i) c k):=fun w hw=>⟨x,by
 have:=hn w hw i (by have:=(zgZ.1 hv).1;simpa using this);rw[this];simpa using hv,h w hw⟩
theorem zRr{s:Sl}{L:List Claim}{key:List UInt8}{Q:Bool→K}(hl:L.length<1000000000)(hr:∀w,Holds B Γ w→RdC w s 7 (L.flatMap clF))(h:HG B Γ (Q (zF6 L key tag))):HG B Γ (jM.call s (bs key) (zQ tag).toArray Q):=fun w hw=>by
 refine zP7 _ _ _ _ _ ?_;have ln:s.n=L.length:=zAM xW (by omega) (hr w hw);refine hg hw ?_;clear hw w;unfold jM;refine zD fun g5=>?_;refine qH (α:=Int) (ι:=Nat) (fun x i=>x=(i:Int)∧i≤L.length∧zF6 (L.take i) key tag=false) (fun x i=>blk g5 (.cells (zQ tag).toArray zN (0,0))::Γ) (fun x i=>L.length-i) 0 ⟨rfl,zgW _,by simp[zF6]⟩ ?_;rintro k' _ i ⟨rfl,hi,hn⟩ hk';unfold jM.b1;refine zF (fun hb=>?_) fun hb=>?_
 ·have hil:i<L.length:=by simp only[zgH] at hb;omega
  have htk:=zgJ hil;have hge:L[i]?=some L[i]:=zgG hil;have hmem:L[i]∈L:=zgX hil;generalize L[i]=x at htk hge hmem;have step:(decide (x.2.key=key)&&decide (x.1=tag))=false→HG B (blk g5 (.cells (zQ tag).toArray zN (0,0))::Γ) (jM.s2 Q k' s (bs key) ⟨g5,0,none⟩ (i:Int) false):=fun hx=>by
   unfold jM.s2;refine s_f ?_;refine qJ ?_;exact hk' ((i:Int)+1) (i+1) ⟨by simp,hil,by rw[htk];unfold zF6 at hn ⊢;rw[List.any_append,hn];simp only[List.any_cons,List.any_nil,Bool.or_false,Bool.false_or,hx]⟩ (by omega)
  refine xg ?_;refine uY clF xW (by omega) (fun w hw=>hr w hw.drops) hge fun t16 ht16=>?_;refine zNG (cs:=clF x) (i:=4) (x:=bs x.2.key) (fun w hw=>ht16 w (hr w hw.drops)) rfl ?_;refine zF (fun hp=>?_) fun hp=>?_
  ·have hkey:x.2.key=key:=by rw[qZ,qZ] at hp;simpa using hp
   refine uY clF xW (by omega) (fun w hw=>hr w hw.drops) hge fun t25 ht25=>?_;refine zBc (cs:=clF x) (us:=zQ x.1) (fun w hw=>ht25 w (hr w hw.drops)) (by rw[xW];omega) ?_;refine yC (b:=g5) (l':=zQ tag) ?_;refine zHQ (xs:=zQ x.1) (ys:=zQ tag) (ks:=zJ2) zBw ?_;by_cases hx:x.1=tag
   ·rw[show decide (x.1=tag)=true by simpa using hx];unfold jM.s2;refine s_t ?_;rw[show zF6 L key tag=true by unfold zF6;rw[List.any_eq_true];exact⟨x,hmem,by simp[hkey,hx]⟩] at h;exact zA h
   ·rw[show decide (x.1=tag)=false by simpa using hx];exact step (by simp[hx])
  ·have hkey:x.2.key≠key:=by rw[qZ,qZ] at hp;simpa using hp
   exact step (by simp[hkey])
 ·have hil:i=L.length:=by simp only[zgF] at hb;omega
  rw[hil,zgQ] at hn;rw[hn] at h;exact zA h
theorem zKH{s:Sl}{L:List Claim}{Q:Sl→K}(hl:L.length≤1000000)(hr:∀w,Holds B Γ w→RdC w s 7 (L.flatMap clF))(h:∀s',HG B (SlC yP 7 s' ((noT tag L).flatMap clF)::Γ) (Q s')):HG B Γ (xI.call s (zQ tag).toArray Q):=fun w hw=>by
 refine zKt _ _ _ _ ?_;have ln:s.n=L.length:=zAM xW (by omega) (hr w hw);refine hg hw ?_;clear hw w;unfold xI;refine zD fun g3=>?_;refine zD fun t7=>?_;refine zCi (esz:=7) ?_;refine qH (α:=Sl×Int) (ι:=Nat) (fun x i=>x.2=(i:Int)∧i≤L.length) (fun x i=>SlC yP 7 x.1 ((noT tag (L.take i)).flatMap clF)::blk g3 (.cells (zQ tag).toArray zN (0,0))::Γ) (fun x i=>L.length-i) 0 ⟨rfl,zgW _⟩ ?_;rintro k' ⟨o,_⟩ i ⟨rfl,hi⟩ hk';simp only at hi hk' ⊢;refine yw o fun a1 a2 a3 a4=>?_;rw[zH _ 7 xW] at a1;have ho:(noT tag (L.take i)).length≤i:=by
  unfold noT;have h1:=zgr (fun c:Claim=>!decide (c.1=tag)) (L.take i);rw[zgR] at h1;omega
 unfold xI.b1;refine zF (fun hb=>?_) fun hb=>?_
 ·have hil:i<L.length:=by simp only[zgH] at hb;omega
  have htk:=zgJ hil;have hge:L[i]?=some L[i]:=zgG hil;generalize L[i]=x at htk hge;refine xg ?_;refine uY clF xW (by omega) (fun w hw=>hr w hw.drops) hge fun t16 ht16=>?_;refine zBc (cs:=clF x) (us:=zQ x.1) (fun w hw=>ht16 w (hr w hw.drops)) (by rw[xW];omega) ?_;refine yC (b:=g3) (l':=zQ tag) ?_;refine zMe (xs:=zQ x.1) (ys:=zQ tag) (ks:=zJ2) zBw ?_;by_cases hx:x.1=tag
  ·refine s_f ?_ (by simp[hx]);unfold xI.s2;refine qJ ?_;have hfin:=hk' (o,(i:Int)+1) (i+1) ⟨by simp,hil⟩ (by omega);rw[show noT tag (L.take (i+1))=noT tag (L.take i) by rw[htk];simp[noT,hx]] at hfin;exact hfin
  ·refine s_t ?_ (by simp[hx]);refine uT clF xW (fun w hw=>hr w hw.drops) hge ?_;refine zBh ?_;refine zDI (s:=o) (m:=1) (us:=clF x) (fun o2 ho2=>?_);unfold xI.s2;refine qJ ?_;have hfin:=hk' (o2,(i:Int)+1) (i+1) ⟨by simp,hil⟩ (by omega);rw[show(noT tag (L.take (i+1))).flatMap clF=(noT tag (L.take i)).flatMap clF++clF x by rw[htk];simp[noT,hx,zge]] at hfin;exact hfin
 ·have hil:i=L.length:=by simp only[zgF] at hb;omega
  rw[hil,zgQ];exact zA (h o)
end
end
end Go.Proofs.YtlelhlcjaapkoaaGreat
namespace Go.Sep
section
open Go Go.RowKit
section
variable{P:Program}{B:World}{Γ Δ:List zB}{l:Nat}{r:Loop}{J:Exit}{k a j:K}
end
end
end Go.Sep
namespace Go.Proofs.YtlelhlcjaapkoaaGreat
section
open Go Go.Sep Go.Sep.Bt Go.RowKit
structure OrG where
 tag:zx
 t:TxX
 ms:Sl
 mks:List MkX
abbrev zDA(x:OrG):List Value:=orV x.tag x.t x.ms
theorem zYc(x:OrG):(zDA x).length=10:=rfl
abbrev itN(kind ix:Int)(tag:zx)(t:TxX)(ms:Sl):List Value:=.int .i64 kind::.int .i64 ix::orV tag t ms
abbrev itZ:List Value:=[.int .i64 0,.int .i64 0,.int .i64 0,.int .u64 0,.int .u64 0,.int .i64 0,.int .i64 0,Sl.val ⟨none,0,0⟩,Sl.val ⟨none,0,0⟩,Sl.val ⟨none,0,0⟩,.int .i64 0,Sl.val ⟨none,0,0⟩]
section
variable{B:World}{Γ Δ:List zB}{k:K}
end
end
end Go.Proofs.YtlelhlcjaapkoaaGreat
namespace Go.Sep
section
open Go
section
variable{B:World}{Γ Γ' Δ:List zB}{A X:zB}{k:K}
theorem zcu(p:Γ.Perm (A::Γ'))(d:Drops Γ' Δ):Drops Γ (A::Δ):=⟨fun h=>zBp (fun _ h=>h) (fun _ h=>d.imp h) (zI0 p h)⟩
theorem zcv(d:Drops Γ Δ):Drops (A::Γ) Δ:=⟨fun h=>d.imp (zGB h)⟩
theorem zcw:(A::Γ).Perm (A::Γ):=.refl _
theorem zCo(h:HG B Δ k)(d:Drops Γ Δ:=by
  repeat' first
  | with_reducible exact zSc
  | with_reducible exact zcw
  | with_reducible apply zFt
  | with_reducible apply zcu
  | with_reducible apply zcv
  | with_reducible exact zVT):HG B Γ k:=fun w hw=>h w (hw.drops (d:=d))
end
end
end Go.Sep
namespace Go.Proofs.YtlelhlcjaapkoaaGreat
section
open Go Go.Sep Go.Sep.Bt
theorem zUs{α:Type}{p:List α→Prop}(h0:p [])(h1:∀L x,p L→p (L++[x])):∀L,p L:=by
 have:∀(n:Nat) (L:List α),L.length=n→p L:=by
  intro n
  induction n with
  | zero=>
   intro L hL;rw[zgg.1 hL];exact h0
  | succ n ih=>
   intro L hL;have hne:L≠[]:=fun e=>by rw[e] at hL;cases hL
   rw[←List.dropLast_concat_getLast hne];exact h1 _ _ (ih _ (by rw[List.length_dropLast];omega))
 exact fun L=>this _ L rfl
theorem zYd{K1 K2:List Int}(h1:K1.Pairwise (·<·))(h2:K2.Pairwise (·<·))(hm:∀k,k∈K1↔k∈K2):K1=K2:=by
 have hp:K1.Perm K2:=(List.perm_ext_iff_of_nodup (h1.imp fun h e=>by omega) (h2.imp fun h e=>by omega)).2 hm;exact hp.eq_of_pairwise (fun a b _ _ x y=>by omega) h1 h2
def zGd(h:Int):List Int→List Int
 | []=>[h]
 | x::L=>if h<x then h::x::L else x::zGd h L
theorem zNH{h x:Int}:∀{L:List Int},x∈zGd h L↔x=h∨x∈L
 | []=>by simp[zGd]
 | y::L=>by
  unfold zGd;split
  ·simp
  ·rw[zgS,zNH,zgS];constructor
   ·rintro(h|h|h) <;> simp[h]
   ·rintro(h|h|h) <;> simp[h]
theorem zNI{h:Int}:∀{L:List Int},L.Pairwise (·<·)→h∉L→(zGd h L).Pairwise (·<·)
 | [],_,_=>by simp[zGd]
 | y::L,hs,hn=>by
  obtain⟨h1,h2⟩:=zgm.1 hs;simp only[zgS,not_or] at hn;unfold zGd;split
  ·rename_i hlt;refine zgm.2 ⟨fun z hz=>?_,hs⟩;rcases zgS.1 hz with rfl|hz
   ·exact hlt
   ·have:=h1 z hz;omega
  ·refine zgm.2 ⟨fun z hz=>?_,zNI h2 hn.2⟩;rcases zNH.1 hz with rfl|hz
   ·omega
   ·exact h1 z hz
theorem zTN{h:Int}{A C:List Int}(hA:∀a∈A,a<h)(hC:∀c∈C,h<c):zGd h (A++C)=A++h::C:=by
 induction A with
 | nil=>
  cases C with
  | nil=>rfl
  | cons c C=>simp[zGd,hC c (by simp)]
 | cons a A ih=>
  have:=hA a (by simp);simp only[zhC,zGd];rw[if_neg (by omega),ih fun x hx=>hA x (by simp[hx])]
def zFo(L:List Int):List Int:=L.foldl (fun out h=>if h∈out then out else zGd h out) []
theorem zIL(L:List Int)(h:Int):zFo (L++[h])=if h∈zFo L then zFo L else zGd h (zFo L):=by unfold zFo;rw[zhQ];rfl
theorem zRs{x:Int}{L:List Int}:x∈zFo L↔x∈L:=by
 refine zUs (p:=fun L=>∀x,x∈zFo L↔x∈L) ?_ (fun L h ih x=>?_) L x
 ·simp[zFo]
 ·rw[zIL];split
  ·rename_i hm;rw[ih,zgP,zgM];rw[ih] at hm;constructor
   ·exact .inl
   ·rintro(h2|rfl)
    ·exact h2
    ·exact hm
  ·rw[zNH,ih,zgP,zgM];exact or_comm
theorem zNJ(L:List Int):(zFo L).Pairwise (·<·):=by
 refine zUs (p:=fun L=>(zFo L).Pairwise (·<·)) ?_ (fun L h ih=>?_) L
 ·simp[zFo]
 ·rw[zIL];split
  ·exact ih
  ·rename_i hm;exact zNI ih hm
theorem zUt(L:List MkX):(if zFo (L.map MkX.home)=[] then[0] else zFo (L.map MkX.home))=xA L:=by
 have hm:∀k,k∈xA L↔k∈(if L.length=0 then[0] else L.map MkX.home):=fun k=>by
  unfold xA;rw[zE6];exact(zhb _ _).mem_iff
 by_cases hl:L=[]
 ·subst hl;rw[zJT];rfl
 ·have h1:L.length≠0:=fun h=>hl (zgg.1 h);have h2:zFo (L.map MkX.home)≠[]:=fun h=>by
   cases L with
   | nil=>exact hl rfl
   | cons x L=>
    have:x.home∈zFo ((x::L).map MkX.home):=zRs.2 (by simp);rw[h] at this;cases this
  rw[if_neg h2];refine zYd (zNJ _) (zQB L) fun k=>?_;rw[hm,if_neg h1,zRs]
theorem zRt(L:List Int):(zFo L).length≤L.length:=by
 refine zUs (p:=fun L=>(zFo L).length≤L.length) ?_ (fun L h ih=>?_) L
 ·simp[zFo]
 ·rw[zIL,zgK];split
  ·simp;omega
  ·have hi:∀(h:Int) (L:List Int),(zGd h L).length=L.length+1:=by
    intro h L
    induction L with
    | nil=>rfl
    | cons x L ih=>unfold zGd;split <;> simp[ih]
   rw[hi];simp;omega
theorem zNK(L:List MkX):(xA L).length≤L.length+1:=by
 rw[←zUt];split
 ·simp
 ·have:=zRt (L.map MkX.home);rw[zgL] at this;omega
section
variable{B:World}{Γ Δ:List zB}{k:K}
theorem zKx{g:zx}{t:TxX}{ms:Sl}{L:List MkX}{Q:Sl→K}(hr:∀w,Holds B Γ w→RdC w ms 3 (L.flatMap mkL))(hL:L.length≤1000)(h:∀s,HG B (SlI s (xA L)::Γ) (Q s)):HG B Γ (qG.call (orV g t ms).toArray Q):=fun w hw=>by
 refine zM6 _ _ _ ?_;have hn:ms.n=L.length:=zAM jB (by omega) (hr w hw);refine Sep.hg hw ?_;clear hw w;refine zD fun o1=>?_;refine zD fun t10=>?_;refine zCi (esz:=1)<|qH (α:=Sl×Int) (ι:=Nat) (fun x i=>x.2=(i:Int)∧i≤L.length) (fun x i=>SlI x.1 (zFo ((L.take i).map MkX.home))::blk o1 (.cells (orV g t ms).toArray zU (0,0))::Γ) (fun x i=>L.length-i) 0 ⟨rfl,zgW _⟩ ?_;rintro k' ⟨s,_⟩ i ⟨rfl,hi⟩ hk';have hlen:=zRt ((L.take i).map MkX.home);rw[zgL,zgR] at hlen;refine yw s fun a1 a2 a3 a4=>?_;rw[zgL,zgs] at a1;refine zh (b:=o1) (off:=9) (l:=orV g t ms) (x:=ms)<|zF (fun hb=>?_) fun hb=>?_;rotate_left
 ·have hil:i=L.length:=by simp only[zgF] at hb;omega
  rw[hil,zgQ] at a1 ⊢;have heq:=zUt L;refine zF (fun h0=>?_) fun h0=>?_
  ·refine zD fun t83=>?_;rw[if_pos (zgg.1 (by simp at h0;omega))] at heq;refine zA (Δ:=blk t83 (.cells [.int .i64 0].toArray zDF (0,0))::Γ) ?_;have h2:=h ⟨some ⟨t83,0,none⟩,1,1⟩;rw[←heq] at h2;exact fun w hw=>h2 w (hw.imp (zAq rfl rfl))
  ·rw[if_neg (fun e=>by rw[e] at a1;simp at h0 a1;omega)] at heq;rw[heq];exact zA (h s)
 have hil:i<L.length:=by simp only[zgH] at hb;omega
 have hge:L[i]?=some L[i]:=zgG hil;have htk:(L.take (i+1)).map MkX.home=(L.take i).map MkX.home++[L[i].home]:=by rw[zgJ hil,zgT];rfl
 have next:∀{s':Sl},HG B (SlI s' (zFo ((L.take (i+1)).map MkX.home))::blk o1 (.cells (orV g t ms).toArray zU (0,0))::Γ) (qG.s2 Q (fun y1 y2=>k' (y1,y2)) ⟨o1,0,none⟩ s' (i:Int)):=fun {s'}=>by
  exact qJ<|hk' (s',(i:Int)+1) (i+1) ⟨by simp,hil⟩ (by omega)
 rw[htk,zIL] at next;have hris:=zNJ ((L.take i).map MkX.home);generalize zFo ((L.take i).map MkX.home)=O at *;refine zh (b:=o1) (off:=9) (l:=orV g t ms) (x:=ms)<|zCU mkL (off:=1) (c:=Value.int .i64) (v:=L[i].home) jB (fun w hw=>hr w hw.drops) hge rfl ?_;generalize L[i].home=hm at *;refine qH (α:=Bool×Int) (ι:=Nat) (fun x j=>x.1=decide (hm∈O.take j)∧x.2=(j:Int)∧j≤O.length) (fun x j=>SlI s O::blk o1 (.cells (orV g t ms).toArray zU (0,0))::Γ) (fun x j=>O.length-j) 0 ⟨by simp,rfl,zgW _⟩ ?_;rintro k3 ⟨kn,_⟩ j ⟨hkn,rfl,hj⟩ hk3;refine zF (fun hb3=>?_) fun hb3=>?_
 ·have hjl:j<O.length:=by simp only[zgH] at hb3;omega
  have hgj:O[j]?=some O[j]:=zgG hjl;have htj:O.take (j+1)=O.take j++[O[j]]:=zgJ hjl;generalize O[j]=oj at hgj htj;have nx:∀b:Bool,b=decide (hm∈O.take (j+1))→HG B (SlI s O::blk o1 (.cells (orV g t ms).toArray zU (0,0))::Γ) (qG.s4 Q (fun y1 y2=>k' (y1,y2)) (fun y1 y2=>k3 (y1,y2)) ⟨o1,0,none⟩ s (i:Int) hm b (j:Int)):=fun b hb=>by
   exact qJ<|hk3 (b,(j:Int)+1) (j+1) ⟨hb,by simp,hjl⟩ (by omega)
  rw[htj] at nx;cases kn with
  | true=>
   refine s_t ?_ (by rfl);refine nx true ?_;have:hm∈O.take j:=by simpa using hkn.symm
   simp[this]
  | false=>
   refine s_f ?_ (by rfl);refine je (c:=Value.int .i64) (L:=O) (j:=j) (x:=oj) (fun w hw=>(zO (s:=s) hw).1) hgj<|nx _ ?_;have:hm∉O.take j:=by simpa using hkn.symm
   simp[this,eq_comm]
 ·have hjl:j=O.length:=by simp only[zgF] at hb3;omega
  rw[hjl,zgQ] at hkn;subst hkn;by_cases hin:hm∈O
  ·rw[if_pos hin] at next;refine s_t ?_ (by simpa using hin);exact next
  rw[if_neg hin] at next;refine s_f ?_ (by simpa using hin);refine zDI (m:=1) (s:=s) (E:=zDF) (esz:=1) (vs:=O.map (Value.int .i64)) (us:=[.int .i64 hm]) (fun s2 hs2=>?_) (by omega);refine qJ ?_;have e0:O.map (Value.int .i64)++[Value.int .i64 hm]=(O++hm::[]).map (Value.int .i64):=by simp
  rw[e0];refine qH (α:=Int) (ι:=List Int×List Int) (fun x p=>x=(p.1.length:Int)∧p.1++p.2=O∧∀c∈p.2,hm<c) (fun x p=>SlI s2 (p.1++hm::p.2)::blk o1 (.cells (orV g t ms).toArray zU (0,0))::Γ) (fun x p=>p.1.length) (O,[]) ⟨by simp only;omega,by simp,by simp⟩ ?_;rintro k5 _ ⟨A,C⟩ ⟨rfl,hAC,hC⟩ hk5;have hAl:A.length+C.length=O.length:=by rw[←hAC,zgK]
  have done:(∀a∈A,a<hm)→HG B (SlI s2 (A++hm::C)::blk o1 (.cells (orV g t ms).toArray zU (0,0))::Γ) (qG.s6 Q (fun y1 y2=>k' (y1,y2)) (fun y1 y2=>k3 (y1,y2)) k5 ⟨o1,0,none⟩ s2 (i:Int) (A.length:Int) false):=fun hA=>by
   refine s_f ?_ (by rfl);have n2:=next (s':=s2);rw[←hAC,zTN hA hC] at n2;exact n2
  refine xg<|zF (fun hb5=>?_) fun hb5=>?_;rotate_left
  ·have:A=[]:=zgg.1 (by simp only[zgF] at hb5;omega);subst this;exact done (by simp)
  obtain⟨A',a,rfl⟩:∃A' a,A=A'++[a]:=⟨A.dropLast,A.getLast (fun e=>by subst e;simp at hb5),(List.dropLast_concat_getLast _).symm⟩
  simp only[zgK,zgO,zgl] at hAl ⊢;have g1:(A'++[a]++hm::C)[A'.length+1]?=some hm:=by simp
  have g0:(A'++[a]++hm::C)[A'.length]?=some a:=by simp
  have eA:((A'.length+(0+1):Nat):Int)-1=((A'.length:Nat):Int):=by omega
  refine je (fun w hw=>(zO hw).1) g1<|qJ<|je (fun w hw=>(zO hw).1) g0 ?_;by_cases hlt:hm<a;rotate_left
  ·rw[zgU hlt];have hne:hm≠a:=fun e=>hin (by rw[←hAC,e];simp);have:=done (fun x hx=>by
    rw[←hAC] at hris;have h1:=(zgf.1 hris).1;rcases zgP.1 hx with hx|hx
    ·have:=(zgf.1 h1).2.2 x hx a (by simp);omega
    ·simp only[zgM] at hx;omega)
   simp only[zgK,zgO,zgl] at this;exact this
  rw[zga hlt];refine s_t ?_ (by rfl);refine je (fun w hw=>(zO hw).1) g1<|qJ<|je (fun w hw=>(zO hw).1) g0<|yw s2 fun c1 c2 c3 c4=>?_;refine zBk (i:=A'.length+1) ?_ (by omega) (by omega);rw[←add0 (elA s2 (A'.length+1) 1)];refine zFV ?_ (by simp);refine qJ<|zBk ?_ (by omega) (by omega);rw[←add0 (elA s2 A'.length 1)];refine zFV ?_ (by simp);have eS:(((A'++[a]++hm::C).map (Value.int .i64)).set ((A'.length+1)*1+0) (.int .i64 a)).set (A'.length*1+0) (.int .i64 hm)=(A'++hm::a::C).map (Value.int .i64):=by
   simp[List.set_append]
  rw[eS];refine qJ<|hk5 _ (A',a::C) ⟨by simp only;omega,by rw[←hAC];simp,fun c hc=>?_⟩ (by simp);rcases zgS.1 hc with rfl|hc
  ·exact hlt
  ·exact hC c hc
abbrev zV4(b:Nat)(g:zx)(t:TxX)(ms:Sl):zB:=blk b (.cells (orV g t ms).toArray zU (0,0))
theorem zJV{g:zx}{t:TxX}{ms:Sl}{L:List MkX}{Q:Bool→K}(hr:∀w,Holds B Γ w→RdC w ms 3 (L.flatMap mkL))(hL:L.length≤1000)(h:HG B Γ (Q (zFn t L))):HG B Γ (zAE.call (orV g t ms).toArray Q):=fun w hw=>by
 refine zLi _ _ _ ?_;refine Sep.hg hw<|zD fun o1=>?_;refine zh ?_;unfold zFn at h;refine zF (fun hb=>?_) fun hb=>?_
 ·rw[hb,zhH] at h;refine yC ?_ rfl rfl;refine zKx (fun w hw=>hr w hw.drops) hL fun s=>?_;refine yw s fun a1 a2 a3 a4=>?_;rw[zgL,zgs] at a1;rw[show decide ((s.n:Int)=1)=decide ((xA L).length=1) by rw[←a1,ziD];omega];exact zA h
 ·rw[hb,zhs] at h;exact zA h
theorem zNL{g:zx}{t:TxX}{ms:Sl}{L:List MkX}{r:Int}{Q:Bool→K}(hr:∀w,Holds B Γ w→RdC w ms 3 (L.flatMap mkL))(hL:L.length≤1000)(h:HG B Γ (Q (decide (r∈xA L)))):HG B Γ (zA1.call (orV g t ms).toArray r Q):=fun w hw=>by
 refine zLh _ _ _ _<|Sep.hg hw<|zD fun o2=>?_;refine yC ?_ rfl rfl;refine zKx (fun w hw=>hr w hw.drops) hL fun s=>?_;have hlen:=zNK L;generalize xA L=H at *;refine yw s fun a1 a2 a3 a4=>?_;rw[zgL,zgs] at a1;refine qH (α:=Int) (ι:=Nat) (fun x i=>x=(i:Int)∧i≤H.length∧r∉H.take i) (fun x i=>SlI s H::zV4 o2 g t ms::Γ) (fun x i=>H.length-i) 0 ⟨rfl,zgW _,by simp⟩ ?_;rintro k' _ i ⟨rfl,hi,hn⟩ hk';refine zF (fun hb=>?_) fun hb=>?_
 ·have hil:i<H.length:=by simp only[zgH] at hb;omega
  have hge:H[i]?=some H[i]:=zgG hil;have htk:H.take (i+1)=H.take i++[H[i]]:=zgJ hil;have hmem:H[i]∈H:=zgX hil;generalize H[i]=x at hge htk hmem;refine je (fun w hw=>(zO hw).1) hge<|zF (fun he=>?_) fun he=>?_
  ·rw[zga (show r∈H by rw[←of_decide_eq_true he];exact hmem)] at h;exact zA h
  ·exact qJ<|hk' _ (i+1) ⟨by simp,hil,by rw[htk];simp[hn];simpa[eq_comm] using he⟩ (by omega)
 ·have hil:i=H.length:=by simp only[zgF] at hb;omega
  rw[hil,zgQ] at hn;rw[zgU hn] at h;exact zA h
theorem zLQ{g:zx}{t:TxX}{ms:Sl}{L:List MkX}{n:Int}{Q:Bool→K}(hpos:0≤g.epoch∧0≤g.seq)(hr:∀w,Holds B Γ w→zAn w t)(hm:∀w,Holds B Γ w→RdC w ms 3 (L.flatMap mkL))(hl:t.reads.length<1000000∧t.writes.length<1000000∧t.ops.length<1000000)(hml:L.length≤100000)
  (h:HG B Γ (Q (decide (zCr n g t L)))):HG B Γ (xB.call (orV g t ms).toArray n Q):=fun w hw=>by
 refine zM5 _ _ _ _ ?_;have hn:ms.n=L.length:=zAM jB (by omega) (hm w hw);refine Sep.hg hw<|zD fun o2=>?_;refine yC<|zD fun id5=>?_;refine yX<|yC<|zM0 (fun w hw=>hr w hw.drops) ⟨by omega,by omega,by omega⟩ ?_;have no:∀{Ψ:List zB},[Drops Ψ Γ]→¬zCr n g t L→HG B Ψ (xB.s1 Q n ⟨o2,0,none⟩ true):=fun {Ψ} _ hn=>by
  refine s_t ?_ (by rfl);rw[zgU hn] at h;exact zA h
 by_cases hrt:qC n t=true;rotate_left
 ·refine s_t ?_ (by simpa using hrt);exact no fun hh=>hrt hh.1
 rw[hrt];refine s_f ?_ (by rfl);refine zh ?_;refine zF (fun hc=>no fun hh=>by have:=hh.2.1;unfold zD5 at this;simp at hc;omega) fun hc1=>?_;refine zh ?_;refine zF (fun hc=>no fun hh=>by have:=hh.2.1;unfold zD5 at this;simp at hc;omega) fun hc2=>?_;refine zh ?_;refine zF (fun hc=>no fun hh=>by have:=hh.2.1;unfold zD5 at this;simp at hc;omega) fun hc3=>?_;refine zh ?_;refine zF (fun hc=>no fun hh=>by have:=hh.2.1;unfold zD5 at this;simp at hc;omega) fun hc4=>?_;refine zh ?_;refine zF (fun hc=>no fun hh=>by have:=hh.2.1;unfold zD5 at this;simp at hc;omega) fun hc5=>?_;refine zh ?_;by_cases hc6:(2:Int)<g.tr
 ·rw[zga hc6];exact no fun hh=>by have:=hh.2.1;unfold zD5 at this;omega
 rw[zgU hc6];refine s_f ?_ (by rfl);refine yC<|zKl (fun w hw=>(hr w hw.drops).1) (fun w hw=>(hr w hw.drops).2.1) (by omega) (by omega) fun ks=>?_;refine yw ks fun b1 b2 b3 b4=>?_;rw[zgL,zgs] at b1;refine zh ?_;have bad:∀{Ψ:List zB},[Drops Ψ Γ]→¬zCr n g t L→HG B Ψ (Q false):=fun {Ψ} _ hn=>by
  rw[zgU hn] at h;exact zA h
 have htg:zD5 g:=by
  simp only[zgF] at hc1 hc2 hc3 hc4 hc5;unfold zD5;omega
 refine zF (fun hlen=>bad fun ho=>?_) fun hlen=>?_
 ·have:=congrArg List.length ho.2.2.1;rw[zgL] at this;simp only[ne_eq,zgH] at hlen;omega
 have hlen:L.length=(vX (t.reads++t.writes)).length:=by simp only[ne_eq,zgF,Decidable.not_not] at hlen;omega
 refine zA (Δ:=SlS ks (vX (t.reads++t.writes))::zV4 o2 g t ms::Γ)<|qH (α:=Int) (ι:=Nat) (fun x i=>x=(i:Int)∧i≤L.length∧∀j,j<i→(L[j]?.map MkX.key)=(vX (t.reads++t.writes))[j]?∧∀m,L[j]?=some m→0≤m.home∧m.home<n) (fun x i=>SlS ks (vX (t.reads++t.writes))::zV4 o2 g t ms::Γ) (fun x i=>L.length-i) 0 ⟨rfl,zgW _,by omega⟩ ?_ (by rfl);rintro k' _ i ⟨rfl,hi,ha⟩ hk';refine zF (fun hc=>?_) fun hc=>?_;rotate_left
 ·have hil:i=L.length:=by simp only[zgF] at hc;omega
  have hall:zCr n g t L:=by
   refine⟨hrt,htg,zhV fun j=>?_,fun m hm=>?_⟩
   ·by_cases hj:j<i
    ·rw[zgk];exact(ha j hj).1
    ·rw[zhz (by simp;omega),zhz (by omega)]
   ·obtain⟨j,hj,rfl⟩:=List.mem_iff_getElem.1 hm;exact(ha j (by omega)).2 _ (zgG hj)
  rw[zga hall] at h;exact zA h
 have hil:i<L.length:=by simp only[zgH] at hc;omega
 have hge:L[i]?=some L[i]:=zgG hil;have hgk:(vX (t.reads++t.writes))[i]?=some (vX (t.reads++t.writes))[i]:=zgG (by omega);generalize L[i]=m at hge;generalize(vX (t.reads++t.writes))[i]=key at hgk;have S3:∀c:Bool,(c=true↔¬(m.key=key∧0≤m.home∧m.home<n))→HG B (SlS ks (vX (t.reads++t.writes))::zV4 o2 g t ms::Γ) (xB.s3 Q k' n ⟨o2,0,none⟩ ks (i:Int) c):=fun c hcc=>by
  cases c
  ·refine s_f ?_ (by rfl);refine qJ ?_;have hyes:m.key=key∧0≤m.home∧m.home<n:=by
    by_cases hh:m.key=key∧0≤m.home∧m.home<n
    ·exact hh
    ·have:=hcc.2 hh;cases this
   refine hk' _ (i+1) ⟨by simp,hil,fun j hj=>?_⟩ (by omega);by_cases hji:j=i
   ·subst hji;rw[hge,hgk];exact⟨by simp[hyes.1],fun m' hm'=>by cases hm';exact hyes.2⟩
   ·exact ha j (by omega)
  ·refine s_t ?_ (by rfl);refine bad fun ho=>hcc.1 rfl ?_;have h1:=congrArg (·[i]?) ho.2.2.1;simp only[zgk,hge,hgk,zg1,zg4] at h1;exact⟨h1,ho.2.2.2 m (zgx hge)⟩
 refine xg<|zh<|zGO mkL jB (fun w hw=>hm w hw.drops) hge rfl<|u7 (fun w hw=>(zO hw).1) hgk<|zF (fun h1=>?_) fun h1=>?_
 ·refine S3 true ?_;have:m.key≠key:=by simpa using h1
  simp[this]
 have hkey:m.key=key:=by simpa using h1
 refine zh<|zCU mkL jB (fun w hw=>hm w hw.drops) hge rfl<|zF (fun h2=>?_) fun h2=>?_
 ·refine S3 true ?_;simp only[zgH] at h2;simp only[true_iff,not_and];intro _ h3;omega
 refine zh<|zCU mkL jB (fun w hw=>hm w hw.drops) hge rfl<|S3 _ ?_;simp only[zgF,zgH] at h2 ⊢;constructor
 ·rintro h3 ⟨_,_,h4⟩;omega
 ·intro h3;by_cases h4:n≤m.home
  ·exact h4
  ·exact absurd ⟨hkey,by omega,by omega⟩ h3
theorem zN2{kind ix:Int}{g:zx}{t:TxX}{ms:Sl}{L:List MkX}{Q:Bool→K}(hpos:0≤g.epoch∧0≤g.seq)(hr:∀w,Holds B Γ w→zAn w t)(hm:∀w,Holds B Γ w→RdC w ms 3 (L.flatMap mkL))(hl:t.reads.length<1000000∧t.writes.length<1000000∧t.ops.length<1000000)(hml:L.length≤100000)
  (h:HG B Γ (Q (decide (zCr 3 g t L∧zDN kind ix)))):HG B Γ (vF.call (itN kind ix g t ms).toArray Q):=fun w hw=>by
 refine zJO _ _ _<|Sep.hg hw<|zD fun i1=>?_;refine yC<|zLQ hpos (fun w hw=>hr w hw.drops) (fun w hw=>hm w hw.drops) hl hml ?_;by_cases ho:zCr 3 g t L;rotate_left
 ·rw[zgU (fun hh=>ho hh.1)] at h;rw[zgU ho];refine s_t ?_ (by rfl);exact zA h
 rw[zga ho];refine s_f ?_ (by rfl);have hio:decide (zCr 3 g t L∧zDN kind ix)=decide (zDN kind ix):=by simp[ho]
 rw[hio] at h;have hi:zDN kind ix↔(kind=1∧ix=0∨kind=2∧0≤ix∧ix<64):=Iff.rfl;refine zh<|zF (fun h1=>?_) fun h1=>?_
 ·refine zh<|zF (fun h2=>?_) fun h2=>?_
  ·rw[zga (hi.2 (.inl ⟨by simpa using h1,by simpa using h2⟩))] at h;exact zA h
  ·refine zh ?_;simp only[zgH,zgF] at h1 h2;refine s_f ?_ (by simp;omega);rw[zgU (fun hh=>by have:=hi.1 hh;omega)] at h;exact zA h
 ·refine zh ?_;simp only[zgF] at h1;refine zF (fun h2=>?_) fun h2=>?_
  ·simp only[zgH] at h2;refine zh<|zF (fun h3=>?_) fun h3=>?_
   ·simp only[zgH] at h3;refine zh ?_;rw[show decide (zDN kind ix)=decide (ix<64) by rw[ziD,hi];omega] at h;exact zA h
   ·simp only[zgF] at h3;rw[zgU (fun hh=>by have:=hi.1 hh;omega)] at h;exact zA h
  ·simp only[zgF] at h2;rw[zgU (fun hh=>by have:=hi.1 hh;omega)] at h;exact zA h
end
end
section
open Go Go.Sep Go.Sep.Bt
structure ItG where
 kind:Int
 ix:Int
 o:OrG
abbrev zB4(x:ItG):List Value:=itN x.kind x.ix x.o.tag x.o.t x.o.ms
theorem zEe(x:ItG):(zB4 x).length=12:=rfl
section
variable{B:World}{Γ Δ:List zB}{k:K}
theorem zFY{a:Addr}{b off len:Nat}{i:Int}{kk:Addr→K}[ad:zDk a b off](h0:0≤i)(h1:i<len)(h:HG B Γ (kk ⟨b,off+i.toNat,none⟩)):HG B Γ (zBW a len i 1 kk):=fun w hw=>⟨_,h0,h1,by rw[ad.h,jD,zgs],h w hw⟩
end
end
section
open Go Go.Sep Go.Sep.Bt
structure RX where
 line:List Claim
 park:List Claim
 doom:List zx
abbrev rxL(x:RX)(c:Claim):RX:=⟨x.line++[c],x.park,x.doom⟩
abbrev rxP(x:RX)(c:Claim):RX:=⟨x.line,x.park++[c],x.doom⟩
abbrev rxD(x:RX)(t:zx):RX:=⟨x.line,x.park,zAm x.doom t⟩
def zAc(n:Nat)(S:zo)(tag:zx)(x:RX)(m:zCT):RX :=
 if zF6 x.line m.key tag||zF6 x.park m.key tag then x else if zCG n S m=0 then rxL x (tag,m) else if zCG n S m=1 then rxP x (tag,m) else rxD x tag
def zDv(n:Nat)(S:zo)(tag:zx)(ms:List zCT)(x:RX):RX:=ms.foldl (zAc n S tag) x
abbrev zBU(tag:zx)(x:RX):RX:=⟨noT tag x.line,noT tag x.park,x.doom.filter fun t=>!decide (t=tag)⟩
def zBP(r:Rec)(key:List UInt8)(L:List Claim)(D:List zx):List zx:=L.foldl (fun D c=>if c.2.key=key∧uF r c≠0 then zAm D c.1 else D) D
def zCp(r:Rec)(key:List UInt8)(x:List Claim×List zx×List Claim)(c:Claim):List Claim×List zx×List Claim :=
 if c.2.key≠key∨uF r c=1 then(x.1,x.2.1,x.2.2++[c]) else if uF r c=0 then(x.1++[c],x.2.1,x.2.2) else(x.1,zAm x.2.1 c.1,x.2.2)
def rMv(r:Rec)(key:List UInt8)(L:List Claim)(x:List Claim×List zx×List Claim):List Claim×List zx×List Claim:=L.foldl (zCp r key) x
def zEj(n:Nat)(S:zo)(key:List UInt8)(x:RX):RX :=
 let y:=rMv (yt n S (bs key)) key x.park (x.line,zBP (yt n S (bs key)) key x.line x.doom,[])
 ⟨y.1,y.2.2,y.2.1⟩
abbrev rsz(x:RX)(N:Nat):Prop:=x.line.length≤N∧x.park.length≤N∧x.doom.length≤N
theorem zL9(D:List zx)(t:zx):(zAm D t).length≤D.length+1:=by
 unfold zAm;split <;> simp
theorem zTO{n:Nat}{S:zo}{tag:zx}{x:RX}{m:zCT}{N:Nat}(h:rsz x N):rsz (zAc n S tag x m) (N+1):=by
 obtain⟨h1,h2,h3⟩:=h;have:=zL9 x.doom tag;unfold zAc;split
 ·exact⟨by omega,by omega,by omega⟩
 split
 ·exact⟨by simp;omega,by simp only;omega,by simp only;omega⟩
 split
 ·exact⟨by simp only;omega,by simp;omega,by simp only;omega⟩
 ·exact⟨by simp only;omega,by simp only;omega,by simp only;omega⟩
abbrev zCR(m:Nat)(ls ps ds:Sl)(x:RX)(Γ:List zB):List zB :=
 blk m (.cells [ls.val,ps.val,ds.val].toArray zAh (0,0))::SlC yP 7 ls (x.line.flatMap clF)::SlC yP 7 ps (x.park.flatMap clF)::SlC zN 4 ds (x.doom.flatMap zQ)::Γ
def zAW(m:Nat)(x:RX):zB:=ex fun ls=>ex fun ps=>ex fun ds=>Sep.stars (zCR m ls ps ds x [])
section
variable{B:World}{Γ Δ:List zB}{k:K}{tag:zx}{m n st:Nat}{x:RX}{S:zo}{P:Pool}
instance(priority:=high) zdI:Sep.Own m (zAW m x::Γ) (zAW m x) Γ:=⟨.refl _⟩
theorem zEy(h:∀ls ps ds,HG B (zCR m ls ps ds x Γ) k):HG B (zAW m x::Γ) k :=
 zCE fun ls=>zCE fun ps=>zCE fun ds=>zBL<|h ls ps ds
theorem jO{ls ps ds:Sl}(h:HG B (zAW m x::Γ) k):HG B (zCR m ls ps ds x Γ) k:=fun w hw=>by
 refine h w ?_;have h3:Holds B (Sep.stars (zCR m ls ps ds x [])::Γ) w:=Holds.flat.2 hw;exact h3.imp fun g hg=>⟨ls,ps,ds,hg⟩
theorem zYe{k:Addr→K}(h:∀m,HG B (zAW m ⟨[],[],[]⟩::Γ) (k ⟨m,0,none⟩)):HG B Γ (New zAh [Sl.val ⟨none,0,0⟩,Sl.val ⟨none,0,0⟩,Sl.val ⟨none,0,0⟩].toArray k):=by
 refine zD fun m=>?_;refine fun w hw=>?_;refine Sep.hg (show Holds B (SlC yP 7 ⟨none,0,0⟩ (([]:List Claim).flatMap clF)::_) w from hw.ji _ _) ?_;clear hw w;refine fun w hw=>?_;refine Sep.hg (show Holds B (SlC yP 7 ⟨none,0,0⟩ (([]:List Claim).flatMap clF)::_) w from hw.ji _ _) ?_;clear hw w;refine fun w hw=>?_;refine Sep.hg (show Holds B (SlC zN 4 ⟨none,0,0⟩ (([]:List zx).flatMap zQ)::_) w from hw.ji _ _) ?_;clear hw w;refine zA (Δ:=zCR m ⟨none,0,0⟩ ⟨none,0,0⟩ ⟨none,0,0⟩ ⟨[],[],[]⟩ Γ) ?_;exact jO (h m)
theorem zKy{Q:K}(hd:x.doom.length≤1000000)(h:HG B (zAW m (rxD x tag)::Γ) Q):HG B (zAW m x::Γ) (jg.call (some ⟨m,0,none⟩) (zQ tag).toArray Q):=by
 refine fun w hw=>zIZ _ _ _ _ ?_;refine hg hw ?_;clear hw w;refine zEy fun ls ps ds=>?_;refine yw ds fun a1 a2 a3 a4=>?_;rw[zH _ 4 zBv] at a1;unfold jg;refine zD fun g3=>?_;refine xg ?_;refine uf ?_;refine zh (b:=m) (x:=ds) ?_;refine yC (b:=g3) (l':=zQ tag) ?_;refine zIK (L:=x.doom) (by omega) (fun w hw=>(zO (s:=ds) hw).1) ?_;by_cases hin:tag∈x.doom
 ·refine s_f ?_ (by simp[hin]);rw[show rxD x tag=x by unfold rxD zAm;rw[if_pos hin]] at h;refine zA (Δ:=zCR m ls ps ds x Γ) ?_;exact jO h
 ·refine s_t ?_ (by simp[hin]);have hx:(rxD x tag).doom=x.doom++[tag]:=by show zAm x.doom tag=_;unfold zAm;rw[if_neg hin]
  refine xg ?_;refine zLO (fun w=>w.cell? ⟨m,2,none⟩=some ds.val∧RdN w ⟨g3,0,none⟩ (zQ tag).toArray) (fun w hw=>⟨y9 (xZ (b:=m) hw) rfl,zDu (b:=g3) (l:=zQ tag) (n:=4) hw⟩) ?_;refine zDt (x:=ds) (fun w hS=>hS.1) ?_;refine zES (l:=zQ tag) (fun w hS=>hS.2) ?_;refine zJU (z:=[.int .i64 0,.int .u64 0,.int .u64 0,.int .i64 0]) (us:=zQ tag) (vs:=x.doom.flatMap zQ) (fun w hw=>⟨y9 (xZ (b:=m) hw) rfl,zDu (b:=g3) (l:=zQ tag) (n:=4) hw⟩) (fun w hw=>(zO (s:=ds) hw).1) (zaU _) (by omega) fun s' hs'=>?_;refine zCN (b:=m) (l':=[ls.val,ps.val,s'.val]) ?_;rw[show x.doom.flatMap zQ++zQ tag=(rxD x tag).doom.flatMap zQ by rw[hx];simp[zge]];refine zA (Δ:=zCR m ls ps s' (rxD x tag) Γ) ?_;exact jO h
theorem zTP{Q:K}(hN:rsz x 1000000)(h:HG B (zAW m (zBU tag x)::Γ) Q):HG B (zAW m x::Γ) (qg.call (some ⟨m,0,none⟩) (zQ tag).toArray Q):=by
 refine fun w hw=>zHk _ _ _ _ ?_;refine hg hw ?_;clear hw w;obtain⟨n1,n2,n3⟩:=hN;refine zEy fun ls ps ds=>?_;refine yw ds fun a1 a2 a3 a4=>?_;rw[zH _ 4 zBv] at a1;unfold qg;refine zD fun g3=>?_;refine xg ?_;refine uf ?_;refine zh (b:=m) (x:=ls) ?_;refine yC (b:=g3) (l':=zQ tag) ?_;refine zKH (L:=x.line) n1 (fun w hw=>(zO (s:=ls) hw).1) fun ls'=>?_;refine zCN (b:=m) (l':=[ls'.val,ps.val,ds.val]) ?_;refine xg ?_;refine zh (b:=m) (x:=ps) ?_;refine yC (b:=g3) (l':=zQ tag) ?_;refine zKH (L:=x.park) n2 (fun w hw=>(zO (s:=ps) hw).1) fun ps'=>?_;refine zCN (b:=m) (l':=[ls'.val,ps'.val,ds.val]) ?_;refine zD fun t24=>?_;refine zCi (esz:=4) ?_;refine zA (Δ:=SlC zN 4 ⟨some ⟨t24,0,none⟩,0,0⟩ []::blk m (.cells [ls'.val,ps'.val,ds.val].toArray zAh (0,0))::SlC zN 4 ds (x.doom.flatMap zQ)::blk g3 (.cells (zQ tag).toArray zN (0,0))::SlC yP 7 ls' ((noT tag x.line).flatMap clF)::SlC yP 7 ps' ((noT tag x.park).flatMap clF)::Γ) ?_;refine qH (α:=Sl×Int) (ι:=Nat) (fun y i=>y.2=(i:Int)∧i≤x.doom.length) (fun y i=>SlC zN 4 y.1 (((x.doom.take i).filter fun t=>!decide (t=tag)).flatMap zQ)::blk m (.cells [ls'.val,ps'.val,ds.val].toArray zAh (0,0))::SlC zN 4 ds (x.doom.flatMap zQ)::blk g3 (.cells (zQ tag).toArray zN (0,0))::SlC yP 7 ls' ((noT tag x.line).flatMap clF)::SlC yP 7 ps' ((noT tag x.park).flatMap clF)::Γ) (fun y i=>x.doom.length-i) 0 ⟨rfl,zgW _⟩ ?_;rintro k' ⟨o,_⟩ i ⟨rfl,hi⟩ hk';simp only at hi hk' ⊢;refine yw o fun b1 b2 b3 b4=>?_;rw[zH _ 4 zBv] at b1;have ho:((x.doom.take i).filter fun t=>!decide (t=tag)).length≤i:=by
  have h1:=zgr (fun t:zx=>!decide (t=tag)) (x.doom.take i);rw[zgR] at h1;omega
 unfold qg.b1;refine zh (b:=m) (x:=ds) ?_;refine zF (fun hb=>?_) fun hb=>?_
 ·have hil:i<x.doom.length:=by simp only[zgH] at hb;omega
  have htk:=zgJ hil;have hge:x.doom[i]?=some x.doom[i]:=zgG hil;generalize x.doom[i]=t at htk hge;refine xg ?_;refine zh (b:=m) (x:=ds) ?_;refine uT zQ zBv (fun w hw=>(zO (s:=ds) hw).1) hge ?_;refine yC (b:=g3) (l':=zQ tag) ?_;refine zMe (xs:=zQ t) (ys:=zQ tag) (ks:=zJ2) zBw ?_;by_cases hx:t=tag
  ·refine s_f ?_ (by simp[hx]);unfold qg.s2;refine qJ ?_;have hfin:=hk' (o,(i:Int)+1) (i+1) ⟨by simp,hil⟩ (by omega);rw[show(x.doom.take (i+1)).filter (fun t=>!decide (t=tag))=(x.doom.take i).filter fun t=>!decide (t=tag) by rw[htk];simp[hx]] at hfin;exact hfin
  ·refine s_t ?_ (by simp[hx]);refine zh (b:=m) (x:=ds) ?_;refine uT zQ zBv (fun w hw=>(zO (s:=ds) hw).1) hge ?_;refine zBh ?_;refine zDI (s:=o) (m:=1) (us:=zQ t) (fun o2 ho2=>?_);unfold qg.s2;refine qJ ?_;have hfin:=hk' (o2,(i:Int)+1) (i+1) ⟨by simp,hil⟩ (by omega);rw[show((x.doom.take (i+1)).filter fun t=>!decide (t=tag)).flatMap zQ=((x.doom.take i).filter fun t=>!decide (t=tag)).flatMap zQ++zQ t by rw[htk];simp[hx,zge]] at hfin;exact hfin
 ·have hil:i=x.doom.length:=by simp only[zgF] at hb;omega
  rw[hil,zgQ];refine zCN (b:=m) (l':=[ls'.val,ps'.val,o.val]) ?_;refine zA (Δ:=zCR m ls' ps' o (zBU tag x) Γ) ?_;exact jO h
theorem zKz{r:Rec}{sl:Sl}{mk:zCT}{Q:Int→K}(h:HG B Γ (Q (zBa r.cnt mk.cnt r.home mk.home))):HG B Γ (zAR.call (zLY r sl) (zBN mk).toArray Q):=fun w hw=>by
 refine zNz _ _ _ _ ?_;refine Sep.hg hw ?_;clear hw w;unfold zAR zAR.s1;refine zD fun r2=>?_;refine zD fun m3=>?_
 repeat refine zT ?_
 refine zF (fun hb=>?_) fun hb=>?_
 ·rw[show zBa r.cnt mk.cnt r.home mk.home=1 by unfold zBa;rw[if_pos (by simpa using hb)]] at h;exact zA h
 have hb':¬r.cnt<mk.cnt:=by simpa using hb
 repeat refine zT ?_
 refine zF (fun hc=>?_) fun hc=>?_
 ·have hc':mk.cnt<r.cnt:=by simpa using hc
  refine s_t ?_;rw[show zBa r.cnt mk.cnt r.home mk.home=2 by unfold zBa;rw[if_neg hb',if_neg (by omega)]] at h;exact zA h
 have hc':¬mk.cnt<r.cnt:=by simpa using hc
 repeat refine zT ?_
 refine zF (fun hd=>?_) fun hd=>?_
 ·have hd':mk.home≠r.home:=by simpa using hd
  rw[show zBa r.cnt mk.cnt r.home mk.home=2 by unfold zBa;rw[if_neg hb',if_neg fun h=>hd' h.2]] at h;exact zA h
 ·have hd':mk.home=r.home:=by simpa using hd
  rw[show zBa r.cnt mk.cnt r.home mk.home=0 by unfold zBa;rw[if_neg hb',if_pos ⟨by omega,hd'⟩]] at h;exact zA h
end
end
section
open Go Go.Sep Go.Sep.Bt
section
variable{B:World}{Γ Δ:List zB}{k:K}{tag:zx}{m n st:Nat}{x:RX}{S:zo}{P:Pool}
abbrev clZ:List Value:=[.int .i64 0,.int .u64 0,.int .u64 0,.int .i64 0,.string ⟨#[]⟩,.int .i64 0,.int .u64 0]
theorem zTQ{y:RX}{mk:zCT}{m9 g6:Nat}{ms:Sl}{i:Int}{N:Nat}{Q:K}{X1:Int→K}(hsz:rsz y N)(hNl:N≤900000)(hk:mk.key.length<1000000000)(hS:S.length<100000000)(hno:(zF6 y.line mk.key tag||zF6 y.park mk.key tag)=false)
  (h:HG B (zAW m (zAc n S tag y mk)::jC st n S P::blk m9 (.cells (zBN mk).toArray zi (0,0))::blk g6 (.cells (zQ tag).toArray zN (0,0))::Γ) (zk.s2 Q X1 (some ⟨m,0,none⟩) (some ⟨st,0,none⟩) ms ⟨g6,0,none⟩ i)) :
  HG B (zAW m y::jC st n S P::blk m9 (.cells (zBN mk).toArray zi (0,0))::blk g6 (.cells (zQ tag).toArray zN (0,0))::Γ) (zk.s3 Q X1 (some ⟨m,0,none⟩) (some ⟨st,0,none⟩) ms ⟨g6,0,none⟩ i ⟨m9,0,none⟩ false):=by
 obtain⟨n1,n2,n3⟩:=hsz;unfold zk.s3;refine s_f ?_;refine xg ?_;refine zLO (fun w=>w.cell? ⟨m9,0,none⟩=some (.string (bs mk.key))∧RdN w ⟨m9,0,none⟩ (zBN mk).toArray) (fun w hw=>⟨y9 (xZ (b:=m9) hw) rfl,zDu (b:=m9) (l:=zBN mk) (n:=3) hw⟩) ?_;refine zDt (x:=bs mk.key) (fun w hS=>hS.1) ?_;refine zES (l:=zBN mk) (fun w hS=>hS.2) ?_;refine yN st ?_;refine zKB (by show mk.key.length<_;omega) hS fun sl hok _=>?_;refine zF1 (fun w hw=>⟨y9 (xZ (b:=m9) hw) rfl,zDu (b:=m9) (l:=zBN mk) (n:=3) hw⟩) ?_;refine zKz (r:=yt n S (bs mk.key)) ?_;have hlk:zCG n S mk=zBa (yt n S (bs mk.key)).cnt mk.cnt (yt n S (bs mk.key)).home mk.home:=rfl;rw[←hlk];refine yN m ?_;unfold zAc at h;rw[hno] at h;simp only[zgc,zhG] at h;by_cases h0:zCG n S mk=0
 ·rw[if_pos h0] at h;refine s_t ?_ (by simpa using h0);refine zEy fun ls ps ds=>?_;refine yw ls fun a1 a2 a3 a4=>?_;rw[zH _ 7 xW] at a1;refine xg ?_;refine zLO (fun w=>w.cell? ⟨m,0,none⟩=some ls.val∧RdN w ⟨g6,0,none⟩ (zQ tag).toArray∧RdN w ⟨m9,0,none⟩ (zBN mk).toArray) (fun w hw=>⟨y9 (xZ (b:=m) hw) rfl,zDu (b:=g6) (l:=zQ tag) (n:=4) hw,zDu (b:=m9) (l:=zBN mk) (n:=3) hw⟩) ?_;refine uf ?_;refine zDt (x:=ls) (fun w hS=>hS.1) ?_;refine zES (l:=zQ tag) (fun w hS=>hS.2.1) ?_;refine zES (l:=zBN mk) (fun w hS=>hS.2.2) ?_;refine zT ?_;refine zJU (z:=clZ) (us:=clF (tag,mk)) (vs:=y.line.flatMap clF) (fun w hw=>⟨y9 (xZ (b:=m) hw) rfl,zDu (b:=g6) (l:=zQ tag) (n:=4) hw,zDu (b:=m9) (l:=zBN mk) (n:=3) hw⟩) (fun w hw=>(zO (s:=ls) hw).1) (zKh _) (by omega) fun s' hs'=>?_;refine zCN (b:=m) (l':=[s'.val,ps.val,ds.val]) ?_;rw[show y.line.flatMap clF++clF (tag,mk)=(rxL y (tag,mk)).line.flatMap clF by simp[zge]];refine zA (Δ:=zCR m s' ps ds (rxL y (tag,mk)) (jC st n S P::blk m9 (.cells (zBN mk).toArray zi (0,0))::blk g6 (.cells (zQ tag).toArray zN (0,0))::Γ)) ?_;exact jO h
 rw[if_neg h0] at h;refine s_f ?_ (by simpa using h0);by_cases h1:zCG n S mk=1
 ·rw[if_pos h1] at h;refine s_t ?_ (by simpa using h1);refine zEy fun ls ps ds=>?_;refine yw ps fun a1 a2 a3 a4=>?_;rw[zH _ 7 xW] at a1;refine xg ?_;refine zLO (fun w=>w.cell? ⟨m,1,none⟩=some ps.val∧RdN w ⟨g6,0,none⟩ (zQ tag).toArray∧RdN w ⟨m9,0,none⟩ (zBN mk).toArray) (fun w hw=>⟨y9 (xZ (b:=m) hw) rfl,zDu (b:=g6) (l:=zQ tag) (n:=4) hw,zDu (b:=m9) (l:=zBN mk) (n:=3) hw⟩) ?_;refine uf ?_;refine zDt (x:=ps) (fun w hS=>hS.1) ?_;refine zES (l:=zQ tag) (fun w hS=>hS.2.1) ?_;refine zES (l:=zBN mk) (fun w hS=>hS.2.2) ?_;refine zT ?_;refine zJU (z:=clZ) (us:=clF (tag,mk)) (vs:=y.park.flatMap clF) (fun w hw=>⟨y9 (xZ (b:=m) hw) rfl,zDu (b:=g6) (l:=zQ tag) (n:=4) hw,zDu (b:=m9) (l:=zBN mk) (n:=3) hw⟩) (fun w hw=>(zO (s:=ps) hw).1) (zKh _) (by omega) fun s' hs'=>?_;refine zCN (b:=m) (l':=[ls.val,s'.val,ds.val]) ?_;rw[show y.park.flatMap clF++clF (tag,mk)=(rxP y (tag,mk)).park.flatMap clF by simp[zge]];refine zA (Δ:=zCR m ls s' ds (rxP y (tag,mk)) (jC st n S P::blk m9 (.cells (zBN mk).toArray zi (0,0))::blk g6 (.cells (zQ tag).toArray zN (0,0))::Γ)) ?_;exact jO h
 rw[if_neg h1] at h;refine s_f ?_ (by simpa using h1);refine yC (b:=g6) (l':=zQ tag) ?_;refine zKy (by omega) ?_;exact zA h
theorem zTR{ms:Sl}{L:List zCT}{N:Nat}{Q:K}(hr:∀w,Holds B Γ w→RdC w ms 3 (L.flatMap zBN))(hk:∀m∈L,m.key.length<1000000000)(hS:S.length<100000000)(hN:rsz x N)(hNl:N+L.length≤900000)(h:HG B (zAW m (zDv n S tag L x)::jC st n S P::Γ) Q):
  HG B (zAW m x::jC st n S P::Γ) (zk.call (some ⟨m,0,none⟩) (some ⟨st,0,none⟩) (zQ tag).toArray ms Q):=fun w hw=>by
 refine zHi _ _ _ _ _ _ ?_;have ln:ms.n=L.length:=zAM zIB (by omega) (hr w hw.drops);refine hg hw ?_;clear hw w;unfold zk;refine zD fun g6=>?_;refine zA (Δ:=zAW m x::jC st n S P::blk g6 (.cells (zQ tag).toArray zN (0,0))::Γ) ?_;refine qH (α:=Int) (ι:=Nat×RX) (fun z i=>z=(i.1:Int)∧i.1≤L.length∧i.2=zDv n S tag (L.take i.1) x∧rsz i.2 (N+i.1)) (fun z i=>zAW m i.2::jC st n S P::blk g6 (.cells (zQ tag).toArray zN (0,0))::Γ) (fun z i=>L.length-i.1) (0,x) ⟨rfl,zgW _,rfl,by simpa using hN⟩ ?_;rintro k' _ ⟨i,y⟩ ⟨rfl,hi,hy,hsz⟩ hk';simp only at hi hy hsz hk' ⊢;unfold zk.b1;refine zF (fun hb=>?_) fun hb=>?_;rotate_left
 ·have hil:i=L.length:=by simp only[zgF] at hb;omega
  rw[hil,zgQ] at hy;rw[hy];exact zA h
 have hil:i<L.length:=by simp only[zgH] at hb;omega
 have htk:=zgJ hil;have hge:L[i]?=some L[i]:=zgG hil;have hmem:L[i]∈L:=zgX hil;generalize L[i]=mk at htk hge hmem;have hstep:zDv n S tag (L.take (i+1)) x=zAc n S tag y mk:=by rw[htk,hy];simp[zDv,zhQ]
 have hsz1:rsz (zAc n S tag y mk) (N+(i+1)):=zTO hsz;refine uT zBN zIB (fun w hw=>hr w hw.drops) hge ?_;refine zD fun m9=>?_;refine yX (b:=m9) (l':=zBN mk) ?_;have S2:HG B (zAW m (zAc n S tag y mk)::jC st n S P::blk m9 (.cells (zBN mk).toArray zi (0,0))::blk g6 (.cells (zQ tag).toArray zN (0,0))::Γ) (zk.s2 Q k' (some ⟨m,0,none⟩) (some ⟨st,0,none⟩) ms ⟨g6,0,none⟩ (i:Int)):=by
  unfold zk.s2;refine qJ ?_;exact zA (hk' ((i:Int)+1) (i+1,zAc n S tag y mk) ⟨by simp,hil,hstep.symm,hsz1⟩ (by simp only;omega))
 refine yN m ?_;refine zEy fun ls ps ds=>?_;refine xg ?_;refine zLO (fun w=>w.cell? ⟨m,0,none⟩=some ls.val∧w.cell? ⟨m,1,none⟩=some ps.val∧w.cell? ⟨m9,0,none⟩=some (.string (bs mk.key))∧RdN w ⟨g6,0,none⟩ (zQ tag).toArray) (fun w hw=>⟨y9 (xZ (b:=m) hw) rfl,y9 (xZ (b:=m) hw) rfl,y9 (xZ (b:=m9) hw) rfl,zDu (b:=g6) (l:=zQ tag) (n:=4) hw⟩) ?_;refine uf ?_;refine zDt (x:=ls) (fun w hS=>hS.1) ?_;refine zDt (x:=bs mk.key) (fun w hS=>hS.2.2.1) ?_;refine zES (l:=zQ tag) (fun w hS=>hS.2.2.2) ?_;refine zRr (L:=y.line) (by have:=hsz.1;omega) (fun w hw=>(zO (s:=ls) hw).1) ?_;refine zF1 (fun w hw=>⟨y9 (xZ (b:=m) hw) rfl,y9 (xZ (b:=m) hw) rfl,y9 (xZ (b:=m9) hw) rfl,zDu (b:=g6) (l:=zQ tag) (n:=4) hw⟩) ?_;have yes:(zF6 y.line mk.key tag||zF6 y.park mk.key tag)=true→HG B (zCR m ls ps ds y (jC st n S P::blk m9 (.cells (zBN mk).toArray zi (0,0))::blk g6 (.cells (zQ tag).toArray zN (0,0))::Γ)) (zk.s3 Q k' (some ⟨m,0,none⟩) (some ⟨st,0,none⟩) ms ⟨g6,0,none⟩ (i:Int) ⟨m9,0,none⟩ true):=fun hyes=>by
  unfold zk.s3;refine s_t ?_;rw[show zAc n S tag y mk=y by unfold zAc;rw[if_pos hyes]] at S2;exact jO S2
 by_cases h1:zF6 y.line mk.key tag=true
 ·refine s_t ?_ h1;exact zA (yes (by rw[h1];rfl))
 have h1':zF6 y.line mk.key tag=false:=by simpa using h1
 refine s_f ?_ h1';refine zDt (x:=ps) (fun w hS=>hS.2.1) ?_;refine zDt (x:=bs mk.key) (fun w hS=>hS.2.2.1) ?_;refine zES (l:=zQ tag) (fun w hS=>hS.2.2.2) ?_;refine zRr (L:=y.park) (by have:=hsz.2.1;omega) (fun w hw=>(zO (s:=ps) hw).1) ?_;by_cases h2:zF6 y.park mk.key tag=true
 ·rw[h2];exact zA (yes (by rw[h2];simp))
 have h2':zF6 y.park mk.key tag=false:=by simpa using h2
 rw[h2'];refine zA (Δ:=zCR m ls ps ds y (jC st n S P::blk m9 (.cells (zBN mk).toArray zi (0,0))::blk g6 (.cells (zQ tag).toArray zN (0,0))::Γ)) ?_;exact jO (zTQ (N:=N+i) hsz (by omega) (hk _ hmem) hS (by rw[h1',h2'];rfl) S2)
end
end
section
open Go Go.Sep Go.Sep.Bt
theorem zK0(r:Rec)(key:List UInt8):∀(L:List Claim) (D:List zx),(zBP r key L D).length≤D.length+L.length
 | [],D=>by simp[zBP]
 | c::L,D=>by
  show(zBP r key L (if c.2.key=key∧uF r c≠0 then zAm D c.1 else D)).length≤_;have h1:=zK0 r key L (if c.2.key=key∧uF r c≠0 then zAm D c.1 else D);have h2:=zL9 D c.1;have h3:(if c.2.key=key∧uF r c≠0 then zAm D c.1 else D).length≤D.length+1:=by
   split
   ·exact h2
   ·omega
  rw[zgO];omega
theorem zTS(r:Rec)(key:List UInt8):∀(L:List Claim) (x:List Claim×List zx×List Claim),(rMv r key L x).1.length≤x.1.length+L.length∧(rMv r key L x).2.1.length≤x.2.1.length+L.length∧(rMv r key L x).2.2.length≤x.2.2.length+L.length
 | [],x=>by simp[rMv]
 | c::L,x=>by
  show(rMv r key L (zCp r key x c)).1.length≤_∧(rMv r key L (zCp r key x c)).2.1.length≤_∧(rMv r key L (zCp r key x c)).2.2.length≤_;have h1:=zTS r key L (zCp r key x c);have h2:=zL9 x.2.1 c.1;have h3:(zCp r key x c).1.length≤x.1.length+1∧(zCp r key x c).2.1.length≤x.2.1.length+1∧(zCp r key x c).2.2.length≤x.2.2.length+1:=by
   unfold zCp;split
   ·simp
   split <;> simp <;> omega
  simp only[zgO];omega
theorem zRu(r:Rec)(key:List UInt8)(L:List Claim)(c:Claim)(D:List zx):zBP r key (L++[c]) D=if c.2.key=key∧uF r c≠0 then zAm (zBP r key L D) c.1 else zBP r key L D:=by
 unfold zBP;rw[zhQ];rfl
theorem zYf(r:Rec)(key:List UInt8)(L:List Claim)(c:Claim)(x:List Claim×List zx×List Claim):rMv r key (L++[c]) x=zCp r key (rMv r key L x) c:=by
 unfold rMv;rw[zhQ];rfl
section
variable{B:World}{Γ Δ:List zB}{k:K}{tag:zx}{m n st:Nat}{x:RX}{S:zo}{P:Pool}
theorem zQC{a:Addr}{off j:Nat}{cs us:List Value}{k:Array Value→K}(hn:∀w,Holds B Γ w→RdN w a cs.toArray)(hm:off+j≤cs.length)(h:HG B Γ (k us.toArray))(hu:(cs.drop off).take j=us:=by rfl):HG B Γ (LdN (a.add off) j k):=fun w hw=>by
 refine⟨us.toArray,by rw[←hu];simp;omega,fun i hi=>?_,h w hw⟩;have hl:us.length=j:=by rw[←hu,zgR,zhB];omega
 simp only[zg7] at hi;have:=hn w hw (off+i) (by simp only[zg7];omega);rw[show(a.add off).add i=a.add (off+i) by cases a;by_cases h1:off=0 <;> by_cases h2:i=0 <;> simp[Addr.add,h1,h2,Nat.add_assoc]];rw[this];have e:cs[off+i]?=us[i]?:=by rw[←hu,zhY,if_pos (by omega),zgt]
 simpa using e
abbrev zCS(r:Rec)(s:Sl):List Value:=[.bool r.has,s.val,.int .i64 r.home,.int .u64 r.cnt]
theorem zTT{key:List UInt8}{r:Rec}{sl:Sl}{r6 t58 N:Nat}{D:List zx}{Q:K}{X1:Int→K}(hN:rsz ⟨x.line,x.park,D⟩ N)(hNl:N≤400000)
  (h:HG B (zAW m ⟨(rMv r key x.park (x.line,D,[])).1,(rMv r key x.park (x.line,D,[])).2.2,(rMv r key x.park (x.line,D,[])).2.1⟩::blk r6 (.cells (zCS r sl).toArray zw (0,0))::Γ) Q) :
  HG B (SlC yP 7 ⟨some ⟨t58,0,none⟩,0,0⟩ []::zAW m ⟨x.line,x.park,D⟩::blk r6 (.cells (zCS r sl).toArray zw (0,0))::Γ)
   (zq (α:=Sl×Int) (fun X z=>zK.b4 Q X1 (fun left8_4 i9_4=>X (left8_4,i9_4)) ⟨m,0,none⟩ (bs key) ⟨r6,0,none⟩ z.1 z.2) ((Sl.mk (some ⟨t58,0,none⟩) 0 0),0)):=by
 obtain⟨n1,n2,n3⟩:=hN;simp only at n1 n2 n3;refine qH (α:=Sl×Int) (ι:=Nat×(List Claim×List zx×List Claim)) (fun z i=>z.2=(i.1:Int)∧i.1≤x.park.length∧i.2=rMv r key (x.park.take i.1) (x.line,D,[])) (fun z i=>SlC yP 7 z.1 (i.2.2.2.flatMap clF)::zAW m ⟨i.2.1,x.park,i.2.2.1⟩::blk r6 (.cells (zCS r sl).toArray zw (0,0))::Γ) (fun z i=>x.park.length-i.1) (0,(x.line,D,[])) ⟨rfl,zgW _,rfl⟩ ?_;rintro k' ⟨o,_⟩ ⟨i,y⟩ ⟨rfl,hi,hy⟩ hk';simp only at hi hy hk' ⊢;have hle:=zTS r key (x.park.take i) (x.line,D,[]);rw[←hy,zgR] at hle;simp only[zgl] at hle;refine yw o fun b1 b2 b3 b4=>?_;rw[zH _ 7 xW] at b1;refine yN m ?_;refine zEy fun ls ps ds=>?_;refine yw ps fun a1 a2 a3 a4=>?_;rw[zH _ 7 xW] at a1;simp only at a1;refine yw ls fun c1 c2 c3 c4=>?_;rw[zH _ 7 xW] at c1;simp only at c1;unfold zK.b4;refine zh (b:=m) (x:=ps) ?_;refine zF (fun hb=>?_) fun hb=>?_;rotate_left
 ·have hil:i=x.park.length:=by simp only[zgF] at hb;omega
  rw[hil,zgQ] at hy;refine zCN (b:=m) (l':=[ls.val,o.val,ds.val]) ?_;rw[←hy] at h;refine zA (Δ:=zCR m ls o ds ⟨y.1,y.2.2,y.2.1⟩ (blk r6 (.cells (zCS r sl).toArray zw (0,0))::Γ)) ?_;exact jO h
 have hil:i<x.park.length:=by simp only[zgH] at hb;omega
 have htk:=zgJ hil;have hge:x.park[i]?=some x.park[i]:=zgG hil;generalize x.park[i]=c at htk hge;have hstep:rMv r key (x.park.take (i+1)) (x.line,D,[])=zCp r key y c:=by rw[htk,zYf,←hy]
 have S5:∀(o2 ls2 ds2:Sl) (y2:List Claim×List zx×List Claim) (c10:Nat),zCp r key y c=y2→HG B (SlC yP 7 o2 (y2.2.2.flatMap clF)::zAW m ⟨y2.1,x.park,y2.2.1⟩::blk r6 (.cells (zCS r sl).toArray zw (0,0))::Γ) (zK.s5 Q X1 (fun left8_4 i9_4=>k' (left8_4,i9_4)) ⟨m,0,none⟩ (bs key) ⟨r6,0,none⟩ o2 (i:Int)):=fun o2 ls2 ds2 y2 c10 hy2=>by
  unfold zK.s5;refine qJ ?_;exact hk' (o2,(i:Int)+1) (i+1,y2) ⟨by simp,hil,by rw[hstep,hy2]⟩ (by simp only;omega)
 refine zh (b:=m) (x:=ps) ?_;refine uT clF xW (fun w hw=>(zO (s:=ps) hw).1) hge ?_;refine zD fun c10=>?_;refine yX (b:=c10) (l':=clF c) ?_;refine yC (b:=r6) (l':=zCS r sl) ?_;refine yC (b:=c10) (l':=zBN c.2) ?_;refine zKz (r:=r) (mk:=c.2) ?_;refine zh (b:=c10) (x:=bs c.2.key) ?_;have hlk:zBa r.cnt c.2.cnt r.home c.2.home=uF r c:=rfl;rw[hlk];have left:(c.2.key≠key∨uF r c=1)→HG B (blk c10 (.cells (clF c).toArray yP (0,0))::SlC yP 7 o (y.2.2.flatMap clF)::zCR m ls ps ds ⟨y.1,x.park,y.2.1⟩ (blk r6 (.cells (zCS r sl).toArray zw (0,0))::Γ)) (zK.s6 Q X1 (fun left8_4 i9_4=>k' (left8_4,i9_4)) ⟨m,0,none⟩ (bs key) ⟨r6,0,none⟩ o (i:Int) ⟨c10,0,none⟩ (uF r c) true):=fun hc=>by
  unfold zK.s6;refine s_t ?_;refine yC (b:=c10) (l':=clF c) ?_;refine zBh ?_;refine zDI (s:=o) (m:=1) (us:=clF c) (fun o2 ho2=>?_);have hfin:=S5 o2 ls ds (y.1,y.2.1,y.2.2++[c]) c10 (by unfold zCp;rw[if_pos hc]);simp only[zge,zgi,zhn,zgy] at hfin;refine zA (Δ:=zCR m ls ps ds ⟨y.1,x.park,y.2.1⟩ (SlC yP 7 o2 (y.2.2.flatMap clF++clF c)::blk r6 (.cells (zCS r sl).toArray zw (0,0))::Γ)) ?_;refine jO ?_;exact zA hfin
 refine zF (fun hp=>?_) fun hp=>?_
 ·have hkey:c.2.key≠key:=by rw[qZ,qZ] at hp;simpa using hp
  exact zA (left (.inl hkey))
 have hkey:c.2.key=key:=by rw[qZ,qZ] at hp;simpa using hp
 by_cases h1:uF r c=1
 ·rw[show decide (uF r c=1)=true by simpa using h1];exact zA (left (.inr h1))
 rw[show decide (uF r c=1)=false by simpa using h1];unfold zK.s6;refine s_f ?_;have hno:¬(c.2.key≠key∨uF r c=1):=by simp[hkey,h1]
 by_cases h0:uF r c=0
 ·refine s_t ?_ (by simpa using h0);refine xg ?_;refine zLO (fun w=>w.cell? ⟨m,0,none⟩=some ls.val∧RdN w ⟨c10,0,none⟩ (clF c).toArray) (fun w hw=>⟨y9 (xZ (b:=m) hw) rfl,zDu (b:=c10) (l:=clF c) (n:=7) hw⟩) ?_;refine zDt (x:=ls) (fun w hS=>hS.1) ?_;refine zES (l:=clF c) (fun w hS=>hS.2) ?_;refine zJU (z:=clZ) (us:=clF c) (vs:=y.1.flatMap clF) (fun w hw=>⟨y9 (xZ (b:=m) hw) rfl,zDu (b:=c10) (l:=clF c) (n:=7) hw⟩) (fun w hw=>(zO (s:=ls) hw).1) (zKh _) (by omega) fun s' hs'=>?_;refine zCN (b:=m) (l':=[s'.val,ps.val,ds.val]) ?_;have hfin:=S5 o s' ds (y.1++[c],y.2.1,y.2.2) c10 (by unfold zCp;rw[if_neg hno,if_pos h0]);rw[show y.1.flatMap clF++clF c=(y.1++[c]).flatMap clF by simp[zge]];refine zA (Δ:=zCR m s' ps ds ⟨y.1++[c],x.park,y.2.1⟩ (SlC yP 7 o (y.2.2.flatMap clF)::blk r6 (.cells (zCS r sl).toArray zw (0,0))::Γ)) ?_;refine jO ?_;exact zA hfin
 ·refine s_f ?_ (by simpa using h0);refine yC (b:=c10) (l':=zQ c.1) ?_;refine zA (Δ:=zCR m ls ps ds ⟨y.1,x.park,y.2.1⟩ (SlC yP 7 o (y.2.2.flatMap clF)::blk r6 (.cells (zCS r sl).toArray zw (0,0))::Γ)) ?_;refine jO ?_;refine zKy (by simp only;omega) ?_;have hfin:=S5 o ls ds (y.1,zAm y.2.1 c.1,y.2.2) c10 (by unfold zCp;rw[if_neg hno,if_neg h0]);exact zA hfin
theorem zTU{key:List UInt8}{N:Nat}{Q:K}(hk:key.length<1000000000)(hS:S.length<100000000)(hN:rsz x N)(hNl:N≤100000)(h:HG B (zAW m (zEj n S key x)::jC st n S P::Γ) Q):
  HG B (zAW m x::jC st n S P::Γ) (zK.call (some ⟨m,0,none⟩) (some ⟨st,0,none⟩) (bs key) Q):=by
 refine fun w hw=>zHl _ _ _ _ _ ?_;refine hg hw ?_;clear hw w;obtain⟨n1,n2,n3⟩:=hN;unfold zK;refine yN st ?_;refine zKB (by show key.length<_;omega) hS fun sl hok _=>?_;have hmv:zEj n S key x=⟨(rMv (yt n S (bs key)) key x.park (x.line,zBP (yt n S (bs key)) key x.line x.doom,[])).1,(rMv (yt n S (bs key)) key x.park (x.line,zBP (yt n S (bs key)) key x.line x.doom,[])).2.2,(rMv (yt n S (bs key)) key x.park (x.line,zBP (yt n S (bs key)) key x.line x.doom,[])).2.1⟩:=rfl;rw[hmv] at h;generalize yt n S (bs key)=r at h;refine zD fun r6=>?_;refine yX (b:=r6) (l':=zCS r sl) ?_;refine zA (Δ:=zAW m ⟨x.line,x.park,x.doom⟩::jC st n S P::blk r6 (.cells (zCS r sl).toArray zw (0,0))::Γ) ?_;refine qH (α:=Int) (ι:=Nat×List zx) (fun z i=>z=(i.1:Int)∧i.1≤x.line.length∧i.2=zBP r key (x.line.take i.1) x.doom) (fun z i=>zAW m ⟨x.line,x.park,i.2⟩::jC st n S P::blk r6 (.cells (zCS r sl).toArray zw (0,0))::Γ) (fun z i=>x.line.length-i.1) (0,x.doom) ⟨rfl,zgW _,rfl⟩ ?_;rintro k' _ ⟨i,D⟩ ⟨rfl,hi,hD⟩ hk';simp only at hi hD hk' ⊢;have hDl:=zK0 r key (x.line.take i) x.doom;rw[←hD,zgR] at hDl;refine zEy fun ls ps ds=>?_;refine yw ls fun a1 a2 a3 a4=>?_;rw[zH _ 7 xW] at a1;simp only at a1;unfold zK.b1;refine uf ?_;refine zh (b:=m) (x:=ls) ?_;refine zF (fun hb=>?_) fun hb=>?_;rotate_left
 ·have hil:i=x.line.length:=by simp only[zgF] at hb;omega
  rw[hil,zgQ] at hD;refine zD fun t58=>?_;refine zCi (esz:=7) ?_;refine zA (Δ:=zCR m ls ps ds ⟨x.line,x.park,D⟩ (SlC yP 7 ⟨some ⟨t58,0,none⟩,0,0⟩ []::blk r6 (.cells (zCS r sl).toArray zw (0,0))::jC st n S P::Γ)) ?_;refine jO ?_;rw[←hD] at h;have hfin:=zTT (B:=B) (Γ:=jC st n S P::Γ) (m:=m) (x:=x) (key:=key) (r:=r) (sl:=sl) (r6:=r6) (t58:=t58) (N:=300000) (D:=D) (Q:=Q) (X1:=k') ⟨by simp only;omega,by simp only;omega,by simp only;omega⟩ (by omega) (zA h);exact zA hfin
 have hil:i<x.line.length:=by simp only[zgH] at hb;omega
 have htk:=zgJ hil;have hge:x.line[i]?=some x.line[i]:=zgG hil;generalize x.line[i]=c at htk hge;have hstep:zBP r key (x.line.take (i+1)) x.doom=if c.2.key=key∧uF r c≠0 then zAm D c.1 else D:=by rw[htk,zRu,←hD]
 have S2:∀D2,zBP r key (x.line.take (i+1)) x.doom=D2→HG B (zAW m ⟨x.line,x.park,D2⟩::jC st n S P::blk r6 (.cells (zCS r sl).toArray zw (0,0))::Γ) (zK.s2 Q k' ⟨m,0,none⟩ (bs key) ⟨r6,0,none⟩ (i:Int)):=fun D2 h2=>by
  unfold zK.s2;refine qJ ?_;exact hk' ((i:Int)+1) (i+1,D2) ⟨by simp,hil,h2.symm⟩ (by simp only;omega)
 have no:¬(c.2.key=key∧uF r c≠0)→HG B (zCR m ls ps ds ⟨x.line,x.park,D⟩ (jC st n S P::blk r6 (.cells (zCS r sl).toArray zw (0,0))::Γ)) (zK.s3 Q k' ⟨m,0,none⟩ (bs key) ⟨r6,0,none⟩ (i:Int) false):=fun hn=>by
  unfold zK.s3;refine s_f ?_;exact jO (S2 D (by rw[hstep,if_neg hn]))
 refine xg ?_;refine zh (b:=m) (x:=ls) ?_;refine uY clF xW (by omega) (fun w hw=>(zO (s:=ls) hw).1) hge fun t29 ht29=>?_;refine zNG (cs:=clF c) (i:=4) (x:=bs c.2.key) (fun w hw=>ht29 w (zO (s:=ls) hw).1) rfl ?_;refine zF (fun hp=>?_) fun hp=>?_;rotate_left
 ·have hkey:c.2.key≠key:=by rw[qZ,qZ] at hp;simpa using hp
  exact zA (no fun h=>hkey h.1)
 have hkey:c.2.key=key:=by rw[qZ,qZ] at hp;simpa using hp
 refine yC (b:=r6) (l':=zCS r sl) ?_;refine zh (b:=m) (x:=ls) ?_;refine uY clF xW (by omega) (fun w hw=>(zO (s:=ls) hw).1) hge fun t42 ht42=>?_;refine zQC (cs:=clF c) (us:=zBN c.2) (fun w hw=>ht42 w (zO (s:=ls) hw).1) (by rw[xW];omega) ?_;refine zKz (r:=r) (mk:=c.2) ?_;have hlk:zBa r.cnt c.2.cnt r.home c.2.home=uF r c:=rfl;rw[hlk];by_cases h0:uF r c=0
 ·rw[show decide (uF r c≠0)=false by simpa using h0];exact zA (no fun h=>h.2 h0)
 rw[show decide (uF r c≠0)=true by simpa using h0];unfold zK.s3;refine s_t ?_;refine zh (b:=m) (x:=ls) ?_;refine uY clF xW (by omega) (fun w hw=>(zO (s:=ls) hw).1) hge fun t54 ht54=>?_;refine zBc (cs:=clF c) (us:=zQ c.1) (fun w hw=>ht54 w (zO (s:=ls) hw).1) (by rw[xW];omega) ?_;refine zA (Δ:=zCR m ls ps ds ⟨x.line,x.park,D⟩ (jC st n S P::blk r6 (.cells (zCS r sl).toArray zw (0,0))::Γ)) ?_;refine jO ?_;refine zKy (by simp only;omega) ?_;exact zA (S2 (zAm D c.1) (by rw[hstep,if_pos ⟨hkey,h0⟩]))
end
end
section
open Go Go.Sep
set_option maxHeartbeats 4000000
attribute [local irreducible] G Gp Cx Tx Ex Sx Dx Ox Ax Lx Rx Fx Bx Bj Al Do Ld LdN St StN New zI Ar DoU Rd Rd2 Pu Cd Ite Fv vZ zAe uZ yH jm zCj zCt zCx Ext Dead Dr yV Sv LdS xJ RdS zDD Nn Idx zBW zCs Fld Bld Slc zDE Cat All zq jE jY zAp
def jF.s2(Q:Sl→K)(b:Sl→Int→K)(f:Int)(g:Addr)(c:Sl)(d:Int): K :=
 Ar (IntKind.wrap .i64 (d+1)) fun a=>
 b c a
def jF.b1(Q:Sl→K)(f:Sl→Int→K)(c:Int)(a:Addr)(d:Sl)(b:Int): K :=
 Ld (a.add 9) Sl.val fun g=>
 Ite (decide (b<(g.n:Int)))
  (Ld (a.add 9) Sl.val fun j=>
  Idx j b 3 fun k=>
  Ld (k.add 1) (Value.int .i64) fun l=>
  Ite (decide (l=c))
   (Ld (a.add 9) Sl.val fun m=>
   Idx m b 3 fun o=>
   LdN o 3 fun p=>
   Bld #[(.string ⟨#[]⟩),.int .i64 0,.int .u64 0] (fun i=>some (i*3,3)) [(0,.agg p)] fun q=>
   New 231 q fun r=>
   Do Tryz.prog (Builtin.append_ #[52,52] 52 #[Sl.val d,(Sl.val (Sl.mk (some r) 1 1))]) Sl.val fun s=>
   jF.s2 Q f c a s b)
   (jF.s2 Q f c a d b))
  (Q d)
def jF(f:Av)(g:Int)(Q:Sl→K): K :=
 New 54 f fun a=>
 New 231 #[] fun b=>
 zq (α:=Sl×Int) (fun X x=>jF.b1 Q (fun c d=>X (c,d)) g a x.1 x.2) ((Sl.mk (some b) 0 0),0)
theorem zN3(g i Q w)(h:jF g i Q w):jF.call g i Q w:=by
 have:∀j,XH 3 j→JH 4 fun D=>∃c d f,D [(1,.int .i64 c),(2,(.pointer (some d))),(6,.int .i64 f)] (fun C=>∀k,C [(1,.int .i64 c),(2,(.pointer (some d))),(5,Sl.val k),(6,.int .i64 f)] (jF.s2 Q (fun a b=>j (a,b)) c d k f)):=by intros;exact⟨fun _ ⟨_,_,_,h⟩=>⟨_,_,h⟩⟩
 have:∀l m,LH 3 (fun x:Sl×Int=>[(1,.int .i64 l),(2,(.pointer (some m))),(5,Sl.val x.1),(6,.int .i64 x.2)]) (fun X x=>jF.b1 Q (fun a b=>X (a,b)) l m x.1 x.2):=fun _ _=>⟨⟩
 exact zJ 32 h Tryz.func71
instance:ART Tryz.prog 167 4 3 1:=⟨by kernel_rfl⟩
instance:ART Tryz.prog 64 63 3 1:=⟨by kernel_rfl⟩
instance:AT Tryz.prog 115 6:=⟨by kernel_rfl⟩
instance:AT Tryz.prog 169 14:=⟨by kernel_rfl⟩
instance:CB Tryz.prog 11:=⟨by kernel_rfl⟩
instance:CB Tryz.prog 140:=⟨by kernel_rfl⟩
instance:CB Tryz.prog 141:=⟨by kernel_rfl⟩
instance:CB Tryz.prog 142:=⟨by kernel_rfl⟩
instance:CB Tryz.prog 143:=⟨by kernel_rfl⟩
instance:CB Tryz.prog 144:=⟨by kernel_rfl⟩
instance:CB Tryz.prog 145:=⟨by kernel_rfl⟩
instance:CB Tryz.prog 146:=⟨by kernel_rfl⟩
instance:CB Tryz.prog 152:=⟨by kernel_rfl⟩
instance:CB Tryz.prog 154:=⟨by kernel_rfl⟩
instance:CB Tryz.prog 211:=⟨by kernel_rfl⟩
instance:CB Tryz.prog 65:=⟨by kernel_rfl⟩
instance:CB Tryz.prog 66:=⟨by kernel_rfl⟩
instance:CB Tryz.prog 68:=⟨by kernel_rfl⟩
instance:CB Tryz.prog 69:=⟨by kernel_rfl⟩
instance:CB Tryz.prog 70:=⟨by kernel_rfl⟩
instance:CB Tryz.prog 71:=⟨by kernel_rfl⟩
instance:CB Tryz.prog 72:=⟨by kernel_rfl⟩
instance:CB Tryz.prog 90:=⟨by kernel_rfl⟩
instance:CB Tryz.prog 93:=⟨by kernel_rfl⟩
instance:CT Tryz.prog 59:=⟨by kernel_rfl⟩
instance:CT Tryz.prog 65:=⟨by kernel_rfl⟩
instance:FT Tryz.prog 115 0 0 4:=⟨by kernel_rfl⟩
instance:FT Tryz.prog 169 0 0 10:=⟨by kernel_rfl⟩
instance:FT Tryz.prog 169 1 10 3:=⟨by kernel_rfl⟩
instance:FT Tryz.prog 67 0 0 1:=⟨by kernel_rfl⟩
instance:FT Tryz.prog 67 2 2 1:=⟨by kernel_rfl⟩
instance:FT Tryz.prog 67 3 3 3:=⟨by kernel_rfl⟩
instance:FT Tryz.prog 67 5 9 3:=⟨by kernel_rfl⟩
instance:FT Tryz.prog 67 6 12 3:=⟨by kernel_rfl⟩
instance:FT Tryz.prog 67 7 15 1:=⟨by kernel_rfl⟩
instance:PLT Tryz.prog 136 [(0,1),(1,1),(2,1)]:=⟨_,Tryz.underlying136,by kernel_rfl⟩
instance:PLT Tryz.prog 169 [(0,10),(10,3),(13,1)]:=⟨_,Tryz.underlying169,by kernel_rfl⟩
instance:PLT Tryz.prog 67 [(0,1),(1,1),(2,1),(3,3),(6,3),(9,3),(12,3),(15,1),(16,1)]:=⟨_,Tryz.underlying67,by kernel_rfl⟩
instance:SLT Tryz.prog 65 169 14:=⟨by kernel_rfl⟩
instance:SZ Tryz.prog 115 6:=⟨by kernel_rfl⟩
instance:SZ Tryz.prog 58 1:=⟨by kernel_rfl⟩
instance:SZ Tryz.prog 65 1:=⟨by kernel_rfl⟩
instance:ZT Tryz.prog 136 (.agg #[(Sl.val ⟨none,0,0⟩),(Sl.val ⟨none,0,0⟩),(Sl.val ⟨none,0,0⟩)]):=⟨Tryz.t136,by kernel_rfl,by kernel_rfl⟩
instance:ZT Tryz.prog 169 (.agg #[(.int .i64 0),(.int .u64 0),(.int .u64 0),(.int .i64 0),(.int .i64 0),(Sl.val ⟨none,0,0⟩),(Sl.val ⟨none,0,0⟩),(Sl.val ⟨none,0,0⟩),(.int .i64 0),(Sl.val ⟨none,0,0⟩),(.bool false),(.bool false),(.bool false),(.bool false)]):=⟨Tryz.t169,by kernel_rfl,by kernel_rfl⟩
instance:ZT Tryz.prog 67 (.agg #[(.bool false),(.pointer none),(.pointer none),(Sl.val ⟨none,0,0⟩),(Sl.val ⟨none,0,0⟩),(Sl.val ⟨none,0,0⟩),(.int .i64 0),(.int .i64 0),(.int .i64 0),(.int .i64 0),(.int .i64 0),(.int .i64 0),(Sl.val ⟨none,0,0⟩),(Sl.val ⟨none,0,0⟩),(Sl.val ⟨none,0,0⟩),(Sl.val ⟨none,0,0⟩),(.int .i64 0)]):=⟨Tryz.t67,by kernel_rfl,by kernel_rfl⟩
def zE0(a:Int)(Q:Pt→K): K :=
 zE1.call a fun b=>
 New 136 #[Sl.val ⟨none,0,0⟩,Sl.val ⟨none,0,0⟩,Sl.val ⟨none,0,0⟩] fun c=>
 Pu Tryz.prog (Instr.build 62 [(0,(.int .i64 (-1))),(1,(.int .i64 (-1))),(2,(.int .i64 (-1)))].toArray) Value.agg fun d=>
 Bld #[.bool false,.pointer none,.pointer none,Sl.val ⟨none,0,0⟩,Sl.val ⟨none,0,0⟩,Sl.val ⟨none,0,0⟩,.int .i64 0,.int .i64 0,.int .i64 0,.int .i64 0,.int .i64 0,.int .i64 0,Sl.val ⟨none,0,0⟩,Sl.val ⟨none,0,0⟩,Sl.val ⟨none,0,0⟩,Sl.val ⟨none,0,0⟩,.int .i64 0] ([(0,1),(1,1),(2,1),(3,3),(6,3),(9,3),(12,3),(15,1),(16,1)][·]?) [(1,.pointer b),(2,(.pointer (some c))),(8,.int .i64 a),(5,.agg d)] fun f=>
 New 67 f fun g=>
 Q (some g)
theorem zQD(a Q w)(h:zE0 a Q w):zE0.call a Q w:=by
 exact zJ 11 h Tryz.func11
def zM.s5(Q:Sl→K)(a:Addr)(k:Int)(l:Addr)(m:Int)(n:Sl): K :=
 Ld (a.add 15) Sl.val fun b=>
 Idx b m 14 fun c=>
 zBW (c.add 10) 3 k 1 fun d=>
 St d (.bool true)<|
 Dr<|
 Ld (a.add 2) Value.pointer fun f=>
 Ld (a.add 1) Value.pointer fun g=>
 LdN (l.add 2) 4 fun i=>
 zk.call f g i n<|
 zG.call (some a) fun j=>
 Q j
def zM.s4(Q:Sl→K)(c:Addr)(b:Int)(a:Addr)(d:Int): K :=
 Ld ((a.add 2).add 9) Sl.val fun f=>
 Ld a (Value.int .i64) fun g=>
 Ite (decide (g=2))
  (LdN (a.add 2) 10 fun i=>
  jF.call i b fun j=>
  zM.s5 Q c b a d j)
  (zM.s5 Q c b a d f)
def zM.s6(Q:Sl→K)(a:Addr)(d:Int)(f:Addr): K :=
 Ld (a.add 15) Sl.val fun b=>
 Ar (IntKind.wrap .i64 ((b.n:Int)-1)) fun c=>
 zM.s4 Q a d f c
def zM.s3(Q:Sl→K)(a:Addr)(k:Int)(g:Addr)(n:Int)(q:Bool): K :=
 Ite q
  (zG.call (some a) fun o=>
  Q o)
  (Ite (decide (n<0))
   (Dr<|yV fun S=>
   LdS S (a.add 15) Sl.val fun l=>
   xJ S (g.add 2) 10 fun p=>
   Bld #[.int .i64 0,.int .u64 0,.int .u64 0,.int .i64 0,.int .i64 0,Sl.val ⟨none,0,0⟩,Sl.val ⟨none,0,0⟩,Sl.val ⟨none,0,0⟩,.int .i64 0,Sl.val ⟨none,0,0⟩,.bool false,.bool false,.bool false,.bool false] ([(0,10),(10,3),(13,1)][·]?) [(0,.agg p)] fun m=>
   All [
    (New 169 #[] fun j=>
    Sv S<|
    All [
     (Do Tryz.prog (Builtin.append_ #[65,65] 65 #[(Sl.val (Sl.mk (some j) 0 0)),Sl.val l]) Sl.val fun b=>
     Sv S<|
     Bld #[.int .i64 0,.int .u64 0,.int .u64 0,.int .i64 0,.int .i64 0,Sl.val ⟨none,0,0⟩,Sl.val ⟨none,0,0⟩,Sl.val ⟨none,0,0⟩,.int .i64 0,Sl.val ⟨none,0,0⟩,.bool false,.bool false,.bool false,.bool false] (fun i=>some (i*14,14)) [(0,.agg m)] fun c=>
     New 169 c fun d=>
     Sv S<|
     Do Tryz.prog (Builtin.append_ #[65,65] 65 #[Sl.val b,(Sl.val (Sl.mk (some d) 1 1))]) Sl.val fun f=>
     St (a.add 15) (Sl.val f)<|
     zM.s6 Q a k g),
     (Bld #[.int .i64 0,.int .u64 0,.int .u64 0,.int .i64 0,.int .i64 0,Sl.val ⟨none,0,0⟩,Sl.val ⟨none,0,0⟩,Sl.val ⟨none,0,0⟩,.int .i64 0,Sl.val ⟨none,0,0⟩,.bool false,.bool false,.bool false,.bool false] (fun i=>some (i*14,14)) [(0,.agg m)] fun c=>
     New 169 c fun d=>
     Sv S<|
     Do Tryz.prog (Builtin.append_ #[65,65] 65 #[(Sl.val (Sl.mk (some j) 0 0)),Sl.val l]) Sl.val fun b=>
     Sv S<|
     Do Tryz.prog (Builtin.append_ #[65,65] 65 #[Sl.val b,(Sl.val (Sl.mk (some d) 1 1))]) Sl.val fun f=>
     St (a.add 15) (Sl.val f)<|
     zM.s6 Q a k g)
     ]),
    (Bld #[.int .i64 0,.int .u64 0,.int .u64 0,.int .i64 0,.int .i64 0,Sl.val ⟨none,0,0⟩,Sl.val ⟨none,0,0⟩,Sl.val ⟨none,0,0⟩,.int .i64 0,Sl.val ⟨none,0,0⟩,.bool false,.bool false,.bool false,.bool false] (fun i=>some (i*14,14)) [(0,.agg m)] fun c=>
    New 169 c fun d=>
    Sv S<|
    New 169 #[] fun j=>
    Sv S<|
    Do Tryz.prog (Builtin.append_ #[65,65] 65 #[(Sl.val (Sl.mk (some j) 0 0)),Sl.val l]) Sl.val fun b=>
    Sv S<|
    Do Tryz.prog (Builtin.append_ #[65,65] 65 #[Sl.val b,(Sl.val (Sl.mk (some d) 1 1))]) Sl.val fun f=>
    St (a.add 15) (Sl.val f)<|
    zM.s6 Q a k g)
    ])
   (zM.s4 Q a k g n))
def zM.s2(Q:Sl→K)(a:Addr)(d:Int)(b:Addr): K :=
 zAO.call (some a) d fun f=>
 Ite (!f)
  (New 115 #[] fun g=>
  Q (Sl.mk (some g) 0 0))
  (LdN (b.add 2) 4 fun i=>
  uR.call (some a) i fun c=>
  Ite (decide ((0:Int)≤c))
   (Ld b (Value.int .i64) fun j=>
   zM.s3 Q a d b c (decide (j=1)))
   (zM.s3 Q a d b c false))
def zM.s1(Q:Sl→K)(u:Pt)(b:Int)(l:Addr)(v:Bool): K :=
 Ite v
  (New 115 #[] fun o=>
  Q (Sl.mk (some o) 0 0))
  (Dr<|
  Nn u fun a=>
  zBW (a.add 6) 3 b 1 fun p=>
  Ld p (Value.int .i64) fun q=>
  Ar (IntKind.wrap .i64 (q+1)) fun r=>
  zBW (a.add 6) 3 b 1 fun s=>
  St s (.int .i64 r)<|
  Dr<|yV fun S=>
  zBW (a.add 3) 3 b 1 fun t=>
  LdS S t Sl.val fun m=>
  xJ S l 12 fun n=>
  All [
   (New 78 #[] fun k=>
   Sv S<|
   All [
    (Do Tryz.prog (Builtin.append_ #[60,60] 60 #[(Sl.val (Sl.mk (some k) 0 0)),Sl.val m]) Sl.val fun c=>
    Sv S<|
    Bld #[.int .i64 0,.int .i64 0,.int .i64 0,.int .u64 0,.int .u64 0,.int .i64 0,.int .i64 0,Sl.val ⟨none,0,0⟩,Sl.val ⟨none,0,0⟩,Sl.val ⟨none,0,0⟩,.int .i64 0,Sl.val ⟨none,0,0⟩] (fun i=>some (i*12,12)) [(0,.agg n)] fun d=>
    New 78 d fun f=>
    Sv S<|
    Do Tryz.prog (Builtin.append_ #[60,60] 60 #[Sl.val c,(Sl.val (Sl.mk (some f) 1 1))]) Sl.val fun g=>
    zBW (a.add 3) 3 b 1 fun j=>
    St j (Sl.val g)<|
    zM.s2 Q a b l),
    (Bld #[.int .i64 0,.int .i64 0,.int .i64 0,.int .u64 0,.int .u64 0,.int .i64 0,.int .i64 0,Sl.val ⟨none,0,0⟩,Sl.val ⟨none,0,0⟩,Sl.val ⟨none,0,0⟩,.int .i64 0,Sl.val ⟨none,0,0⟩] (fun i=>some (i*12,12)) [(0,.agg n)] fun d=>
    New 78 d fun f=>
    Sv S<|
    Do Tryz.prog (Builtin.append_ #[60,60] 60 #[(Sl.val (Sl.mk (some k) 0 0)),Sl.val m]) Sl.val fun c=>
    Sv S<|
    Do Tryz.prog (Builtin.append_ #[60,60] 60 #[Sl.val c,(Sl.val (Sl.mk (some f) 1 1))]) Sl.val fun g=>
    zBW (a.add 3) 3 b 1 fun j=>
    St j (Sl.val g)<|
    zM.s2 Q a b l)
    ]),
   (Bld #[.int .i64 0,.int .i64 0,.int .i64 0,.int .u64 0,.int .u64 0,.int .i64 0,.int .i64 0,Sl.val ⟨none,0,0⟩,Sl.val ⟨none,0,0⟩,Sl.val ⟨none,0,0⟩,.int .i64 0,Sl.val ⟨none,0,0⟩] (fun i=>some (i*12,12)) [(0,.agg n)] fun d=>
   New 78 d fun f=>
   Sv S<|
   New 78 #[] fun k=>
   Sv S<|
   Do Tryz.prog (Builtin.append_ #[60,60] 60 #[(Sl.val (Sl.mk (some k) 0 0)),Sl.val m]) Sl.val fun c=>
   Sv S<|
   Do Tryz.prog (Builtin.append_ #[60,60] 60 #[Sl.val c,(Sl.val (Sl.mk (some f) 1 1))]) Sl.val fun g=>
   zBW (a.add 3) 3 b 1 fun j=>
   St j (Sl.val g)<|
   zM.s2 Q a b l)
   ])
def zM(d:Pt)(b:Int)(m:Av)(Q:Sl→K): K :=
 New 78 m fun a=>
 Dr<|yV fun S=>
 Ite (decide (b<0))
  (zM.s1 Q d b a true)
  (Nn d fun c=>
  LdS S (c.add 16) (Value.int .i64) fun f=>
  Ite (decide (f≤b))
   (zM.s1 Q (some c) b a true)
   (xJ S a 12 fun g=>
   vF.call g fun i=>
   Sv S<|
   Ite (!i)
    (zM.s1 Q (some c) b a true)
    (xJ S (a.add 2) 10 fun j=>
    LdS S (c.add 16) (Value.int .i64) fun k=>
    xB.call j k fun l=>
    zM.s1 Q (some c) b a (!l))))
theorem zId(aa ab ac Q w)(h:zM aa ab ac Q w):zM.call aa ab ac Q w:=by
 have:DH 17 1 [12] (.s [0,1,2,4,5,6,8,9,11,3,7,10] (.a [(12,0,.e)])):=⟨⟩
 have:JH 16 fun D=>∃b c d f,D [(0,(.pointer (some b))),(1,.int .i64 c),(5,(.pointer (some d))),(7,.int .i64 f)] (fun C=>∀ad,C [(0,(.pointer (some b))),(1,.int .i64 c),(5,(.pointer (some d))),(7,.int .i64 f),(8,Sl.val ad)] (zM.s5 Q b c d f ad)):=⟨fun _ ⟨_,_,_,_,h⟩=>⟨_,_,h⟩⟩
 have:JH 13 fun D=>∃g j k,D [(0,(.pointer (some g))),(1,.int .i64 j),(5,(.pointer (some k)))] (fun C=>∀ae,C [(0,(.pointer (some g))),(1,.int .i64 j),(5,(.pointer (some k))),(7,.int .i64 ae)] (zM.s4 Q g j k ae)):=⟨fun _ ⟨_,_,_,h⟩=>⟨_,_,h⟩⟩
 have:JH 12 fun D=>∃l m n,D [(0,(.pointer (some l))),(1,.int .i64 m),(5,(.pointer (some n)))] (fun C=>C [(0,(.pointer (some l))),(1,.int .i64 m),(5,(.pointer (some n)))] (zM.s6 Q l m n)):=⟨fun _ ⟨_,_,_,h⟩=>⟨_,_,h⟩⟩
 have:DH 11 2 [11,14] (.s [0,2,3,4,7,5,8,9] (.a [(1,1,.a [(6,1,.a [(10,1,.a [(11,0,.s [12,13] (.a [(14,0,.e)]))])]),(10,1,.a [(6,1,.a [(11,0,.s [12,13] (.a [(14,0,.e)]))])])]),(10,1,.a [(1,1,.a [(6,1,.a [(11,0,.s [12,13] (.a [(14,0,.e)]))])])])])):=⟨⟩
 have:JH 9 fun D=>∃o p q r,D [(0,(.pointer (some o))),(1,.int .i64 p),(5,(.pointer (some q))),(7,.int .i64 r)] (fun C=>∀af,C [(0,(.pointer (some o))),(1,.int .i64 p),(5,(.pointer (some q))),(7,.int .i64 r),(77,.bool af)] (zM.s3 Q o p q r af)):=⟨fun _ ⟨_,_,_,_,h⟩=>⟨_,_,h⟩⟩
 have:JH 5 fun D=>∃t u v,D [(0,(.pointer (some t))),(1,.int .i64 u),(5,(.pointer (some v)))] (fun C=>C [(0,(.pointer (some t))),(1,.int .i64 u),(5,(.pointer (some v)))] (zM.s2 Q t u v)):=⟨fun _ ⟨_,_,_,h⟩=>⟨_,_,h⟩⟩
 have:DH 4 2 [12,16] (.s [0,1,3,4,5,6,7,13,14,8,10] (.a [(2,1,.a [(9,1,.a [(11,1,.a [(12,0,.s [15] (.a [(16,0,.e)]))])]),(11,1,.a [(9,1,.a [(12,0,.s [15] (.a [(16,0,.e)]))])])]),(11,1,.a [(2,1,.a [(9,1,.a [(12,0,.s [15] (.a [(16,0,.e)]))])])])])):=⟨⟩
 have:DH 3 1 [10] (.s [0,1,2,3,4,7,8,5,6,9] (.a [(10,0,.e)])):=⟨⟩
 have:JH 2 fun D=>∃x y z,D [(0,.pointer x),(1,.int .i64 y),(5,(.pointer (some z)))] (fun C=>∀ag,C [(0,.pointer x),(1,.int .i64 y),(5,(.pointer (some z))),(33,.bool ag)] (zM.s1 Q x y z ag)):=⟨fun _ ⟨_,_,_,h⟩=>⟨_,_,h⟩⟩
 have:DH 1 2 [22] (.s [0,1,2] (.i (.s [3,4,5,6,7,8,9,10,11,12,13,14,15,16,17,18,19,20,21,22,23,24] .e) (.s [3,4,5,6,7,8,9,10] (.i (.s [11,12,13,14,15,16,17,18,19,20,21,22,23,24] .e) (.s [11] (.a [(12,1,.s [13,14,15] (.i (.s [16,17,18,19,20,21,22,23,24] .e) (.s [16,18,19,20,17,21] (.a [(22,0,.s [23,24] .e)]))))])))))):=⟨⟩
 exact zJ 136 h Tryz.func22
def zAO(u:Pt)(b:Int)(Q:Bool→K): K :=
 Nn u fun c=>
 zBW (c.add 3) 3 b 1 fun g=>
 Ld g Sl.val fun d=>
 Ar (IntKind.wrap .i64 ((d.n:Int)-1)) fun f=>
 Idx d f 12 fun i=>
 LdN i 12 fun j=>
 New 78 #[.int .i64 0,.int .i64 0,.int .i64 0,.int .u64 0,.int .u64 0,.int .i64 0,.int .i64 0,Sl.val ⟨none,0,0⟩,Sl.val ⟨none,0,0⟩,Sl.val ⟨none,0,0⟩,.int .i64 0,Sl.val ⟨none,0,0⟩] fun a=>
 StN a 12 j<|
 qm.call b d f fun k=>
 Ite (!k)
  (Q false)
  (Ld a (Value.int .i64) fun l=>
  Ite (decide (l=1))
   (Dr<|
   zBW (c.add 12) 3 b 1 fun m=>
   Ld m Sl.val fun o=>
   LdN (a.add 2) 4 fun p=>
   zBJ.call o p fun q=>
   Q (!q))
   (Dr<|
   Ld (a.add 1) (Value.int .i64) fun r=>
   zBW (c.add 9) 3 b 1 fun s=>
   Ld s (Value.int .i64) fun t=>
   Q (decide (t<r))))
theorem zGr(b c Q w)(h:zAO b c Q w):zAO.call b c Q w:=by
 have:DH 7 1 [9] (.s [0,1,2,3,4,6,7,5,8] (.a [(9,0,.s [10,11] .e)])):=⟨⟩
 exact zJ 49 h Tryz.func68
def uR.b1(Q l:Int→K)(m:Pt)(o:Addr)(a:Int): K :=
 Nn m fun b=>
 Ld (b.add 15) Sl.val fun f=>
 Ite (decide (a<(f.n:Int)))
  (Dr<|
  Ld (b.add 15) Sl.val fun g=>
  Idx g a 14 fun i=>
  LdN i 4 fun c=>
  LdN o 4 fun d=>
  Pu Tryz.prog (do eqGuard .eql 46 (.tmp 23) (.tmp 24) (.agg c) (.agg d);binOp .eql 46 (.agg c) (.agg d):Sem Value) Value.bool fun j=>
  Ite j
   (Q a)
   (Ar (IntKind.wrap .i64 (a+1)) fun k=>
   l k))
  (Q (-1))
def uR(b:Pt)(c:Av)(Q:Int→K): K :=
 New 46 c fun a=>
 zq (α:=Int) (fun X x=>uR.b1 Q X b a x) 0
theorem zIe(a b Q w)(h:uR a b Q w):uR.call a b Q w:=by
 have:∀c d,LH 2 (fun x:Int=>[(0,.pointer c),(3,(.pointer (some d))),(5,.int .i64 x)]) (fun X x=>uR.b1 Q X c d x):=fun _ _=>⟨⟩
 exact zJ 27 h Tryz.func69
def zG.s4(Q f:Sl→K)(b:Int→Int→K)(g:Addr)(i:Sl)(c d:Int): K :=
 Ar (IntKind.wrap .i64 (d-1)) fun a=>
 b c a
def zG.s5(Q b:Sl→K)(c:Int→Int→K)(d:Addr)(f:Sl)(g a:Int)(i:Bool): K :=
 Ite i
  (zG.s4 Q b c d f a a)
  (zG.s4 Q b c d f g a)
def zG.s6(Q f:Sl→K)(k:Int→Int→K)(l:Addr)(g:Sl)(j:Addr): K :=
 LdN j 6 fun a=>
 Bld #[.int .i64 0,.int .u64 0,.int .u64 0,.int .i64 0,.int .i64 0,Sl.val ⟨none,0,0⟩] (fun i=>some (i*6,6)) [(0,.agg a)] fun b=>
 New 115 b fun c=>
 Do Tryz.prog (Builtin.append_ #[81,81] 81 #[Sl.val g,(Sl.val (Sl.mk (some c) 1 1))]) Sl.val fun d=>
 f d
def zG.s8(Q b:Sl→K)(c:Int→Int→K)(a:Addr)(d:Sl)(m f:Addr)(n:Bool): K :=
 Ite n
  (Dr<|
  Ld (a.add 2) Value.pointer fun g=>
  Ld (a.add 1) Value.pointer fun i=>
  Ld ((m.add 4).add 2) Sl.val fun j=>
  Idx j 0 1 fun k=>
  Ld k Value.string fun l=>
  zK.call g i l<|
  zG.s6 Q b c a d f)
  (zG.s6 Q b c a d f)
def zG.s7(Q d:Sl→K)(f:Int→Int→K)(a:Addr)(g:Sl)(b c i:Addr)(n:Sl): K :=
 Ld (a.add 1) Value.pointer fun j=>
 zAj.call j n<|
 LdN i 2 fun k=>
 StN (c.add 4) 2 k<|
 Ld (b.add 4) (Value.int .i64) fun l=>
 Ite (decide (l=2))
  (Ld i (Value.int .i64) fun m=>
  zG.s8 Q d f a g b c (decide (m=0)))
  (zG.s8 Q d f a g b c false)
def zG.b3(Q g:Sl→K)(i:Int→Int→K)(a:Addr)(d:Sl)(f j:Int): K :=
 Ite (decide ((0:Int)≤j))
  (Ld (a.add 15) Sl.val fun u=>
  Idx u j 14 fun v=>
  LdN v 4 fun x=>
  New 46 #[.int .i64 0,.int .u64 0,.int .u64 0,.int .i64 0] fun m=>
  StN m 4 x<|
  Dr<|yV fun S=>
  LdS S (a.add 15) Sl.val fun y=>
  Idx y j 14 fun z=>
  xJ S z 14 fun aa=>
  jP.call aa fun ab=>
  Sv S<|
  Ite ab
   (LdS S (a.add 2) Value.pointer fun ac=>
   Nn ac fun ad=>
   LdS S (ad.add 2) Sl.val fun ae=>
   xJ S m 4 fun af=>
   zBJ.call ae af fun ag=>
   Sv S<|
   Ite ag
    (zG.s5 Q g i a d f j true)
    (LdS S (a.add 2) Value.pointer fun ah=>
    xJ S m 4 fun aj=>
    uD.call ah aj fun ak=>
    zG.s5 Q g i a d f j ak))
   (zG.s5 Q g i a d f j false))
  (Ite (decide (f<0))
   (Q d)
   (Ld (a.add 15) Sl.val fun al=>
   Idx al f 14 fun am=>
   LdN am 10 fun an=>
   New 54 #[.int .i64 0,.int .u64 0,.int .u64 0,.int .i64 0,.int .i64 0,Sl.val ⟨none,0,0⟩,Sl.val ⟨none,0,0⟩,Sl.val ⟨none,0,0⟩,.int .i64 0,Sl.val ⟨none,0,0⟩] fun b=>
   StN b 10 an<|
   Dr<|yV fun S=>
   Ar (IntKind.wrap .i64 (f+1)) fun ao=>
   LdS S (a.add 15) Sl.val fun r=>
   Slc r 0 f (r.c:Int) 14 fun ap=>
   LdS S (a.add 15) Sl.val fun o=>
   Slc o ao (o.n:Int) (o.c:Int) 14 fun aq=>
   New 169 #[] fun ar=>
   Sv S<|
   Do Tryz.prog (Builtin.append_ #[65,65] 65 #[(Sl.val (Sl.mk (some ar) 0 0)),Sl.val ap]) Sl.val fun au=>
   Sv S<|
   Do Tryz.prog (Builtin.append_ #[65,65] 65 #[Sl.val au,Sl.val aq]) Sl.val fun av=>
   St (a.add 15) (Sl.val av)<|
   LdN b 4 fun aw=>
   Bld #[.int .i64 0,.int .u64 0,.int .u64 0,.int .i64 0,.int .i64 0,Sl.val ⟨none,0,0⟩] ([(0,4),(4,2)][·]?) [(0,.agg aw),(1,(.agg #[.int .i64 112,Sl.val ⟨none,0,0⟩]))] fun ax=>
   New 115 #[.int .i64 0,.int .u64 0,.int .u64 0,.int .i64 0,.int .i64 0,Sl.val ⟨none,0,0⟩] fun l=>
   StN l 6 ax<|
   Dr<|
   Ld (a.add 2) Value.pointer fun ay=>
   Nn ay fun az=>
   Ld (az.add 2) Sl.val fun a0=>
   LdN b 4 fun a1=>
   zBJ.call a0 a1 fun a2=>
   Dr<|
   Ld (a.add 2) Value.pointer fun a3=>
   LdN b 4 fun a4=>
   qg.call a3 a4<|
   Ite (!a2)
    (Dr<|yV fun S=>
    LdS S (a.add 1) Value.pointer fun s=>
    xJ S (b.add 4) 5 fun t=>
    All [
     (xO.call s t fun p q=>
     New 49 #[.int .i64 0,Sl.val ⟨none,0,0⟩] fun k=>
     StN k 2 p<|
     zG.s7 Q g i a d b l k q),
     (New 49 #[.int .i64 0,Sl.val ⟨none,0,0⟩] fun k=>
     Sv S<|
     xO.call s t fun p q=>
     StN k 2 p<|
     zG.s7 Q g i a d b l k q)
     ])
    (zG.s6 Q g i a d l)))
def zG.s2(Q g:Sl→K)(i:Pt)(j:Sl): K :=
 Nn i fun a=>
 Ld (a.add 15) Sl.val fun b=>
 Ar (IntKind.wrap .i64 ((b.n:Int)-1)) fun c=>
 zq (α:=Int×Int) (fun X x=>zG.b3 Q g (fun d f=>X (d,f)) a j x.1 x.2) ((-1),c)
def zG.b1(Q b:Sl→K)(g:Pt)(c:Sl): K :=
 Nn g fun a=>
 Ld a Value.bool fun d=>
 Ite d
  (Ld (a.add 2) Value.pointer fun f=>
  zCm.call f<|
  zG.s2 Q b (some a) c)
  (zG.s2 Q b (some a) c)
def zG(b:Pt)(Q:Sl→K): K :=
 New 115 #[] fun a=>
 zq (α:=Sl) (fun X x=>zG.b1 Q X b x) (Sl.mk (some a) 0 0)
theorem zIf(af Q w)(h:zG af Q w):zG.call af Q w:=by
 have:∀b,XH 2 b→∀c,XH 6 c→JH 7 fun D=>∃g j k,D [(0,(.pointer (some g))),(3,Sl.val j),(5,.int .i64 k)] (fun C=>∀ag,C [(0,(.pointer (some g))),(3,Sl.val j),(4,.int .i64 ag),(5,.int .i64 k)] (zG.s4 Q b (fun d f=>c (d,f)) g j ag k)):=by intros;exact⟨fun _ ⟨_,_,_,h⟩=>⟨_,_,h⟩⟩
 have:∀b,XH 2 b→∀c,XH 6 c→JH 10 fun D=>∃l m n o,D [(0,(.pointer (some l))),(3,Sl.val m),(4,.int .i64 n),(5,.int .i64 o)] (fun C=>∀ah,C [(0,(.pointer (some l))),(3,Sl.val m),(4,.int .i64 n),(5,.int .i64 o),(67,.bool ah)] (zG.s5 Q b (fun d f=>c (d,f)) l m n o ah)):=by intros;exact⟨fun _ ⟨_,_,_,_,h⟩=>⟨_,_,h⟩⟩
 have:DH 9 2 [24] (.s [0,1,2,4,3,5,6] (.a [(7,1,.s [8] (.i (.s [9,10,11,12,13,14,15,16] (.a [(17,1,.s [18] (.i (.s [19,20,21,22,23,24,25,26] .e) (.s [19,20,21,22,23] (.a [(24,0,.s [25,26] .e)]))))])) (.s [9,10,11,12,13,14,15,16,17,18,19,20,21,22,23,24,25,26] .e)))])):=⟨⟩
 have:∀b,XH 2 b→∀c,XH 6 c→JH 24 fun D=>∃p q r,D [(0,(.pointer (some p))),(3,Sl.val q),(8,(.pointer (some r)))] (fun C=>C [(0,(.pointer (some p))),(3,Sl.val q),(8,(.pointer (some r)))] (zG.s6 Q b (fun d f=>c (d,f)) p q r)):=by intros;exact⟨fun _ ⟨_,_,_,h⟩=>⟨_,_,h⟩⟩
 have:DH 23 1 [13] (.s [0,1,2,4,5,6,8,9,3,7,10,11,12] (.a [(13,0,.e)])):=⟨⟩
 have:∀b,XH 2 b→∀c,XH 6 c→JH 23 fun D=>∃t u v y,D [(0,(.pointer (some t))),(3,Sl.val u),(7,(.pointer (some v))),(8,(.pointer (some y)))] (fun C=>∀aj,C [(0,(.pointer (some t))),(3,Sl.val u),(7,(.pointer (some v))),(8,(.pointer (some y))),(148,.bool aj)] (zG.s8 Q b (fun d f=>c (d,f)) t u v y aj)):=by intros;exact⟨fun _ ⟨_,_,_,_,h⟩=>⟨_,_,h⟩⟩
 have:∀b,XH 2 b→∀c,XH 6 c→JH 20 fun D=>∃z aa ab ac,D [(0,(.pointer (some z))),(3,Sl.val aa),(7,(.pointer (some ab))),(8,(.pointer (some ac)))] (fun C=>∀ak al,C [(0,(.pointer (some z))),(3,Sl.val aa),(7,(.pointer (some ab))),(8,(.pointer (some ac))),(10,(.pointer (some ak))),(11,Sl.val al)] (zG.s7 Q b (fun d f=>c (d,f)) z aa ab ac ak al)):=by intros;exact⟨fun _ ⟨_,_,_,_,h⟩=>⟨_,_,h⟩⟩
 have:DH 19 2 [6,11] (.s [0,1,2,4,3,5] (.a [(6,0,.s [7,8,9] (.a [(10,0,.a [(11,0,.s [12] .e)])])),(10,1,.a [(6,0,.s [7,8,9] (.a [(11,0,.s [12] .e)]))])])):=⟨⟩
 have:DH 17 1 [6] (.s [0,1,2,4,3,5] (.a [(6,0,.e)])):=⟨⟩
 have:DH 16 1 [9] (.s [0,1,2,7,3,4,5,6,8] (.a [(9,0,.s [10] .e)])):=⟨⟩
 have:DH 14 2 [16,19] (.s [0,2,3,4,6,9,10,11,13,14,5,7,12,15] (.a [(1,1,.a [(8,1,.a [(16,0,.s [17,18] (.a [(19,0,.e)]))])])])):=⟨⟩
 have:∀b,XH 2 b→∀am an,LH 6 (fun x:Int×Int=>[(0,(.pointer (some am))),(3,Sl.val an),(4,.int .i64 x.1),(5,.int .i64 x.2)]) (fun X x=>zG.b3 Q b (fun d f=>X (d,f)) am an x.1 x.2):=by intros;exact⟨⟩
 have:∀b,XH 2 b→JH 4 fun D=>∃ad ae,D [(0,.pointer ad),(3,Sl.val ae)] (fun C=>C [(0,.pointer ad),(3,Sl.val ae)] (zG.s2 Q b ad ae)):=by intros;exact⟨fun _ ⟨_,_,h⟩=>⟨_,_,h⟩⟩
 have:∀ao,LH 2 (fun x:Sl=>[(0,.pointer ao),(3,Sl.val x)]) (fun X x=>zG.b1 Q X ao x):=fun _=>⟨⟩
 exact zJ 167 h Tryz.func70
def jP.b1(Q:Bool→K)(j:Int→K)(k:Addr)(b:Sl)(a:Int): K :=
 Ite (decide (a<(b.n:Int)))
  (Idx b a 1 fun c=>
  Ld c (Value.int .i64) fun d=>
  zBW (k.add 10) 3 d 1 fun f=>
  Ld f Value.bool fun g=>
  Ite (!g)
   (Q false)
   (Ar (IntKind.wrap .i64 (a+1)) fun i=>
   j i))
  (Q true)
def jP(d:Av)(Q:Bool→K): K :=
 New 169 d fun a=>
 LdN a 10 fun b=>
 qG.call b fun c=>
 zq (α:=Int) (fun X x=>jP.b1 Q X a c x) 0
theorem zKI(a Q w)(h:jP a Q w):jP.call a Q w:=by
 have:∀b c,LH 3 (fun x:Int=>[(1,(.pointer (some b))),(3,Sl.val c),(4,.int .i64 x)]) (fun X x=>jP.b1 Q X b c x):=fun _ _=>⟨⟩
 exact zJ 22 h Tryz.func141
instance:AT Tryz.prog 111 5:=⟨by kernel_rfl⟩
instance:AT Tryz.prog 118 2:=⟨by kernel_rfl⟩
instance:CB Tryz.prog 107:=⟨by kernel_rfl⟩
instance:CB Tryz.prog 108:=⟨by kernel_rfl⟩
instance:CB Tryz.prog 110:=⟨by kernel_rfl⟩
instance:CB Tryz.prog 183:=⟨by kernel_rfl⟩
instance:CB Tryz.prog 185:=⟨by kernel_rfl⟩
instance:CT Tryz.prog 119:=⟨by kernel_rfl⟩
instance:CT Tryz.prog 138:=⟨by kernel_rfl⟩
instance:FT Tryz.prog 121 0 0 1:=⟨by kernel_rfl⟩
instance:FT Tryz.prog 121 1 1 1:=⟨by kernel_rfl⟩
instance:FT Tryz.prog 121 2 2 1:=⟨by kernel_rfl⟩
instance:FT Tryz.prog 121 3 3 1:=⟨by kernel_rfl⟩
instance:FT Tryz.prog 121 4 4 1:=⟨by kernel_rfl⟩
instance:FT Tryz.prog 140 0 0 4:=⟨by kernel_rfl⟩
instance:FT Tryz.prog 140 1 4 5:=⟨by kernel_rfl⟩
instance:FT Tryz.prog 140 2 9 1:=⟨by kernel_rfl⟩
instance:PLT Tryz.prog 111 [(0,3),(3,2)]:=⟨_,Tryz.underlying111,by kernel_rfl⟩
instance:PLT Tryz.prog 121 [(0,1),(1,1),(2,1),(3,1),(4,1)]:=⟨_,Tryz.underlying121,by kernel_rfl⟩
instance:PLT Tryz.prog 140 [(0,4),(4,5),(9,1)]:=⟨_,Tryz.underlying140,by kernel_rfl⟩
instance:SLT Tryz.prog 70 44 3:=⟨by kernel_rfl⟩
instance:SZ Tryz.prog 111 5:=⟨by kernel_rfl⟩
instance:SZ Tryz.prog 118 2:=⟨by kernel_rfl⟩
instance:SZ Tryz.prog 119 1:=⟨by kernel_rfl⟩
instance:SZ Tryz.prog 138 1:=⟨by kernel_rfl⟩
instance:UN Tryz.prog 138 (.pointer 54):=⟨Tryz.underlying138⟩
instance:ZT Tryz.prog 111 (.agg #[(.int .i64 0),(.int .u64 0),(.int .u64 0),(.int .i64 0),(Sl.val ⟨none,0,0⟩)]):=⟨Tryz.t111,by kernel_rfl,by kernel_rfl⟩
instance:ZT Tryz.prog 121 (.agg #[(.int .i64 0),(.int .u64 0),(.int .i64 0),(.int .u64 0),(Sl.val ⟨none,0,0⟩)]):=⟨Tryz.t121,by kernel_rfl,by kernel_rfl⟩
instance:ZT Tryz.prog 137 (.pointer none):=⟨Tryz.t137,by kernel_rfl,by kernel_rfl⟩
instance:ZT Tryz.prog 140 (.agg #[(.int .i64 0),(.int .u64 0),(.int .u64 0),(.int .i64 0),(.int .i64 0),(Sl.val ⟨none,0,0⟩),(Sl.val ⟨none,0,0⟩),(Sl.val ⟨none,0,0⟩),(.int .i64 0),(.pointer none)]):=⟨Tryz.t140,by kernel_rfl,by kernel_rfl⟩
def zEB(b c d:Int)(Q:Pt→K): K :=
 New 121 #[.int .i64 b,.int .u64 c,.int .i64 d,.int .u64 0,Sl.val ⟨none,0,0⟩] fun a=>
 Q (some a)
theorem zQE(a b c Q w)(h:zEB a b c Q w):zEB.call a b c Q w:=by
 exact zJ 12 h Tryz.func9
def yF.s2(Q:Sl→K)(m:Sl→Int→K)(q:Pt)(n:Sl)(o:Pt)(r:Sl)(s p:Int): K :=
 Nn o fun a=>
 Ld (a.add 9) Value.pointer fun b=>
 Nn b fun c=>
 LdN c 10 fun d=>
 zB5.call d fun f=>
 Bld #[.int .i64 0,.int .u64 0,.int .u64 0,.int .i64 0,.int .i64 0,Sl.val ⟨none,0,0⟩,Sl.val ⟨none,0,0⟩,Sl.val ⟨none,0,0⟩,.int .i64 0,Sl.val ⟨none,0,0⟩] (fun i=>some (i*10,10)) [(0,.agg f)] fun g=>
 New 54 g fun j=>
 Do Tryz.prog (Builtin.append_ #[38,38] 38 #[Sl.val n,(Sl.val (Sl.mk (some j) 1 1))]) Sl.val fun k=>
 Ar (IntKind.wrap .i64 (p+1)) fun l=>
 m k l
def yF.s3(Q:Sl→K)(b:Sl→Int→K)(c:Pt)(d:Sl)(a f:Addr)(g:Sl)(i j:Int): K :=
 St (a.add 9) (.pointer (some f))<|
 yF.s2 Q b c d (some a) g i j
def yF.b1(Q:Sl→K)(k:Sl→Int→K)(c:Pt)(f:Sl)(g:Int)(i:Sl)(d:Int): K :=
 Ite (decide (d<g))
  (Idx f d 1 fun n=>
  Ld n Value.pointer fun o=>
  Nn o fun a=>
  Ld (a.add 9) Value.pointer fun p=>
  Ite ((p).isNone)
   (Dr<|yV fun S=>
   xJ S a 4 fun l=>
   xJ S (a.add 4) 5 fun m=>
   All [
    (uP.call c l m fun j=>
    New 54 #[.int .i64 0,.int .u64 0,.int .u64 0,.int .i64 0,.int .i64 0,Sl.val ⟨none,0,0⟩,Sl.val ⟨none,0,0⟩,Sl.val ⟨none,0,0⟩,.int .i64 0,Sl.val ⟨none,0,0⟩] fun b=>
    StN b 10 j<|
    yF.s3 Q k c i a b f g d),
    (New 54 #[.int .i64 0,.int .u64 0,.int .u64 0,.int .i64 0,.int .i64 0,Sl.val ⟨none,0,0⟩,Sl.val ⟨none,0,0⟩,Sl.val ⟨none,0,0⟩,.int .i64 0,Sl.val ⟨none,0,0⟩] fun b=>
    Sv S<|
    uP.call c l m fun j=>
    StN b 10 j<|
    yF.s3 Q k c i a b f g d)
    ])
   (yF.s2 Q k c i (some a) f g d))
  (Q i)
def yF(f g:Pt)(Q:Sl→K): K :=
 Nn f fun b=>
 Ld (b.add 4) Sl.val fun a=>
 zq (α:=Sl×Int) (fun X x=>yF.b1 Q (fun c d=>X (c,d)) g a (a.n:Int) x.1 x.2) ((Sl.mk none 0 0),0)
theorem zGs(t u Q w)(h:yF t u Q w):yF.call t u Q w:=by
 have:∀d,XH 2 d→JH 7 fun D=>∃f g i j k l,D [(1,.pointer f),(4,Sl.val g),(6,.pointer i),(11,Sl.val j),(12,.int .i64 k),(13,.int .i64 l)] (fun C=>C [(1,.pointer f),(4,Sl.val g),(6,.pointer i),(11,Sl.val j),(12,.int .i64 k),(13,.int .i64 l)] (yF.s2 Q (fun b c=>d (b,c)) f g i j k l)):=by intros;exact⟨fun _ ⟨_,_,_,_,_,_,h⟩=>⟨_,_,h⟩⟩
 have:∀d,XH 2 d→JH 6 fun D=>∃m n o p q r,D [(1,.pointer m),(4,Sl.val n),(6,(.pointer (some o))),(11,Sl.val p),(12,.int .i64 q),(13,.int .i64 r)] (fun C=>∀v,C [(1,.pointer m),(4,Sl.val n),(6,(.pointer (some o))),(7,(.pointer (some v))),(11,Sl.val p),(12,.int .i64 q),(13,.int .i64 r)] (yF.s3 Q (fun b c=>d (b,c)) m n o v p q r)):=by intros;exact⟨fun _ ⟨_,_,_,_,_,_,h⟩=>⟨_,_,h⟩⟩
 have:DH 5 2 [9,11] (.s [0,1,2,3,5,6,7,4,8] (.a [(9,0,.a [(10,0,.a [(11,0,.e)])]),(10,1,.a [(9,0,.a [(11,0,.e)])])])):=⟨⟩
 have:∀y z aa,LH 2 (fun x:Sl×Int=>[(1,.pointer y),(4,Sl.val x.1),(11,Sl.val z),(12,.int .i64 aa),(13,.int .i64 x.2)]) (fun X x=>yF.b1 Q (fun b c=>X (b,c)) y z aa x.1 x.2):=fun _ _ _=>⟨⟩
 exact zJ 47 h Tryz.func12
def vk.b1(Q:Sl→K)(n:Sl→Int→K)(o:Sl)(p:Int)(b:Sl)(a:Int): K :=
 Ite (decide (a<p))
  (Idx o a 1 fun c=>
  Ld c Value.pointer fun d=>
  Nn d fun f=>
  LdN f 3 fun g=>
  Bld #[.int .i64 0,.int .u64 0,.int .u64 0] (fun i=>some (i*3,3)) [(0,.agg g)] fun j=>
  New 44 j fun k=>
  Do Tryz.prog (Builtin.append_ #[70,70] 70 #[Sl.val b,(Sl.val (Sl.mk (some k) 1 1))]) Sl.val fun l=>
  Ar (IntKind.wrap .i64 (a+1)) fun m=>
  n l m)
  (Q b)
def vk(f:Pt)(Q:Sl→K): K :=
 Nn f fun b=>
 Ld (b.add 4) Sl.val fun a=>
 zq (α:=Sl×Int) (fun X x=>vk.b1 Q (fun c d=>X (c,d)) a (a.n:Int) x.1 x.2) ((Sl.mk none 0 0),0)
theorem zIg(a Q w)(h:vk a Q w):vk.call a Q w:=by
 have:∀b c,LH 2 (fun x:Sl×Int=>[(2,Sl.val x.1),(8,Sl.val b),(9,.int .i64 c),(10,.int .i64 x.2)]) (fun X x=>vk.b1 Q (fun d f=>X (d,f)) b c x.1 x.2):=fun _ _=>⟨⟩
 exact zJ 24 h Tryz.func17
def uy(ac:Pt)(ad:Av)(Q:Av→Int→K): K :=
 New 42 ad fun f=>
 New 44 #[.int .i64 0,.int .u64 0,.int .u64 0] fun b=>
 Dr<|
 Nn ac fun a=>
 LdN f 5 fun i=>
 Ld (a.add 2) (Value.int .i64) fun j=>
 qy.call i j fun g=>
 Ite (decide (g≠0))
  (StN b 3 #[.int .i64 0,.int .u64 0,.int .u64 0]<|
  LdN b 3 fun c=>
  Q c g)
  (Ld (a.add 4) Sl.val fun k=>
  Ite (decide ((64:Int)≤(k.n:Int)))
   (StN b 3 #[.int .i64 0,.int .u64 0,.int .u64 0]<|
   LdN b 3 fun c=>
   Q c 2)
   (Ld (a.add 3) (Value.int .u64) fun l=>
   Ar (IntKind.wrap .u64 (l+1)) fun m=>
   St (a.add 3) (.int .u64 m)<|
   Dr<|yV fun S=>
   LdS S a (Value.int .i64) fun o=>
   LdS S (a.add 1) (Value.int .u64) fun p=>
   LdS S (a.add 3) (Value.int .u64) fun q=>
   New 44 #[.int .i64 0,.int .u64 0,.int .u64 0] fun d=>
   Sv S<|
   StN d 3 #[.int .i64 o,.int .u64 p,.int .u64 q]<|
   Dr<|yV fun S=>
   LdS S (a.add 4) Sl.val fun r=>
   xJ S d 3 fun s=>
   Bld #[.int .i64 0,.int .u64 0,.int .u64 0,.int .i64 0] ([(0,3),(3,1)][·]?) [(0,.agg s)] fun t=>
   xJ S f 5 fun u=>
   zBV.call u fun v=>
   Sv S<|
   Bld #[.int .i64 0,.int .u64 0,.int .u64 0,.int .i64 0,.int .i64 0,Sl.val ⟨none,0,0⟩,Sl.val ⟨none,0,0⟩,Sl.val ⟨none,0,0⟩,.int .i64 0,.pointer none] ([(0,4),(4,5),(9,1)][·]?) [(0,.agg t),(1,.agg v)] fun x=>
   New 140 x fun y=>
   Sv S<|
   New 137 #[(.pointer (some y))] fun z=>
   Sv S<|
   Do Tryz.prog (Builtin.append_ #[119,119] 119 #[Sl.val r,(Sl.val (Sl.mk (some z) 1 1))]) Sl.val fun aa=>
   St (a.add 4) (Sl.val aa)<|
   LdN d 3 fun ab=>
   StN b 3 ab<|
   LdN b 3 fun c=>
   Q c 0))
theorem zGt(b c Q w)(h:uy b c Q w):uy.call b c Q w:=by
 have:DH 8 2 [12,15] (.s [0,1,2,3,4,5,6,7] (.a [(8,1,.s [9] (.a [(10,1,.a [(11,1,.a [(12,0,.s [13,14] (.a [(15,0,.e)]))])])]))])):=⟨⟩
 have:DH 7 2 [14] (.s [0,1,2,4,5,6,8,9,10,3,7,11,12] (.a [(13,1,.a [(14,0,.e)])])):=⟨⟩
 have:DH 1 1 [5] (.s [1,2,3,0,4] (.a [(5,0,.s [6] .e)])):=⟨⟩
 exact zJ 61 h Tryz.func36
def yI.b2(Q:Av→Bool→K)(r:Int→K)(s c:Addr)(t:Int)(d:Addr)(u:Sl)(v a:Int): K :=
 Ite (decide (a<v))
  (Idx u a 2 fun f=>
  LdN f 2 fun g=>
  New 118 #[.bool false,Sl.val ⟨none,0,0⟩] fun b=>
  StN b 2 g<|
  Dr<|yV fun S=>
  LdS S (d.add 1) Sl.val fun i=>
  LdS S (b.add 1) Sl.val fun j=>
  uG.call j fun k=>
  Sv S<|
  Idx i a 2 fun l=>
  St (l.add 1) (Sl.val k)<|
  Ar (IntKind.wrap .i64 (a+1)) fun m=>
  r m)
  (LdN d 2 fun n=>
  jc.call (some s) t n fun o p=>
  StN c 5 o<|
  LdN c 5 fun q=>
  Q q p)
def yI.s1(Q:Av→Bool→K)(f g:Addr)(i:Int)(a:Addr): K :=
 Ld (a.add 1) Sl.val fun c=>
 vB.call c fun d=>
 St (a.add 1) (Sl.val d)<|
 Ld (a.add 1) Sl.val fun b=>
 zq (α:=Int) (fun X x=>yI.b2 Q X f g i a b (b.n:Int) x) 0
def yI.s3(Q:Av→Bool→K)(d a:Addr)(f:Int)(l:Pt)(b:Addr)(m:Bool): K :=
 Ite m
  (Nn l fun c=>
  Ld (c.add 3) (Value.int .i64) fun g=>
  Ar (IntKind.wrap .i64 (g+1)) fun i=>
  St (c.add 3) (.int .i64 i)<|
  St (c.add 9) (.pointer none)<|
  StN a 5 #[.int .i64 0,.int .u64 0,.int .u64 0,.int .i64 0,Sl.val ⟨none,0,0⟩]<|
  LdN a 5 fun j=>
  Q j false)
  (Ld b (Value.int .i64) fun k=>
  Ite (decide (k=112))
   (StN b 2 #[.int .i64 141,Sl.val ⟨none,0,0⟩]<|
   yI.s1 Q d a f b)
   (yI.s1 Q d a f b))
def yI(j:Pt)(r:Av)(Q:Av→Bool→K): K :=
 New 115 r fun f=>
 New 111 #[.int .i64 0,.int .u64 0,.int .u64 0,.int .i64 0,Sl.val ⟨none,0,0⟩] fun a=>
 LdN f 4 fun k=>
 zAP.call j k fun b=>
 Ite (decide (b<0))
  (StN a 5 #[.int .i64 0,.int .u64 0,.int .u64 0,.int .i64 0,Sl.val ⟨none,0,0⟩]<|
  LdN a 5 fun l=>
  Q l false)
  (Dr<|yV fun S=>
  Nn j fun d=>
  LdS S (d.add 4) Sl.val fun m=>
  Idx m b 1 fun n=>
  LdS S n Value.pointer fun g=>
  xJ S (f.add 4) 2 fun o=>
  New 49 #[.int .i64 0,Sl.val ⟨none,0,0⟩] fun c=>
  Sv S<|
  StN c 2 o<|
  Ld c (Value.int .i64) fun p=>
  Ite (decide (p=112))
   (Nn g fun i=>
   Ld (i.add 3) (Value.int .i64) fun q=>
   yI.s3 Q d a b (some i) c (decide (q<2)))
   (yI.s3 Q d a b g c false))
theorem zGu(m n Q w)(h:yI m n Q w):yI.call m n Q w:=by
 have:DH 15 2 [8] (.s [0,2,3,1,4] (.a [(5,1,.s [6,7] (.a [(8,0,.e)]))])):=⟨⟩
 have:∀o p q r t u,LH 13 (fun x:Int=>[(0,(.pointer (some o))),(4,(.pointer (some p))),(6,.int .i64 q),(8,(.pointer (some r))),(62,Sl.val t),(63,.int .i64 u),(64,.int .i64 x)]) (fun X x=>yI.b2 Q X o p q r t u x):=fun _ _ _ _ _ _=>⟨⟩
 have:JH 11 fun D=>∃b c d f,D [(0,(.pointer (some b))),(4,(.pointer (some c))),(6,.int .i64 d),(8,(.pointer (some f)))] (fun C=>C [(0,(.pointer (some b))),(4,(.pointer (some c))),(6,.int .i64 d),(8,(.pointer (some f)))] (yI.s1 Q b c d f)):=⟨fun _ ⟨_,_,_,_,h⟩=>⟨_,_,h⟩⟩
 have:JH 6 fun D=>∃g i j k l,D [(0,(.pointer (some g))),(4,(.pointer (some i))),(6,.int .i64 j),(7,.pointer k),(8,(.pointer (some l)))] (fun C=>∀v,C [(0,(.pointer (some g))),(4,(.pointer (some i))),(6,.int .i64 j),(7,.pointer k),(8,(.pointer (some l))),(27,.bool v)] (yI.s3 Q g i j k l v)):=⟨fun _ ⟨_,_,_,_,_,h⟩=>⟨_,_,h⟩⟩
 have:DH 4 2 [11] (.s [0,1,2,4,7,3,5,6,8] (.a [(9,1,.s [10] (.a [(11,0,.e)]))])):=⟨⟩
 exact zJ 84 h Tryz.func37
def zBC(d:Pt)(k:Av)(Q:Av→Bool→K): K :=
 New 46 k fun f=>
 New 111 #[.int .i64 0,.int .u64 0,.int .u64 0,.int .i64 0,Sl.val ⟨none,0,0⟩] fun a=>
 LdN f 4 fun g=>
 zAP.call d g fun c=>
 Ite (decide (c<0))
  (StN a 5 #[.int .i64 0,.int .u64 0,.int .u64 0,.int .i64 0,Sl.val ⟨none,0,0⟩]<|
  LdN a 5 fun b=>
  Q b false)
  (jc.call d c #[.int .i64 140,Sl.val ⟨none,0,0⟩] fun i j=>
  StN a 5 i<|
  LdN a 5 fun b=>
  Q b j)
theorem zIh(a b Q w)(h:zBC a b Q w):zBC.call a b Q w:=by
 exact zJ 19 h Tryz.func49
def zAP(f:Pt)(g:Av)(Q:Int→K): K :=
 New 46 g fun a=>
 Nn f fun b=>
 Ld (b.add 4) Sl.val fun c=>
 yj.call c (.func (.func 184) #[] #[(.pointer (some a))]) fun d=>
 Q d
theorem zIi(a b Q w)(h:zAP a b Q w):zAP.call a b Q w:=by
 exact zJ 11 h Tryz.func107
def jc(t:Pt)(b:Int)(u:Av)(Q:Av→Bool→K): K :=
 New 49 u fun f=>
 New 111 #[.int .i64 0,.int .u64 0,.int .u64 0,.int .i64 0,Sl.val ⟨none,0,0⟩] fun c=>
 Nn t fun a=>
 Ld (a.add 4) Sl.val fun g=>
 Idx g b 1 fun i=>
 Ld i Value.pointer fun j=>
 Nn j fun k=>
 LdN k 3 fun l=>
 New 44 #[.int .i64 0,.int .u64 0,.int .u64 0] fun d=>
 StN d 3 l<|
 Ld (a.add 4) Sl.val fun m=>
 Ar (IntKind.wrap .i64 (b+1)) fun n=>
 xG.call m b n fun o=>
 St (a.add 4) (Sl.val o)<|
 LdN d 3 fun p=>
 LdN f 2 fun q=>
 Bld #[.int .i64 0,.int .u64 0,.int .u64 0,.int .i64 0,Sl.val ⟨none,0,0⟩] ([(0,3),(3,2)][·]?) [(0,.agg p),(1,.agg q)] fun r=>
 StN c 5 r<|
 LdN c 5 fun s=>
 Q s true
theorem zGv(a b c Q w)(h:jc a b c Q w):jc.call a b c Q w:=by
 exact zJ 34 h Tryz.func110
def uK.s1(Q:Bool→K)(a:Bool): K :=
 Q a
def uK(g:Pt)(i:Addr)(Q:Bool→K): K :=
 Dr<|
 Nn g fun a=>
 LdN a 4 fun b=>
 LdN i 4 fun c=>
 Pu Tryz.prog (do eqGuard .eql 46 (.tmp 7) (.tmp 8) (.agg b) (.agg c);binOp .eql 46 (.agg b) (.agg c):Sem Value) Value.bool fun d=>
 Ite d
  (Ld (a.add 9) Value.pointer fun f=>
  uK.s1 Q (!(f).isNone))
  (uK.s1 Q false)
theorem zGw(a b Q w)(h:uK a b Q w):uK.call a b Q w:=by
 have:JH 1000001 fun D=>D [] (fun C=>∀c,C [(3,.bool c)] (uK.s1 Q c)):=⟨fun _ h=>⟨_,_,h⟩⟩
 exact zJ 17 h Tryz.func184
instance:AT Tryz.prog 51 15:=⟨by kernel_rfl⟩
instance:CB Tryz.prog 12:=⟨by kernel_rfl⟩
instance:CB Tryz.prog 17:=⟨by kernel_rfl⟩
instance:CB Tryz.prog 22:=⟨by kernel_rfl⟩
instance:CB Tryz.prog 36:=⟨by kernel_rfl⟩
instance:CB Tryz.prog 37:=⟨by kernel_rfl⟩
instance:CB Tryz.prog 45:=⟨by kernel_rfl⟩
instance:CB Tryz.prog 47:=⟨by kernel_rfl⟩
instance:CB Tryz.prog 48:=⟨by kernel_rfl⟩
instance:CB Tryz.prog 49:=⟨by kernel_rfl⟩
instance:CB Tryz.prog 50:=⟨by kernel_rfl⟩
instance:CB Tryz.prog 51:=⟨by kernel_rfl⟩
instance:CB Tryz.prog 52:=⟨by kernel_rfl⟩
instance:CB Tryz.prog 9:=⟨by kernel_rfl⟩
instance:FT Tryz.prog 111 0 0 3:=⟨by kernel_rfl⟩
instance:FT Tryz.prog 111 1 3 2:=⟨by kernel_rfl⟩
instance:FT Tryz.prog 51 0 0 1:=⟨by kernel_rfl⟩
instance:FT Tryz.prog 51 2 2 1:=⟨by kernel_rfl⟩
instance:FT Tryz.prog 51 3 3 5:=⟨by kernel_rfl⟩
instance:FT Tryz.prog 51 5 12 2:=⟨by kernel_rfl⟩
instance:FT Tryz.prog 51 6 14 1:=⟨by kernel_rfl⟩
instance:SLT Tryz.prog 22 51 15:=⟨by kernel_rfl⟩
instance:SZ Tryz.prog 51 15:=⟨by kernel_rfl⟩
instance:UN Tryz.prog 25 (.pointer 121):=⟨Tryz.underlying25⟩
instance:ZT Tryz.prog 51 (.agg #[(.int .i64 0),(.int .i64 0),(.int .i64 0),(.int .i64 0),(Sl.val ⟨none,0,0⟩),(Sl.val ⟨none,0,0⟩),(Sl.val ⟨none,0,0⟩),(.int .i64 0),(.int .i64 0),(.int .u64 0),(.int .u64 0),(.int .i64 0),(.int .i64 0),(Sl.val ⟨none,0,0⟩),(.string ⟨#[]⟩)]):=⟨Tryz.t51,by kernel_rfl,by kernel_rfl⟩
def yY.s5(Q:Bool→K)(b:Int→K)(f g:Pt)(c:Int)(d:Bool): K :=
 Ite d
  (Q false)
  (Ar (IntKind.wrap .i64 (c+1)) fun a=>
  b a)
def yY.s4(Q:Bool→K)(c:Int→K)(a d:Pt)(b:Int)(n:Sl)(o:Bool): K :=
 Ite o
  (Q false)
  (Idx n 0 10 fun i=>
  LdN i 4 fun j=>
  Bld #[.int .i64 0,.int .u64 0,.int .u64 0,.int .i64 0,.int .i64 0,Sl.val ⟨none,0,0⟩] ([(0,4),(4,2)][·]?) [(0,.agg j),(1,(.agg #[.int .i64 112,Sl.val ⟨none,0,0⟩]))] fun k=>
  yI.call a k fun l f=>
  New 111 #[.int .i64 0,.int .u64 0,.int .u64 0,.int .i64 0,Sl.val ⟨none,0,0⟩] fun g=>
  StN g 5 l<|
  Ite (!(f==(decide (b=2))))
   (yY.s5 Q c a d b true)
   (Ite f
    (Ld (g.add 3) (Value.int .i64) fun m=>
    yY.s5 Q c a d b (decide (m≠141)))
    (yY.s5 Q c a d b false)))
def yY.b3(Q:Bool→K)(f:Int→K)(b d:Pt)(c:Int): K :=
 Ite (decide (c<3))
  (yF.call b d fun a=>
  Ite (decide ((a.n:Int)≠1))
   (yY.s4 Q f b d c a true)
   (Idx a 0 10 fun g=>
   Ld (g.add 3) (Value.int .i64) fun i=>
   yY.s4 Q f b d c a (decide (i≠c))))
  (vk.call b fun j=>
  Q (decide ((j.n:Int)=0)))
def yY.s2(Q:Bool→K)(a b:Pt)(c:Bool): K :=
 Ite c
  (Q false)
  (zq (α:=Int) (fun X x=>yY.b3 Q X a b x) 0)
def yY.s1(Q:Bool→K)(a d:Pt)(k:Bool): K :=
 Ite k
  (Q false)
  (New 9 #[(.string ⟨#[97]⟩)] fun f=>
  uy.call a #[.int .i64 1,Sl.val ⟨none,0,0⟩,(Sl.val (Sl.mk (some f) 1 1)),Sl.val ⟨none,0,0⟩,.int .i64 0] fun g i=>
  New 44 #[.int .i64 0,.int .u64 0,.int .u64 0] fun b=>
  StN b 3 g<|
  Ite (decide (i≠0))
   (yY.s2 Q a d true)
   (LdN b 3 fun c=>
   Pu Tryz.prog (do eqGuard .neq 44 (.tmp 31) (.tmp 32) (.agg c) (.agg #[.int .i64 2,.int .u64 7,.int .u64 1]);binOp .neq 44 (.agg c) (.agg #[.int .i64 2,.int .u64 7,.int .u64 1]):Sem Value) Value.bool fun j=>
   yY.s2 Q a d j))
def yY  (Q:Bool→K): K :=
 zEB.call 2 7 1 fun a=>
 uI.call 1 fun b c=>
 Ite ((a).isNone)
  (yY.s1 Q a b true)
  (yY.s1 Q a b ((b).isNone))
theorem zLl(Q w)(h:yY  Q w):yY.call  Q w:=by
 have:∀a,XH 9 a→JH 16 fun D=>∃b c d,D [(1,.pointer b),(2,.pointer c),(6,.int .i64 d)] (fun C=>∀o,C [(1,.pointer b),(2,.pointer c),(6,.int .i64 d),(77,.bool o)] (yY.s5 Q a b c d o)):=by intros;exact⟨fun _ ⟨_,_,_,h⟩=>⟨_,_,h⟩⟩
 have:∀a,XH 9 a→JH 13 fun D=>∃f g i j,D [(1,.pointer f),(2,.pointer g),(6,.int .i64 i),(7,Sl.val j)] (fun C=>∀p,C [(1,.pointer f),(2,.pointer g),(6,.int .i64 i),(7,Sl.val j),(53,.bool p)] (yY.s4 Q a f g i j p)):=by intros;exact⟨fun _ ⟨_,_,_,_,h⟩=>⟨_,_,h⟩⟩
 have:∀q r,LH 9 (fun x:Int=>[(1,.pointer q),(2,.pointer r),(6,.int .i64 x)]) (fun X x=>yY.b3 Q X q r x):=fun _ _=>⟨⟩
 have:JH 7 fun D=>∃k l,D [(1,.pointer k),(2,.pointer l)] (fun C=>∀s,C [(1,.pointer k),(2,.pointer l),(34,.bool s)] (yY.s2 Q k l s)):=⟨fun _ ⟨_,_,h⟩=>⟨_,_,h⟩⟩
 have:JH 4 fun D=>∃m n,D [(1,.pointer m),(2,.pointer n)] (fun C=>∀t,C [(1,.pointer m),(2,.pointer n),(20,.bool t)] (yY.s1 Q m n t)):=⟨fun _ ⟨_,_,h⟩=>⟨_,_,h⟩⟩
 exact zJ 82 h Tryz.func7
def xU.b3(Q:Bool→K)(j k:Int→K)(p:Sl)(q l:Int)(m:Sl)(o a:Int): K :=
 Ite (decide (a<o))
  (Idx m a 2 fun c=>
  LdN c 2 fun d=>
  New 118 #[.bool false,Sl.val ⟨none,0,0⟩] fun b=>
  StN b 2 d<|
  Ld (b.add 1) Sl.val fun f=>
  Ite (decide ((200:Int)<(f.n:Int)))
   (Q true)
   (Ar (IntKind.wrap .i64 (a+1)) fun g=>
   k g))
  (Ar (IntKind.wrap .i64 (l+1)) fun i=>
  j i)
def xU.s2(Q:Bool→K)(b:Int→K)(c:Addr)(d:Sl)(f g:Int)(i:Bool): K :=
 Ite i
  (Q true)
  (Ld ((c.add 12).add 1) Sl.val fun a=>
  zq (α:=Int) (fun X x=>xU.b3 Q b X d f g a (a.n:Int) x) 0)
def xU.b1(Q:Bool→K)(f:Int→K)(c:Sl)(d b:Int): K :=
 Ite (decide (b<d))
  (Idx c b 15 fun g=>
  LdN g 15 fun i=>
  New 51 #[.int .i64 0,.int .i64 0,.int .i64 0,.int .i64 0,Sl.val ⟨none,0,0⟩,Sl.val ⟨none,0,0⟩,Sl.val ⟨none,0,0⟩,.int .i64 0,.int .i64 0,.int .u64 0,.int .u64 0,.int .i64 0,.int .i64 0,Sl.val ⟨none,0,0⟩,(.string ⟨#[]⟩)] fun a=>
  StN a 15 i<|
  LdN (a.add 3) 5 fun j=>
  qB.call j fun k=>
  Ite k
   (xU.s2 Q f a c d b true)
   (Ld ((a.add 12).add 1) Sl.val fun l=>
   Ite (decide ((20:Int)<(l.n:Int)))
    (xU.s2 Q f a c d b true)
    (Ld (a.add 14) Value.string fun m=>
    xU.s2 Q f a c d b (decide ((16:Int)<(m.size:Int))))))
  (Q false)
def xU(a:Sl)(Q:Bool→K): K :=
 Ite (decide ((100:Int)<(a.n:Int)))
  (Q true)
  (zq (α:=Int) (fun X x=>xU.b1 Q X a (a.n:Int) x) 0)
theorem zNM(g Q w)(h:xU g Q w):xU.call g Q w:=by
 have:∀a,XH 4 a→∀i j k l m,LH 9 (fun x:Int=>[(10,Sl.val i),(11,.int .i64 j),(12,.int .i64 k),(34,Sl.val l),(35,.int .i64 m),(36,.int .i64 x)]) (fun X x=>xU.b3 Q a X i j k l m x):=by intros;exact⟨⟩
 have:∀a,XH 4 a→JH 7 fun D=>∃b c d f,D [(4,(.pointer (some b))),(10,Sl.val c),(11,.int .i64 d),(12,.int .i64 f)] (fun C=>∀n,C [(4,(.pointer (some b))),(10,Sl.val c),(11,.int .i64 d),(12,.int .i64 f),(31,.bool n)] (xU.s2 Q a b c d f n)):=by intros;exact⟨fun _ ⟨_,_,_,_,h⟩=>⟨_,_,h⟩⟩
 have:∀o p,LH 4 (fun x:Int=>[(10,Sl.val o),(11,.int .i64 p),(12,.int .i64 x)]) (fun X x=>xU.b1 Q X o p x):=fun _ _=>⟨⟩
 exact zJ 46 h Tryz.func8
def zAY.b1(Q:Bool→K)(j:Int→K)(k l:Sl)(m a:Int): K :=
 Ite (decide (a<m))
  (Dr<|
  Idx k a 10 fun b=>
  Idx l a 10 fun c=>
  LdN b 10 fun d=>
  LdN c 10 fun f=>
  uz.call d f fun g=>
  Ite (!g)
   (Q false)
   (Ar (IntKind.wrap .i64 (a+1)) fun i=>
   j i))
  (Q true)
def zAY(a b:Sl)(Q:Bool→K): K :=
 Ite (decide ((a.n:Int)≠(b.n:Int)))
  (Q false)
  (zq (α:=Int) (fun X x=>zAY.b1 Q X a b (a.n:Int) x) 0)
theorem zLm(b c Q w)(h:zAY b c Q w):zAY.call b c Q w:=by
 have:DH 6 1 [8] (.s [0,1,2,4,5,6,3,7] (.a [(8,0,.s [9] .e)])):=⟨⟩
 have:∀d f g,LH 4 (fun x:Int=>[(0,Sl.val d),(1,Sl.val f),(12,.int .i64 g),(13,.int .i64 x)]) (fun X x=>zAY.b1 Q X d f g x):=fun _ _ _=>⟨⟩
 exact zJ 27 h Tryz.func13
def zBe.b1(Q:K)(g:Int→K)(i j:Pt)(b:Addr)(a:Int): K :=
 Ite (decide (a<2))
  (LdN b 12 fun c=>
  zf.call i a c fun k=>
  LdN b 12 fun d=>
  zM.call j a d fun l=>
  Ar (IntKind.wrap .i64 (a+1)) fun f=>
  g f)
  (Q)
def zBe(d r:Pt)(s:Av)(f:Int)(Q:K): K :=
 New 51 s fun a=>
 Ld (a.add 14) Value.string fun g=>
 New 9 #[.string g] fun i=>
 Ld (a.add 2) (Value.int .i64) fun j=>
 Ar (bitsOf .and .i64 j 1) fun k=>
 New 42 #[.int .i64 0,Sl.val ⟨none,0,0⟩,Sl.val ⟨none,0,0⟩,Sl.val ⟨none,0,0⟩,.int .i64 0] fun b=>
 StN b 5 #[.int .i64 2,Sl.val ⟨none,0,0⟩,(Sl.val (Sl.mk (some i) 1 1)),Sl.val ⟨none,0,0⟩,.int .i64 k]<|
 Ar (IntKind.wrap .i64 (f+1)) fun l=>
 Ar (IntKind.wrap .u64 l) fun m=>
 Bld #[.int .i64 0,.int .u64 0,.int .u64 0,.int .i64 0] ([(0,3),(3,1)][·]?) [(0,(.agg #[.int .i64 0,.int .u64 9,.int .u64 m]))] fun n=>
 LdN b 5 fun o=>
 uP.call d n o fun p=>
 Bld #[.int .i64 0,.int .i64 0,.int .i64 0,.int .u64 0,.int .u64 0,.int .i64 0,.int .i64 0,Sl.val ⟨none,0,0⟩,Sl.val ⟨none,0,0⟩,Sl.val ⟨none,0,0⟩,.int .i64 0,Sl.val ⟨none,0,0⟩] ([(0,1),(1,1),(2,10)][·]?) [(0,.int .i64 2),(1,.int .i64 f),(2,.agg p)] fun q=>
 New 78 #[.int .i64 0,.int .i64 0,.int .i64 0,.int .u64 0,.int .u64 0,.int .i64 0,.int .i64 0,Sl.val ⟨none,0,0⟩,Sl.val ⟨none,0,0⟩,Sl.val ⟨none,0,0⟩,.int .i64 0,Sl.val ⟨none,0,0⟩] fun c=>
 StN c 12 q<|
 zq (α:=Int) (fun X x=>zBe.b1 Q X d r c x) 0
theorem zN4(a b c d Q w)(h:zBe a b c d Q w):zBe.call a b c d Q w:=by
 have:∀f g i,LH 4 (fun x:Int=>[(0,.pointer f),(1,.pointer g),(9,(.pointer (some i))),(10,.int .i64 x)]) (fun X x=>zBe.b1 Q X f g i x):=fun _ _ _=>⟨⟩
 exact zJ 40 h Tryz.func15
def qb.s2(Q:Bool→K)(a:Bool): K :=
 Q a
def qb.s3(Q:Bool→K)(a:Bool): K :=
 Q a
def qb.s4(Q:Bool→K)(a:Bool): K :=
 Q a
def qb.s1(Q:Bool→K)(c d:Pt)(a b:Addr)(aw:Int)(ax:Bool): K :=
 Ite ax
  (LdN b 4 fun o=>
  LdN (a.add 12) 2 fun p=>
  Bld #[.int .i64 0,.int .u64 0,.int .u64 0,.int .i64 0,.int .i64 0,Sl.val ⟨none,0,0⟩] ([(0,4),(4,2)][·]?) [(0,.agg o),(1,.agg p)] fun q=>
  yI.call c q fun r s=>
  New 111 #[.int .i64 0,.int .u64 0,.int .u64 0,.int .i64 0,Sl.val ⟨none,0,0⟩] fun f=>
  StN f 5 r<|
  LdN b 4 fun t=>
  LdN (a.add 12) 2 fun u=>
  Bld #[.int .i64 0,.int .u64 0,.int .u64 0,.int .i64 0,.int .i64 0,Sl.val ⟨none,0,0⟩] ([(0,4),(4,2)][·]?) [(0,.agg t),(1,.agg u)] fun v=>
  xE.call d v fun x y=>
  New 111 #[.int .i64 0,.int .u64 0,.int .u64 0,.int .i64 0,Sl.val ⟨none,0,0⟩] fun g=>
  StN g 5 x<|
  Ite (s==y)
   (LdN f 5 fun z=>
   LdN g 5 fun aa=>
   uQ.call z aa fun ab=>
   qb.s2 Q ab)
   (qb.s2 Q false))
  (Ite (decide (aw=4))
   (LdN b 4 fun ac=>
   zBC.call c ac fun ad ae=>
   New 111 #[.int .i64 0,.int .u64 0,.int .u64 0,.int .i64 0,Sl.val ⟨none,0,0⟩] fun i=>
   StN i 5 ad<|
   LdN b 4 fun af=>
   zBD.call d af fun ag ah=>
   New 111 #[.int .i64 0,.int .u64 0,.int .u64 0,.int .i64 0,Sl.val ⟨none,0,0⟩] fun j=>
   StN j 5 ag<|
   Ite (ae==ah)
    (LdN i 5 fun aj=>
    LdN j 5 fun ak=>
    uQ.call aj ak fun al=>
    qb.s3 Q al)
    (qb.s3 Q false))
   (LdN (a.add 3) 5 fun am=>
   qx.call am fun an=>
   uy.call c an fun ao ap=>
   New 44 #[.int .i64 0,.int .u64 0,.int .u64 0] fun k=>
   StN k 3 ao<|
   LdN (a.add 3) 5 fun aq=>
   xQ.call d aq fun ar au=>
   New 44 #[.int .i64 0,.int .u64 0,.int .u64 0] fun l=>
   StN l 3 ar<|
   LdN k 3 fun m=>
   LdN l 3 fun n=>
   Pu Tryz.prog (do eqGuard .eql 44 (.tmp 90) (.tmp 91) (.agg m) (.agg n);binOp .eql 44 (.agg m) (.agg n):Sem Value) Value.bool fun av=>
   Ite av
    (qb.s4 Q (decide (ap=au)))
    (qb.s4 Q false)))
def qb(d f:Pt)(i j:Av)(Q:Bool→K): K :=
 New 51 i fun b=>
 New 46 j fun c=>
 Ld b (Value.int .i64) fun g=>
 Ar (bitsOf .and .i64 g 7) fun a=>
 Ite (decide (a=2))
  (qb.s1 Q d f b c a (decide (a=2)))
  (qb.s1 Q d f b c a (decide (a=3)))
theorem zN5(g i j k Q w)(h:qb g i j k Q w):qb.call g i j k Q w:=by
 have:JH 1000006 fun D=>D [] (fun C=>∀l,C [(8,.bool l)] (qb.s2 Q l)):=⟨fun _ h=>⟨_,_,h⟩⟩
 have:JH 1000010 fun D=>D [] (fun C=>∀m,C [(8,.bool m)] (qb.s3 Q m)):=⟨fun _ h=>⟨_,_,h⟩⟩
 have:JH 1000013 fun D=>D [] (fun C=>∀n,C [(8,.bool n)] (qb.s4 Q n)):=⟨fun _ h=>⟨_,_,h⟩⟩
 have:JH 4 fun D=>∃a b c d f,D [(0,.pointer a),(1,.pointer b),(6,(.pointer (some c))),(7,(.pointer (some d))),(23,.int .i64 f)] (fun C=>∀o,C [(0,.pointer a),(1,.pointer b),(6,(.pointer (some c))),(7,(.pointer (some d))),(23,.int .i64 f),(24,.bool o)] (qb.s1 Q a b c d f o)):=⟨fun _ ⟨_,_,_,_,_,h⟩=>⟨_,_,h⟩⟩
 exact zJ 98 h Tryz.func16
def uQ.s1(Q:Bool→K)(a:Bool): K :=
 Q a
def uQ(k l:Av)(Q:Bool→K): K :=
 New 111 k fun a=>
 New 111 l fun b=>
 LdN a 3 fun c=>
 LdN b 3 fun d=>
 Pu Tryz.prog (do eqGuard .eql 44 (.tmp 6) (.tmp 8) (.agg c) (.agg d);binOp .eql 44 (.agg c) (.agg d):Sem Value) Value.bool fun f=>
 Ite f
  (LdN (a.add 3) 2 fun g=>
  LdN (b.add 3) 2 fun i=>
  vo.call g i fun j=>
  uQ.s1 Q j)
  (uQ.s1 Q false)
theorem zK1(a b Q w)(h:uQ a b Q w):uQ.call a b Q w:=by
 have:JH 1000001 fun D=>D [] (fun C=>∀c,C [(4,.bool c)] (uQ.s1 Q c)):=⟨fun _ h=>⟨_,_,h⟩⟩
 exact zJ 17 h Tryz.func48
instance:AT Tryz.prog 73 20:=⟨by kernel_rfl⟩
instance:CB Tryz.prog 117:=⟨by kernel_rfl⟩
instance:CB Tryz.prog 118:=⟨by kernel_rfl⟩
instance:CB Tryz.prog 46:=⟨by kernel_rfl⟩
instance:CT Tryz.prog 29:=⟨by kernel_rfl⟩
instance:FT Tryz.prog 31 0 0 1:=⟨by kernel_rfl⟩
instance:FT Tryz.prog 31 1 1 1:=⟨by kernel_rfl⟩
instance:FT Tryz.prog 31 2 2 1:=⟨by kernel_rfl⟩
instance:FT Tryz.prog 31 3 3 1:=⟨by kernel_rfl⟩
instance:FT Tryz.prog 31 4 4 1:=⟨by kernel_rfl⟩
instance:FT Tryz.prog 73 0 0 4:=⟨by kernel_rfl⟩
instance:FT Tryz.prog 73 1 4 5:=⟨by kernel_rfl⟩
instance:FT Tryz.prog 73 2 9 10:=⟨by kernel_rfl⟩
instance:FT Tryz.prog 73 3 19 1:=⟨by kernel_rfl⟩
instance:PLT Tryz.prog 73 [(0,4),(4,5),(9,10),(19,1)]:=⟨_,Tryz.underlying73,by kernel_rfl⟩
instance:SLT Tryz.prog 29 73 20:=⟨by kernel_rfl⟩
instance:SZ Tryz.prog 29 1:=⟨by kernel_rfl⟩
instance:SZ Tryz.prog 73 20:=⟨by kernel_rfl⟩
instance:ZT Tryz.prog 73 (.agg #[(.int .i64 0),(.int .u64 0),(.int .u64 0),(.int .i64 0),(.int .i64 0),(Sl.val ⟨none,0,0⟩),(Sl.val ⟨none,0,0⟩),(Sl.val ⟨none,0,0⟩),(.int .i64 0),(.int .i64 0),(.int .u64 0),(.int .u64 0),(.int .i64 0),(.int .i64 0),(Sl.val ⟨none,0,0⟩),(Sl.val ⟨none,0,0⟩),(Sl.val ⟨none,0,0⟩),(.int .i64 0),(Sl.val ⟨none,0,0⟩),(.bool false)]):=⟨Tryz.t73,by kernel_rfl,by kernel_rfl⟩
def qN.s2(Q:Sl→K)(l:Sl→Int→K)(m:Addr)(o:Pt)(n:Sl)(a:Int): K :=
 Ld (m.add 4) Sl.val fun b=>
 Idx b a 20 fun c=>
 LdN (c.add 9) 10 fun d=>
 Bld #[.int .i64 0,.int .u64 0,.int .u64 0,.int .i64 0,.int .i64 0,Sl.val ⟨none,0,0⟩,Sl.val ⟨none,0,0⟩,Sl.val ⟨none,0,0⟩,.int .i64 0,Sl.val ⟨none,0,0⟩] (fun i=>some (i*10,10)) [(0,.agg d)] fun f=>
 New 54 f fun g=>
 Do Tryz.prog (Builtin.append_ #[38,38] 38 #[Sl.val n,(Sl.val (Sl.mk (some g) 1 1))]) Sl.val fun j=>
 Ar (IntKind.wrap .i64 (a+1)) fun k=>
 l j k
def qN.b1(Q:Sl→K)(g:Sl→Int→K)(aa d:Pt)(f:Sl)(b:Int): K :=
 Nn aa fun a=>
 Ld (a.add 4) Sl.val fun i=>
 Ite (decide (b<(i.n:Int)))
  (Ld (a.add 4) Sl.val fun j=>
  Idx j b 20 fun k=>
  Ld (k.add 19) Value.bool fun l=>
  Ite (!l)
   (Ld (a.add 4) Sl.val fun m=>
   Idx m b 20 fun o=>
   LdN o 20 fun p=>
   New 73 #[.int .i64 0,.int .u64 0,.int .u64 0,.int .i64 0,.int .i64 0,Sl.val ⟨none,0,0⟩,Sl.val ⟨none,0,0⟩,Sl.val ⟨none,0,0⟩,.int .i64 0,.int .i64 0,.int .u64 0,.int .u64 0,.int .i64 0,.int .i64 0,Sl.val ⟨none,0,0⟩,Sl.val ⟨none,0,0⟩,Sl.val ⟨none,0,0⟩,.int .i64 0,Sl.val ⟨none,0,0⟩,.bool false] fun c=>
   StN c 20 p<|
   Dr<|yV fun S=>
   LdS S (a.add 4) Sl.val fun q=>
   xJ S c 4 fun r=>
   xJ S (c.add 4) 5 fun s=>
   xJ S (c.add 4) 5 fun t=>
   zA6.call d t fun u=>
   Sv S<|
   Bld #[.int .i64 0,.int .u64 0,.int .u64 0,.int .i64 0,.int .i64 0,Sl.val ⟨none,0,0⟩,Sl.val ⟨none,0,0⟩,Sl.val ⟨none,0,0⟩,.int .i64 0,Sl.val ⟨none,0,0⟩] ([(0,4),(4,5),(9,1)][·]?) [(0,.agg r),(1,.agg s),(2,Sl.val u)] fun v=>
   Idx q b 20 fun x=>
   StN (x.add 9) 10 v<|
   Ld (a.add 4) Sl.val fun y=>
   Idx y b 20 fun z=>
   St (z.add 19) (.bool true)<|
   qN.s2 Q g a d f b)
   (qN.s2 Q g a d f b))
  (Q f)
def qN(d f:Pt)(Q:Sl→K): K :=
 New 54 #[] fun a=>
 zq (α:=Sl×Int) (fun X x=>qN.b1 Q (fun b c=>X (b,c)) d f x.1 x.2) ((Sl.mk (some a) 0 0),0)
theorem zGx(j k Q w)(h:qN j k Q w):qN.call j k Q w:=by
 have:∀l,XH 3 l→JH 9 fun D=>∃d f g i,D [(0,(.pointer (some d))),(1,.pointer f),(5,Sl.val g),(6,.int .i64 i)] (fun C=>C [(0,(.pointer (some d))),(1,.pointer f),(5,Sl.val g),(6,.int .i64 i)] (qN.s2 Q (fun b c=>l (b,c)) d f g i)):=by intros;exact⟨fun _ ⟨_,_,_,_,h⟩=>⟨_,_,h⟩⟩
 have:DH 7 2 [16] (.s [0,1,2,4,5,7,9,10,3,6,8,11] (.a [(12,1,.s [13,14,15] (.a [(16,0,.e)]))])):=⟨⟩
 have:∀m n,LH 3 (fun x:Sl×Int=>[(0,.pointer m),(1,.pointer n),(5,Sl.val x.1),(6,.int .i64 x.2)]) (fun X x=>qN.b1 Q (fun b c=>X (b,c)) m n x.1 x.2):=fun _ _=>⟨⟩
 exact zJ 69 h Tryz.func14
def xE.s1(Q:Av→Bool→K)(d g a:Addr)(c:Int)(i:Addr)(v:Bool): K :=
 Ite v
  (Ld (d.add 4) Sl.val fun f=>
  Idx f c 20 fun j=>
  Ld (j.add 3) (Value.int .i64) fun k=>
  Ar (IntKind.wrap .i64 (k+1)) fun l=>
  Idx f c 20 fun m=>
  St (m.add 3) (.int .i64 l)<|
  Ld (d.add 4) Sl.val fun n=>
  Idx n c 20 fun o=>
  St (o.add 19) (.bool false)<|
  StN a 5 #[.int .i64 0,.int .u64 0,.int .u64 0,.int .i64 0,Sl.val ⟨none,0,0⟩]<|
  LdN a 5 fun b=>
  Q b false)
  (zAQ.call (some d) c<|
  Ld (g.add 4) (Value.int .i64) fun p=>
  Ite (decide (p=112))
   (LdN i 3 fun q=>
   Bld #[.int .i64 0,.int .u64 0,.int .u64 0,.int .i64 0,Sl.val ⟨none,0,0⟩] ([(0,3),(3,2)][·]?) [(0,.agg q),(1,(.agg #[.int .i64 141,Sl.val ⟨none,0,0⟩]))] fun r=>
   StN a 5 r<|
   LdN a 5 fun b=>
   Q b true)
   (LdN i 3 fun s=>
   LdN (g.add 4) 2 fun t=>
   Bld #[.int .i64 0,.int .u64 0,.int .u64 0,.int .i64 0,Sl.val ⟨none,0,0⟩] ([(0,3),(3,2)][·]?) [(0,.agg s),(1,.agg t)] fun u=>
   StN a 5 u<|
   LdN a 5 fun b=>
   Q b true))
def xE(g:Pt)(p:Av)(Q:Av→Bool→K): K :=
 New 115 p fun a=>
 New 111 #[.int .i64 0,.int .u64 0,.int .u64 0,.int .i64 0,Sl.val ⟨none,0,0⟩] fun b=>
 LdN a 4 fun i=>
 ql.call g i fun c=>
 Ite (decide (c<0))
  (StN b 5 #[.int .i64 0,.int .u64 0,.int .u64 0,.int .i64 0,Sl.val ⟨none,0,0⟩]<|
  LdN b 5 fun j=>
  Q j false)
  (Nn g fun f=>
  Ld (f.add 4) Sl.val fun k=>
  Idx k c 20 fun l=>
  LdN l 20 fun m=>
  New 73 #[.int .i64 0,.int .u64 0,.int .u64 0,.int .i64 0,.int .i64 0,Sl.val ⟨none,0,0⟩,Sl.val ⟨none,0,0⟩,Sl.val ⟨none,0,0⟩,.int .i64 0,.int .i64 0,.int .u64 0,.int .u64 0,.int .i64 0,.int .i64 0,Sl.val ⟨none,0,0⟩,Sl.val ⟨none,0,0⟩,Sl.val ⟨none,0,0⟩,.int .i64 0,Sl.val ⟨none,0,0⟩,.bool false] fun d=>
  StN d 20 m<|
  Ld (a.add 4) (Value.int .i64) fun n=>
  Ite (decide (n=112))
   (Ld (d.add 3) (Value.int .i64) fun o=>
   xE.s1 Q f a b c d (decide (o<2)))
   (xE.s1 Q f a b c d false))
theorem zGy(g i Q w)(h:xE g i Q w):xE.call g i Q w:=by
 have:JH 6 fun D=>∃a b c d f,D [(0,(.pointer (some a))),(3,(.pointer (some b))),(4,(.pointer (some c))),(6,.int .i64 d),(7,(.pointer (some f)))] (fun C=>∀j,C [(0,(.pointer (some a))),(3,(.pointer (some b))),(4,(.pointer (some c))),(6,.int .i64 d),(7,(.pointer (some f))),(31,.bool j)] (xE.s1 Q a b c d f j)):=⟨fun _ ⟨_,_,_,_,_,h⟩=>⟨_,_,h⟩⟩
 exact zJ 71 h Tryz.func47
def zBD(g:Pt)(p:Av)(Q:Av→Bool→K): K :=
 New 46 p fun i=>
 New 111 #[.int .i64 0,.int .u64 0,.int .u64 0,.int .i64 0,Sl.val ⟨none,0,0⟩] fun a=>
 LdN i 4 fun j=>
 ql.call g j fun b=>
 Ite (decide (b<0))
  (StN a 5 #[.int .i64 0,.int .u64 0,.int .u64 0,.int .i64 0,Sl.val ⟨none,0,0⟩]<|
  LdN a 5 fun c=>
  Q c false)
  (Nn g fun d=>
  Ld (d.add 4) Sl.val fun k=>
  Idx k b 20 fun l=>
  LdN l 3 fun m=>
  New 44 #[.int .i64 0,.int .u64 0,.int .u64 0] fun f=>
  StN f 3 m<|
  zAQ.call (some d) b<|
  LdN f 3 fun n=>
  Bld #[.int .i64 0,.int .u64 0,.int .u64 0,.int .i64 0,Sl.val ⟨none,0,0⟩] ([(0,3),(3,2)][·]?) [(0,.agg n),(1,(.agg #[.int .i64 140,Sl.val ⟨none,0,0⟩]))] fun o=>
  StN a 5 o<|
  LdN a 5 fun c=>
  Q c true)
theorem zIj(a b Q w)(h:zBD a b Q w):zBD.call a b Q w:=by
 exact zJ 29 h Tryz.func50
def xQ.s1(Q:Av→Int→K)(a d:Addr): K :=
 LdN d 3 fun b=>
 StN a 3 b<|
 LdN a 3 fun c=>
 Q c 0
def xQ(ad:Pt)(ae:Av)(Q:Av→Int→K): K :=
 New 42 ae fun p=>
 New 44 #[.int .i64 0,.int .u64 0,.int .u64 0] fun b=>
 Dr<|
 Nn ad fun a=>
 LdN p 5 fun q=>
 Ld (a.add 1) (Value.int .i64) fun r=>
 zy.call q r fun s=>
 Ite (!s)
  (StN b 3 #[.int .i64 0,.int .u64 0,.int .u64 0]<|
  LdN b 3 fun l=>
  Q l 1)
  (Ld (a.add 4) Sl.val fun t=>
  Ite (decide ((64:Int)≤(t.n:Int)))
   (StN b 3 #[.int .i64 0,.int .u64 0,.int .u64 0]<|
   LdN b 3 fun l=>
   Q l 2)
   (Ld (a.add 3) (Value.int .u64) fun u=>
   Ar (IntKind.wrap .u64 (u+1)) fun v=>
   St (a.add 3) (.int .u64 v)<|
   Dr<|yV fun S=>
   LdS S a (Value.int .i64) fun x=>
   LdS S (a.add 2) (Value.int .u64) fun y=>
   LdS S (a.add 3) (Value.int .u64) fun z=>
   New 44 #[.int .i64 0,.int .u64 0,.int .u64 0] fun c=>
   Sv S<|
   StN c 3 #[.int .i64 x,.int .u64 y,.int .u64 z]<|
   Dr<|yV fun S=>
   LdS S (a.add 4) Sl.val fun m=>
   xJ S c 3 fun aa=>
   Bld #[.int .i64 0,.int .u64 0,.int .u64 0,.int .i64 0] ([(0,3),(3,1)][·]?) [(0,.agg aa)] fun ab=>
   xJ S p 5 fun ac=>
   Bld #[.int .i64 0,.int .u64 0,.int .u64 0,.int .i64 0,.int .i64 0,Sl.val ⟨none,0,0⟩,Sl.val ⟨none,0,0⟩,Sl.val ⟨none,0,0⟩,.int .i64 0,.int .i64 0,.int .u64 0,.int .u64 0,.int .i64 0,.int .i64 0,Sl.val ⟨none,0,0⟩,Sl.val ⟨none,0,0⟩,Sl.val ⟨none,0,0⟩,.int .i64 0,Sl.val ⟨none,0,0⟩,.bool false] ([(0,4),(4,5),(9,10),(19,1)][·]?) [(0,.agg ab),(1,.agg ac)] fun o=>
   All [
    (New 73 #[] fun k=>
    Sv S<|
    All [
     (Do Tryz.prog (Builtin.append_ #[29,29] 29 #[(Sl.val (Sl.mk (some k) 0 0)),Sl.val m]) Sl.val fun d=>
     Sv S<|
     Bld #[.int .i64 0,.int .u64 0,.int .u64 0,.int .i64 0,.int .i64 0,Sl.val ⟨none,0,0⟩,Sl.val ⟨none,0,0⟩,Sl.val ⟨none,0,0⟩,.int .i64 0,.int .i64 0,.int .u64 0,.int .u64 0,.int .i64 0,.int .i64 0,Sl.val ⟨none,0,0⟩,Sl.val ⟨none,0,0⟩,Sl.val ⟨none,0,0⟩,.int .i64 0,Sl.val ⟨none,0,0⟩,.bool false] (fun i=>some (i*20,20)) [(0,.agg o)] fun f=>
     New 73 f fun g=>
     Sv S<|
     Do Tryz.prog (Builtin.append_ #[29,29] 29 #[Sl.val d,(Sl.val (Sl.mk (some g) 1 1))]) Sl.val fun j=>
     St (a.add 4) (Sl.val j)<|
     xQ.s1 Q b c),
     (Bld #[.int .i64 0,.int .u64 0,.int .u64 0,.int .i64 0,.int .i64 0,Sl.val ⟨none,0,0⟩,Sl.val ⟨none,0,0⟩,Sl.val ⟨none,0,0⟩,.int .i64 0,.int .i64 0,.int .u64 0,.int .u64 0,.int .i64 0,.int .i64 0,Sl.val ⟨none,0,0⟩,Sl.val ⟨none,0,0⟩,Sl.val ⟨none,0,0⟩,.int .i64 0,Sl.val ⟨none,0,0⟩,.bool false] (fun i=>some (i*20,20)) [(0,.agg o)] fun f=>
     New 73 f fun g=>
     Sv S<|
     Do Tryz.prog (Builtin.append_ #[29,29] 29 #[(Sl.val (Sl.mk (some k) 0 0)),Sl.val m]) Sl.val fun d=>
     Sv S<|
     Do Tryz.prog (Builtin.append_ #[29,29] 29 #[Sl.val d,(Sl.val (Sl.mk (some g) 1 1))]) Sl.val fun j=>
     St (a.add 4) (Sl.val j)<|
     xQ.s1 Q b c)
     ]),
    (Bld #[.int .i64 0,.int .u64 0,.int .u64 0,.int .i64 0,.int .i64 0,Sl.val ⟨none,0,0⟩,Sl.val ⟨none,0,0⟩,Sl.val ⟨none,0,0⟩,.int .i64 0,.int .i64 0,.int .u64 0,.int .u64 0,.int .i64 0,.int .i64 0,Sl.val ⟨none,0,0⟩,Sl.val ⟨none,0,0⟩,Sl.val ⟨none,0,0⟩,.int .i64 0,Sl.val ⟨none,0,0⟩,.bool false] (fun i=>some (i*20,20)) [(0,.agg o)] fun f=>
    New 73 f fun g=>
    Sv S<|
    New 73 #[] fun k=>
    Sv S<|
    Do Tryz.prog (Builtin.append_ #[29,29] 29 #[(Sl.val (Sl.mk (some k) 0 0)),Sl.val m]) Sl.val fun d=>
    Sv S<|
    Do Tryz.prog (Builtin.append_ #[29,29] 29 #[Sl.val d,(Sl.val (Sl.mk (some g) 1 1))]) Sl.val fun j=>
    St (a.add 4) (Sl.val j)<|
    xQ.s1 Q b c)
    ]))
theorem zGz(d f Q w)(h:xQ d f Q w):xQ.call d f Q w:=by
 have:JH 8 fun D=>∃b c,D [(4,(.pointer (some b))),(6,(.pointer (some c)))] (fun C=>C [(4,(.pointer (some b))),(6,(.pointer (some c)))] (xQ.s1 Q b c)):=⟨fun _ ⟨_,_,h⟩=>⟨_,_,h⟩⟩
 have:DH 7 2 [12,15] (.s [0,2,3,4,5,7,8,9,10] (.a [(1,1,.a [(6,1,.a [(11,1,.a [(12,0,.s [13,14] (.a [(15,0,.e)]))])]),(11,1,.a [(6,1,.a [(12,0,.s [13,14] (.a [(15,0,.e)]))])])]),(11,1,.a [(1,1,.a [(6,1,.a [(12,0,.s [13,14] (.a [(15,0,.e)]))])])])])):=⟨⟩
 have:DH 6 2 [14] (.s [0,1,2,4,5,6,8,9,10,3,7,11,12] (.a [(13,1,.a [(14,0,.e)])])):=⟨⟩
 have:DH 1 1 [5] (.s [1,2,3,0,4] (.a [(5,0,.s [6] .e)])):=⟨⟩
 exact zJ 58 h Tryz.func52
def ql.s2(Q c:Int→K)(f g:Addr)(a:Int)(d:Bool): K :=
 Ite d
  (Q a)
  (Ar (IntKind.wrap .i64 (a+1)) fun b=>
  c b)
def ql.b1(Q g:Int→K)(q:Pt)(c:Addr)(b:Int): K :=
 Nn q fun a=>
 Ld (a.add 4) Sl.val fun i=>
 Ite (decide (b<(i.n:Int)))
  (Dr<|
  Ld (a.add 4) Sl.val fun j=>
  Idx j b 20 fun k=>
  LdN k 4 fun d=>
  LdN c 4 fun f=>
  Pu Tryz.prog (do eqGuard .eql 46 (.tmp 22) (.tmp 23) (.agg d) (.agg f);binOp .eql 46 (.agg d) (.agg f):Sem Value) Value.bool fun l=>
  Ite l
   (Ld (a.add 4) Sl.val fun m=>
   Idx m b 20 fun o=>
   Ld (o.add 19) Value.bool fun p=>
   ql.s2 Q g a c b p)
   (ql.s2 Q g a c b false))
  (Q (-1))
def ql(b:Pt)(c:Av)(Q:Int→K): K :=
 New 46 c fun a=>
 zq (α:=Int) (fun X x=>ql.b1 Q X b a x) 0
theorem zIk(d f Q w)(h:ql d f Q w):ql.call d f Q w:=by
 have:∀g,XH 2 g→JH 5 fun D=>∃a b c,D [(0,(.pointer (some a))),(3,(.pointer (some b))),(5,.int .i64 c)] (fun C=>∀i,C [(0,(.pointer (some a))),(3,(.pointer (some b))),(5,.int .i64 c),(34,.bool i)] (ql.s2 Q g a b c i)):=by intros;exact⟨fun _ ⟨_,_,_,h⟩=>⟨_,_,h⟩⟩
 have:∀j k,LH 2 (fun x:Int=>[(0,.pointer j),(3,(.pointer (some k))),(5,.int .i64 x)]) (fun X x=>ql.b1 Q X j k x):=fun _ _=>⟨⟩
 exact zJ 36 h Tryz.func117
def zAQ(o:Pt)(f:Int)(Q:K): K :=
 Dr<|yV fun S=>
 Nn o fun a=>
 Ar (IntKind.wrap .i64 (f+1)) fun g=>
 LdS S (a.add 4) Sl.val fun d=>
 Slc d 0 f (d.c:Int) 20 fun i=>
 LdS S (a.add 4) Sl.val fun b=>
 Slc b g (b.n:Int) (b.c:Int) 20 fun j=>
 New 73 #[] fun k=>
 Sv S<|
 Do Tryz.prog (Builtin.append_ #[29,29] 29 #[(Sl.val (Sl.mk (some k) 0 0)),Sl.val i]) Sl.val fun l=>
 Sv S<|
 Do Tryz.prog (Builtin.append_ #[29,29] 29 #[Sl.val l,Sl.val j]) Sl.val fun m=>
 St (a.add 4) (Sl.val m)<|
 Q
theorem zIl(b c Q w)(h:zAQ b c Q w):zAQ.call b c Q w:=by
 have:DH 0 2 [16,19] (.s [0,2,3,4,6,9,10,11,13,14,5,7,12,15] (.a [(1,1,.a [(8,1,.a [(16,0,.s [17,18] (.a [(19,0,.e)]))])])])):=⟨⟩
 exact zJ 23 h Tryz.func118
end
end Go.Proofs.YtlelhlcjaapkoaaGreat
