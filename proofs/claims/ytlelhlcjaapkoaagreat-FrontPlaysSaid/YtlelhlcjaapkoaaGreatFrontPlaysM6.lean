/- Texts of the claim FrontPlays, one behind the other. -/
import Derived.Test.YtlelhlcjaapkoaaGreatFrontPlaysM5
set_option linter.all false
set_option maxRecDepth 100000
namespace Go.Proofs.YtlelhlcjaapkoaaGreat
section
open Go Go.Sep Go.Sep.Bt
def zKO(M:zo):Prop:=∀x∈M,x.2.has=false∧x.2.val=[]∧1≤x.2.cnt
abbrev zWS(t:TxX):Prop:=t.kind=2
theorem zKO.get{n:Nat}{M:zo}(h:zKO M)(k:ByteArray):(yt n M k).has=false∧(yt n M k).val=[]∧0≤(yt n M k).cnt:=by
 unfold yt;cases hg:getM M k with
 | none=>exact⟨rfl,rfl,by simp⟩
 | some r=>
  have:=h _ (zMb hg);exact⟨this.1,this.2.1,by have:=this.2.2;simp only[zhP] at this ⊢;omega⟩
theorem zKO.put{M:zo}{k:ByteArray}{r:Rec}(h:zKO M)(h1:r.has=false)(h2:r.val=[])(h3:1≤r.cnt):zKO (zB1 M k r):=fun x hx=>by
 rcases zMa hx with rfl|hx
 ·exact⟨h1,h2,h3⟩
 ·exact h x hx
theorem zU9{n:Nat}{M:zo}{t:TxX}(hrt:qC (n:Int) t=true)(hk:t.kind=2):∃key,t.writes=[key]∧(wrU n M t=[]∨∃r,wrU n M t=[(key,r)]∧(zKO M→r.has=false∧(yt n (zCA n M (key,r)) (bs key)).cnt≠0∧zKO (zCA n M (key,r)))):=by
 obtain⟨ht1,k,ht2⟩:=zDM hrt hk;have hto:0≤t.to∧t.to<(n:Int):=by
  unfold qC at hrt;split at hrt
  ·cases hrt
  split at hrt
  ·cases hrt
  simp only[hk,zhX,zgp,zgH] at hrt;omega
 have hn:jy n M [] k=yt n M (bs k):=rfl;refine⟨k,ht2,?_⟩;unfold wrU jV;rw[if_pos hk,ht2,zEM,hn];by_cases hc:(yt n M (bs k)).cnt=18446744073709551615
 ·rw[if_pos hc];exact .inl rfl
 ·rw[if_neg hc,zID];refine .inr ⟨{ yt n M (bs k) with home:=t.to,cnt:=(yt n M (bs k)).cnt+1 },by rw[if_pos rfl];exact List.mergeSort_singleton _,fun hM=>?_⟩;obtain⟨g1,g2,g3⟩:=hM.get (n:=n) (bs k);have ha:zCA n M (k,{ yt n M (bs k) with home:=t.to,cnt:=(yt n M (bs k)).cnt+1 })=zB1 M (bs k) { yt n M (bs k) with home:=t.to,cnt:=(yt n M (bs k)).cnt+1 }:=by
   unfold zCA;rw[if_pos (by simp only;omega)];unfold jw;rw[if_neg (show ¬(t.to<0∨(n:Int)≤t.to) by omega),if_neg hc]
  rw[ha,zJy,if_pos rfl];exact⟨g1,by simp only;omega,hM.put g1 g2 (by simp only;omega)⟩
theorem zSJ{n:Nat}{M:zo}{G:GM×DM}{g:zx}{t:TxX}(hM:zKO M)(hk:zWS t)(hrt:qC (n:Int) t=true):zKO (zDe n g t M G):=by
 unfold zDe;split
 ·exact hM
 obtain⟨key,_,h0|⟨r,h0,h1⟩⟩:=zU9 (n:=n) (M:=M) hrt hk
 ·rw[h0];exact hM
 ·obtain⟨r1,r2,r3⟩:=h1 hM;rw[h0];show zKO (zDL n M (key,r));unfold zDL zPw;rw[if_neg (by simp[r1]),←zHp (n:=n) (by exact r2)];have:=(r3.get (n:=n) (bs key)).2.2;exact r3.put rfl rfl (by simp only;omega)
section
variable{B:World}{Γ Δ:List zB}
theorem zNe{st n:Nat}{M:zo}{k:ByteArray}{q:K}(hc0:(yt n M k).cnt≠0)(hk:k.size<1000000000000)(hL:M.length<1000000000)
  (h:HG B (yM st n (zEO M k { yt n M k with has:=false,val:=[] })::Γ) q):HG B (yM st n M::Γ) (zAS.call (some ⟨st,0,none⟩) k q):=by
 refine fun w hw=>zGf _ _ _ _ ?_;refine hg hw ?_;clear hw w;unfold zAS;refine zBi hk fun s hok=>?_;generalize yt n M k=r at *;refine zD fun r6=>?_;refine yX (b:=r6) (l':=zDn r s) ?_
 repeat refine zT ?_
 refine fun w hw=>?_;refine hg (show Holds B (Bytes qO ⟨none,0,0⟩ []::_) w from hw.ji qO 1) ?_;clear hw w;refine uL ⟨none,0,0⟩ ?_;refine yN st ?_;obtain⟨o1,o2,o3⟩:=hok;refine zIu (r:={ r with has:=false,val:=[] }) ⟨o1,o2,by simp⟩ (.inr hc0) hL ?_;rw[zHp (n:=n) (by exact hc0)];exact zA h
end
section
variable{B:World}{Γ Δ:List zB}{st n:Nat}{M:zo}
theorem zWT{s:Sl}{R:WX}{Q:K}(hr:∀w,Holds B Γ w→RdC w s 5 (R.flatMap zDK))(hv:∀x∈R,∀w,Holds B Γ w→RdB w x.2.2 x.2.1.val)(hR1:R.length≤1)(hR:∀x∈R,x.1.length<1000000000∧x.2.1.ok∧x.2.1.has=false∧(yt n (zCA n M (x.1,x.2.1)) (bs x.1)).cnt≠0)(hL:M.length+2*R.length<100000000)
  (h:HG B (yM st n (zAU n M (zA4 R))::Γ) Q):HG B (yM st n M::Γ) (vK.call (some ⟨st,0,none⟩) s Q):=fun w hw=>by
 refine zNo _ _ _ _ ?_;have hsn:s.n=R.length:=zAM zJ8 (by omega) (hr w hw.tail);refine hg hw ?_;clear hw w;unfold vK;refine qH (α:=Int) (ι:=Nat×zo) (fun x i=>x=(i.1:Int)∧i.1≤R.length∧i.2=zAU n M (zA4 (R.take i.1))∧i.2.length≤M.length+2*i.1) (fun x i=>yM st n i.2::Γ) (fun x i=>R.length-i.1) (0,M) ⟨rfl,zgW _,rfl,zgu _⟩ ?_;rintro k' _ ⟨i,N⟩ ⟨rfl,hi,hN,hNl⟩ hk';simp only at hi hN hNl hk' ⊢;unfold vK.b1;refine zF (fun hb=>?_) fun hb=>?_
 ·have hil:i<R.length:=by simp only[zgH] at hb;omega
  have hge:R[i]?=some R[i]:=zgG hil;have hmem:R[i]∈R:=zgX hil;have htk:R.take (i+1)=R.take i++[R[i]]:=zgJ hil;generalize R[i]=x at hge hmem htk;obtain⟨hxk,hxo,hxh,hxc⟩:=hR x hmem;have hi0:i=0:=by omega
  have hNM:N=M:=by rw[hN,hi0];rfl
  have hsz:(bs x.1).size=x.1.length:=rfl;refine uT zDK zJ8 (fun w hw=>hr w hw.tail) hge ?_;refine zD fun w5=>?_;refine yX (b:=w5) (l':=zeR x) ?_
  repeat refine zT ?_
  refine yN st ?_;refine zBi (by omega) fun sl hok=>?_
  repeat refine zT ?_
  have next:∀N2,N2=zCA n N (x.1,x.2.1)→HG B (blk w5 (.cells (zeR x).toArray qw (0,0))::yM st n N2::Γ) (vK.s3 Q k' (some ⟨st,0,none⟩) ⟨w5,0,none⟩ s (s.n:Int) (i:Int)):=fun N2 hN2=>by
   have hl0:=zMr n N (x.1,x.2.1);have hl1:=zMs n N (x.1,x.2.1);have fin:HG B (yM st n (zDL n N (x.1,x.2.1))::Γ) (vK.s2 Q k' (some ⟨st,0,none⟩) s (s.n:Int) (i:Int)):=by
    unfold vK.s2;refine qJ ?_;refine hk' ((i:Int)+1) (i+1,zDL n N (x.1,x.2.1)) ⟨by simp,hil,?_,by simp only;omega⟩ (by simp only;omega);simp only[htk,zA4,zgT,zgd,zhp,zAU,zhQ,zhK,List.foldl_nil];rw[hN];rfl
   unfold vK.s3
   repeat refine zT ?_
   refine s_f ?_ (by simpa using hxh)
   repeat refine zT ?_
   refine yN st ?_;refine zNe (by rw[hN2,hNM];exact hxc) (by omega) (by rw[hN2];omega) ?_;have e:zEO N2 (bs x.1) { yt n N2 (bs x.1) with has:=false,val:=[] }=zDL n N (x.1,x.2.1):=by
    unfold zDL zPw;rw[if_neg (by simp[hxh]),←hN2]
   rw[e];exact zA fin
  refine zF (fun hc=>?_) fun hc=>?_
  ·have hc':(yt n N (bs x.1)).cnt≠x.2.1.cnt:=by simpa using hc
   repeat refine zT ?_
   refine yN st ?_;refine zMc (M:=N) (by omega) (by omega) ?_;exact zA (next _ (by unfold zCA;rw[if_pos hc']))
  ·have hc':¬(yt n N (bs x.1)).cnt≠x.2.1.cnt:=by simpa using hc
   exact zA (next _ (by unfold zCA;rw[if_neg hc']))
 ·have hil:i=R.length:=by simp only[zgF] at hb;omega
  rw[hil,zgQ] at hN;rw[hN];exact h
end
section
variable{B:World}{Γ Δ:List zB}{rb st mb n t4:Nat}{os:Sl}{X:WX}{O:OX}{M:zo}{k:List UInt8}
theorem zQL{Q:Array Value→Sl→K}{t:TxX}(hk2:t.kind=2)(htx:zeQ t)(ht:∀w,Holds B Γ w→zAn w t)
  (hbad:(jV n M t).2.2≠0→HG B (yM st n M::Γ) (Q #[.int .i64 (jV n M t).2.2,Sl.val ⟨none,0,0⟩] ⟨none,0,0⟩))
  (hgood:(jV n M t).2.2=0→∀(os:Sl) (O:OX) (rows:Sl) (R:WX),O.map Prod.fst=(jV n M t).2.1→zA4 R=zHY (jV n M t).1→(∀p∈R,p.2.1.ok)→HG B (SlC qA 2 os (O.flatMap oF)::Sep.stars (O.map oB)::SlC qw 5 rows (R.flatMap zDK)::Sep.stars (R.map wB)::yM st n M::Γ) (Q #[.int .i64 0,os.val] rows)) :
  HG B (yM st n M::Γ) (u6.call (some ⟨st,0,none⟩) (txL t).toArray Q):=fun w hw=>by
 refine zRG _ _ _ _ ?_;have hon:t.os.n=t.ops.length:=zAM zAs (by omega) (ht w hw.drops).2.2.1;refine hg hw ?_;clear hw w;unfold u6;refine zD fun t3=>?_;refine zD fun t4=>?_;refine zGL (enc:=qE) (cV:=wV) fun mb=>?_;refine zD fun rb=>?_;refine zh (b:=t3) (x:=t.kind) ?_;refine fun w hw=>?_;refine hg (show Holds B (Sep.stars (([]:WX).map wB)::_) w from Holds.flat.2 hw) ?_;clear hw w;refine fun w hw=>?_;refine hg (show Holds B (Sep.stars (([]:OX).map oB)::_) w from Holds.flat.2 hw) ?_;clear hw w;refine fun w hw=>?_;refine hg (show Holds B (SlC qA 2 ⟨none,0,0⟩ (([]:OX).flatMap oF)::_) w from hw.ji _ _) ?_;clear hw w;have fin:∀(os:Sl) (X:WX) (O:OX) (e:Int),zA4 X=(jV n M t).1→O.map Prod.fst=(jV n M t).2.1→e=(jV n M t).2.2→(∀p∈X,p.2.1.ok)→HG B (blk t4 (.cells [.int .i64 0,Sl.val ⟨none,0,0⟩].toArray qR (0,0))::zJH rb st mb os X O (yM st n M::Γ)) (u6.s1 Q ⟨t4,0,none⟩ ⟨rb,0,none⟩ e):=fun os X O e h1 h2 h3 h4=>by
  have hr0:jV n M t=((zEc n M t.to t.writes []).1,[],(zEc n M t.to t.writes []).2):=by unfold jV;rw[if_pos hk2]
  have hko:zCH X:=by unfold zCH;rw[←zX7,h1,hr0];exact zOd (by simp[zCH])
  have hwl:X.length≤1000000:=by
   have e1:X.length=(zA4 X).length:=by simp
   rw[e1,h1,hr0];have:=htx.2.2;have h5:=zKk (n:=n) (M:=M) (to:=t.to) (ks:=t.writes) (W:=[]);simp only[zgl] at h5;simp only;omega
  refine zVk hko hwl (fun h5=>?_) fun h5 rows=>?_
  ·rw[h3];exact hbad (by rw[←h3];exact h5)
  ·refine hgood (by rw[←h3];exact h5) os O rows (zHY X) h2 (by rw[zVi,h1]) fun p hp=>h4 p ((zEN X).subset hp)
 refine s_t ?_ (by simpa using hk2);have hr:jV n M t=((zEc n M t.to t.writes []).1,[],(zEc n M t.to t.writes []).2):=by unfold jV;rw[if_pos hk2]
 refine yC (b:=t3) (l':=txL t) ?_;refine zA (Δ:=zJH rb st mb ⟨none,0,0⟩ [] [] (yM st n M::blk t4 (.cells [.int .i64 0,Sl.val ⟨none,0,0⟩].toArray qR (0,0))::Γ)) ?_;refine zS3 (by simp) htx (fun w hw=>(ht w hw.tail).2.1) fun X' h1 h2=>?_;refine zA (Δ:=blk t4 (.cells [.int .i64 0,Sl.val ⟨none,0,0⟩].toArray qR (0,0))::zJH rb st mb ⟨none,0,0⟩ X' [] (yM st n M::Γ)) ?_;exact fin _ X' [] _ (by rw[hr];exact h1) (by rw[hr];rfl) (by rw[hr];rfl) h2
end
section
variable{B:World}{Γ Δ:List zB}{k:K}{sd st l n:Nat}{M:zo}{G:GM×DM}{a b c:Sl}
theorem zTj{g:zx}{t:TxX}{ms:Sl}{T:Nat}{q:Array Value→K}(hmv:zKO M)(hk2:t.kind=2)(hrt:qC (n:Int) t=true)(hnn:∀x∈t.ops,-9223372036854775808≤x.1.n∧x.1.n≤9223372036854775807)(hr:∀w,Holds B Γ w→zAn w t)(hsz:SzG T G)(hT:T≤900000)(hM:M.length≤10000000)
  (h:∀(os:Sl) (O:OX),O.map Prod.fst=zKs n g t M G→HG B (SlC qA 2 os (O.flatMap oF)::Sep.stars (O.map oB)::blk sd (.cells (sdL st l a b c).toArray yS (0,0))::vL l (zFl n g t M G).1 (zFl n g t M G).2::yM st n (zDe n g t M G)::Γ) (q #[.int .i64 (zFm n g t M G),os.val])) :
  HG B (blk sd (.cells (sdL st l a b c).toArray yS (0,0))::vL l G.1 G.2::yM st n M::Γ) (yG.call (some ⟨sd,0,none⟩) (orV g t ms).toArray q):=by
 refine fun w hw=>zGn _ _ _ _ ?_;refine hg hw ?_;clear hw w;obtain⟨k1,k2,k3,k4⟩:=zDO hrt;obtain⟨key0,hkey0,hW0⟩:=zU9 (n:=n) (M:=M) hrt hk2;have hkl0:key0.length≤16:=k1 key0 (zg3 _ (by rw[hkey0];simp));unfold yG;refine zD fun o3=>?_;refine zD fun t4=>?_;refine xg ?_;refine uf ?_;refine zh (b:=sd) (off:=1) (l:=sdL st l a b c) (x:=some ⟨l,0,none⟩) ?_;refine yC (b:=o3) (l:=orV g t ms) (l':=zQ g) ?_;refine xg ?_;refine zh (b:=sd) (off:=1) (l:=sdL st l a b c) (x:=some ⟨l,0,none⟩) ?_;refine yC (b:=o3) (l:=orV g t ms) (l':=zQ g) ?_;refine yN l ?_;refine zOZ ?_;unfold zKs zFl zFm zDe at h;by_cases hd:G.2 g=true
 ·rw[hd];refine s_t ?_;simp only[hd,zhX] at h;refine yX (b:=t4) (l':=[.int .i64 112,Sl.val ⟨none,0,0⟩]) ?_;refine yN l ?_;refine zOl hsz.gsz (by omega) ?_;show HG B (vL l (uE g G).1 (uE g G).2::_) _;refine yC (b:=t4) (l':=[.int .i64 112,Sl.val ⟨none,0,0⟩]) ?_;refine zA (Δ:=blk sd (.cells (sdL st l a b c).toArray yS (0,0))::vL l (uE g G).1 (uE g G).2::yM st n M::Γ) ?_;refine fun w hw=>h ⟨none,0,0⟩ [] rfl w ?_;exact(hw.zAA).ji qA 2
 rw[Bool.eq_false_iff.2 hd];refine s_f ?_;simp only[hd,zgc,zhG] at h;refine xg ?_;refine zBl [blk o3 (.cells (orV g t ms).toArray zU (0,0)),blk sd (.cells (sdL st l a b c).toArray yS (0,0))] ?_;refine jK (b:=sd) (l:=sdL st l a b c) (x:=some ⟨st,0,none⟩) ?_;refine jq (b:=o3) (off:=4) (l:=orV g t ms) (l':=txL t) ?_;have run:∀{Ψ:List zB} {kk:Array Value→Sl→K},(∀w,Holds B Ψ w→zAn w t) →
   (∀(os:Sl) (O:OX) (rows:Sl) (R:WX),O.map Prod.fst=(if(jV n M t).2.2=0 then(jV n M t).2.1 else[])→zA4 R=wrU n M t→(∀p∈R,p.2.1.ok)→HG B (SlC qA 2 os (O.flatMap oF)::Sep.stars (O.map oB)::SlC qw 5 rows (R.flatMap zDK)::Sep.stars (R.map wB)::yM st n M::Ψ) (kk #[.int .i64 (jV n M t).2.2,os.val] rows)) →
   HG B (yM st n M::Ψ) (u6.call (some ⟨st,0,none⟩) (txL t).toArray kk):=fun {Ψ kk} hΨ hk=>by
  refine zQL (t:=t) hk2 ⟨fun x hx=>by have:=k1 x (zg3 _ hx);omega,fun x hx=>⟨by have:=(k4 x hx).1;omega,by have:=(k4 x hx).2;omega,hnn x hx⟩,by omega,by omega,by omega,fun x hx=>by have:=k1 x (zhF _ hx);omega⟩ hΨ (fun hb=>?_) fun hz os O rows R hO hR hRok=>?_
  ·refine fun w hw=>?_;have h1:Holds B (SlC qA 2 ⟨none,0,0⟩ (([]:OX).flatMap oF)::Sep.stars (([]:OX).map oB)::SlC qw 5 ⟨none,0,0⟩ (([]:WX).flatMap zDK)::Sep.stars (([]:WX).map wB)::_) w:=((hw.zAA.ji qw 5).zAA).ji qA 2;exact hk _ [] _ [] (by rw[if_neg hb];rfl) (by unfold wrU;rw[if_neg hb];rfl) (by simp) w h1
  ·have h2:=hk os O rows R (by rw[if_pos hz];exact hO) (by unfold wrU;rw[if_pos hz];exact hR) hRok;rw[hz] at h2;exact h2
 have cont:∀{r5:Nat} {os rows:Sl} {O:OX} {R:WX} {Ψ:List zB},O.map Prod.fst=(if(jV n M t).2.2=0 then(jV n M t).2.1 else[])→zA4 R=wrU n M t→(∀p∈R,p.2.1.ok) →
   HG B (SlC qw 5 rows (R.flatMap zDK)::Sep.stars (R.map wB)::yM st n M::blk r5 (.cells [.int .i64 (jV n M t).2.2,os.val].toArray qR (0,0))::SlC qA 2 os (O.flatMap oF)::Sep.stars (O.map oB)::vL l G.1 G.2::blk t4 (.cells [.int .i64 0,Sl.val ⟨none,0,0⟩].toArray qR (0,0))::blk o3 (.cells (orV g t ms).toArray zU (0,0))::blk sd (.cells (sdL st l a b c).toArray yS (0,0))::Γ) (yG.s1 q ⟨sd,0,none⟩ ⟨o3,0,none⟩ ⟨t4,0,none⟩ ⟨r5,0,none⟩ rows (some ⟨l,0,none⟩) (zQ g).toArray):=fun {r5 os rows O R Ψ} hO hR hok=>by
  have hRl:R.length≤1:=by
   have:R.length=(wrU n M t).length:=by rw[←hR];simp[zA4]
   rcases hW0 with h0|⟨r,h0,_⟩ <;> rw[h0] at this <;> simp only[zgl,zgO] at this <;> omega
  have hRx:∀x∈R,x.1.length<1000000000∧x.2.1.ok∧x.2.1.has=false∧(yt n (zCA n M (x.1,x.2.1)) (bs x.1)).cnt≠0:=fun x hx=>by
   have hm:(x.1,x.2.1)∈zA4 R:=zgV.2 ⟨x,hx,rfl⟩;rw[hR] at hm;rcases hW0 with h0|⟨r,h0,h1⟩
   ·rw[h0] at hm;cases hm
   ·rw[h0] at hm;simp only[zgM,zhj] at hm;rw[hm.1,hm.2];exact⟨by omega,by rw[←hm.2];exact hok x hx,(h1 hmv).1,(h1 hmv).2.1⟩
  unfold yG.s1;refine zh (b:=sd) (l:=sdL st l a b c) (x:=some ⟨st,0,none⟩) ?_;refine yN st ?_;refine zWT (R:=R) (fun w hw=>(zO (s:=rows) hw).1) (fun x hx w hw=>zVw (Γ:=[]) hx hw.drops) hRl hRx (by omega) ?_;rw[hR];have S2:∀{G':GM×DM},SzG (T+1) G'→(uE g G')=(if t.kind=2∧(jV n M t).2.2=0 then uE g (zBx n (zAU n M (wrU n M t)) (t.writes.headD []) (uE g G)) else uE g G) →
    HG B (blk r5 (.cells [.int .i64 (jV n M t).2.2,os.val].toArray qR (0,0))::SlC qA 2 os (O.flatMap oF)::Sep.stars (O.map oB)::vL l G'.1 G'.2::blk t4 (.cells [.int .i64 0,Sl.val ⟨none,0,0⟩].toArray qR (0,0))::blk sd (.cells (sdL st l a b c).toArray yS (0,0))::yM st n (zAU n M (wrU n M t))::Γ) (yG.s2 q ⟨t4,0,none⟩ ⟨r5,0,none⟩ (some ⟨l,0,none⟩) (zQ g).toArray):=fun {G'} hG' he=>by
   unfold yG.s2;refine yC (b:=r5) (l':=[.int .i64 (jV n M t).2.2,os.val]) ?_;refine yX (b:=t4) (l':=[.int .i64 (jV n M t).2.2,os.val]) ?_;refine yN l ?_;refine zOl hG'.gsz (by omega) ?_;show HG B (vL l (uE g G').1 (uE g G').2::_) _;refine yC (b:=t4) (l':=[.int .i64 (jV n M t).2.2,os.val]) ?_;have h1:=h os O hO;rw[←he] at h1;exact zA h1
  refine zh (b:=o3) (off:=4) (l:=orV g t ms) (x:=t.kind) ?_;have S3:∀{bb:Bool},(bb=true↔t.kind=2∧(jV n M t).2.2=0)→HG B (yM st n (zAU n M (wrU n M t))::blk r5 (.cells [.int .i64 (jV n M t).2.2,os.val].toArray qR (0,0))::SlC qA 2 os (O.flatMap oF)::Sep.stars (O.map oB)::vL l G.1 G.2::blk t4 (.cells [.int .i64 0,Sl.val ⟨none,0,0⟩].toArray qR (0,0))::blk o3 (.cells (orV g t ms).toArray zU (0,0))::blk sd (.cells (sdL st l a b c).toArray yS (0,0))::Γ) (yG.s3 q ⟨sd,0,none⟩ ⟨o3,0,none⟩ ⟨t4,0,none⟩ ⟨r5,0,none⟩ (some ⟨l,0,none⟩) (zQ g).toArray bb):=fun {bb} hbb=>by
   unfold yG.s3;cases bb
   ·have hn:¬(t.kind=2∧(jV n M t).2.2=0):=fun hh=>by have:=hbb.2 hh;cases this
    refine s_f ?_;exact zA (S2 (G':=G) (hsz.up (by omega)) (by rw[if_neg hn]))
   ·have hy:=hbb.1 rfl;refine s_t ?_;obtain⟨_,key,hkey⟩:=zDM hrt hy.1;refine xg ?_;refine zh (b:=sd) (off:=1) (l:=sdL st l a b c) (x:=some ⟨l,0,none⟩) ?_;refine yC (b:=o3) (l:=orV g t ms) (l':=zQ g) ?_;refine yN l ?_;refine zXz hsz.gsz (by omega) ?_;show HG B (vL l (uE g G).1 (uE g G).2::_) _;refine xg ?_;refine zh (b:=sd) (off:=1) (l:=sdL st l a b c) (x:=some ⟨l,0,none⟩) ?_;refine zh (b:=sd) (l:=sdL st l a b c) (x:=some ⟨st,0,none⟩) ?_;refine zcs (cs:=txL t) (x:=t.ws) (fun w hw=>?_) rfl ?_
    ·exact zDu (b:=o3) (off:=4) (l:=orV g t ms) (n:=5) hw
    refine u7 (L:=t.writes) (j:=0) (x:=key) (fun w hw=>(hr w (hw.drops (Δ:=Γ))).2.1) (by rw[hkey];rfl) ?_;refine yN st ?_;refine yN l ?_;refine zX1 (N:=T) (by have:=k1 key (zg3 _ (by rw[hkey];simp));omega) (hsz.leave g).gsz (by omega) ?_;show HG B (vL l (zBx n (zAU n M (wrU n M t)) key (uE g G)).1 (zBx n (zAU n M (wrU n M t)) key (uE g G)).2::_) _;refine zA (S2 (G':=zBx n (zAU n M (wrU n M t)) key (uE g G)) ((hsz.leave g).moved) ?_);rw[if_pos hy,hkey];rfl
  refine zF (fun h1=>?_) fun h1=>?_
  ·have hk:t.kind=2:=by simpa using h1
   refine zh (b:=r5) (l:=[.int .i64 (jV n M t).2.2,os.val]) (x:=(jV n M t).2.2) ?_;exact zA (S3 (by simp[hk]))
  ·have hk:t.kind≠2:=by simpa using h1
   exact zA (S3 (by simp[hk]))
 refine zBS ?_ ?_
 ·refine yN st ?_;refine run (fun w hw=>hr w hw.drops) fun os O rows R hO hR hok=>?_;refine zD fun r5=>?_;refine yX (b:=r5) (l':=[.int .i64 (jV n M t).2.2,os.val]) ?_;exact zA (cont (os:=os) (Ψ:=[]) hO hR hok)
 ·refine zD fun r5=>?_;refine vS ?_;refine yN st ?_;refine run (fun w hw=>hr w hw.drops) fun os O rows R hO hR hok=>?_;refine yX (b:=r5) (l':=[.int .i64 (jV n M t).2.2,os.val]) ?_;exact zA (cont (os:=os) (Ψ:=[]) hO hR hok)
end
section
variable{B:World}{Γ Δ:List zB}{st sd n:Nat}{M C:zo}{P:Pool}
theorem zZC{t:TxX}{Q:Array Value→Sl→K}(hk2:t.kind=2)(hop:∀x∈t.ops,x.1.ok∧x.1.val.length≤90000000)(hl:t.ops.length≤1000)(hM:M.length≤100000)(hwk:∀k∈t.writes,k.length<1000000000000)(h2:t.kind=2→t.writes≠[])(ht:∀w,Holds B Γ w→zAn w t)
  (h:∀P' os (O:OX) rs (R:WX),(∀x∈P,x∈P')→O.map Prod.fst=(zAz n M t).1→zA4 R=(zAz n M t).2.2→zK4 P' t O→RowsIn P' R→HG B (SlC qA 2 os (O.flatMap oF)::SlC qw 5 rs (R.flatMap zDK)::jC sd n M P'::uN P'::Γ) (Q #[.int .i64 (zAz n M t).2.1,os.val] rs)) :
  HG B (jC sd n M P::uN P::Γ) (xO.call (some ⟨sd,0,none⟩) (txL t).toArray Q):=by
 refine fun w hw=>zPq _ _ _ _ ?_;refine hg hw ?_;clear hw w;have hon:∀w,Holds B Γ w→t.os.n=t.ops.length:=fun w hw=>zAM zAs (by omega) (ht w hw).2.2.1;unfold xO;refine zD fun t3=>?_;refine zD fun t4=>?_;refine yN sd ?_;refine zYh (by omega) fun c=>?_;refine zD fun t18=>?_;refine zD fun t19=>?_;refine zh (b:=t3) (l:=txL t) (x:=t.kind) ?_;have bad:∀{P':Pool} {e:Int} {t33:Nat},(∀x∈P,x∈P')→(zAz n M t)=([],e,[])→HG B (blk t33 (.cells ([]:List Value).toArray qw (0,0))::jC sd n M P'::uN P'::Γ) (Q #[.int .i64 e,Sl.val ⟨none,0,0⟩] (Sl.mk (some ⟨t33,0,none⟩) 0 0)):=fun {P' e t33} hP he=>by
  have h1:=h P' ⟨none,0,0⟩ [] ⟨some ⟨t33,0,none⟩,0,0⟩ [] hP (by rw[he];rfl) (by rw[he];rfl) (by intro x hx;cases hx) (by intro x hx;cases hx);rw[he] at h1;refine zBg (A':=SlC qw 5 ⟨some ⟨t33,0,none⟩,0,0⟩ (([]:WX).flatMap zDK)) (zAq (vs:=[]) rfl (by simp)) ?_;refine fun w hw=>hg (show Holds B (SlC qA 2 ⟨none,0,0⟩ (([]:OX).flatMap oF)::_) w from hw.ji _ _) h1
 refine s_t ?_ (by simpa using hk2);obtain⟨k,hk⟩:∃k,t.writes[0]?=some k:=by
  cases hw:t.writes with
  | nil=>exact absurd hw (h2 hk2)
  | cons k ks=>exact⟨k,rfl⟩
 have hkd:t.writes.headD []=k:=by
  cases hw:t.writes with
  | nil=>rw[hw] at hk;cases hk
  | cons k' ks=>rw[hw] at hk;simpa using hk
 have hkm:k∈t.writes:=zgx hk;have hks:(bs k).size<1000000000000:=hwk k hkm;have hr:zAz n M t=if(jw n M (bs k) t.to).2≠0 then([],111,[]) else([],0,[(k,yt n (jw n M (bs k) t.to).1 (bs k))]):=by unfold zAz;rw[if_pos hk2,hkd]
 refine xg ?_;refine zh (b:=t3) (off:=2) (l:=txL t) (x:=t.ws) ?_;refine u7 (L:=t.writes) (j:=0) (fun w hw=>(ht w hw.drops).2.1) hk ?_;refine zh (b:=t3) (off:=4) (l:=txL t) (x:=t.to) ?_;refine yN c ?_;refine zYE hks (by omega) ?_;refine zF (fun hb=>?_) fun hb=>?_
 ·refine zD fun t33=>?_;refine yX (b:=t4) (l':=[.int .i64 111,Sl.val ⟨none,0,0⟩]) ?_;refine yC (b:=t4) (l':=[.int .i64 111,Sl.val ⟨none,0,0⟩]) ?_;refine zA (Δ:=blk t33 (.cells ([]:List Value).toArray qw (0,0))::jC sd n M P::uN P::Γ) ?_;exact bad (fun x hx=>hx) (by rw[hr,if_pos (by simpa using hb)])
 ·have hb':¬(jw n M (bs k) t.to).2≠0:=by simpa using hb
  rw[if_neg hb'] at hr;refine xg ?_;refine zLO (fun w=>zAn w t∧w.cell? ((⟨t3,0,none⟩:Addr).add 2)=some t.ws.val) (fun w hw=>⟨ht w hw.drops,?_⟩) ?_
  ·rw[jD];exact y9 (xZ hw (b:=t3)) rfl
  refine zDt (x:=t.ws) (fun w hw=>hw.2) ?_;refine zUz (L:=t.writes) (j:=0) (fun w hw=>(ht w hw.drops).2.1) hk fun a1 ha1=>?_;refine zDt (x:=bs k) (fun w hw=>ha1 w hw.1.2.1) ?_;refine zDt (x:=t.ws) (fun w hw=>hw.2) ?_;refine zUz (L:=t.writes) (j:=0) (fun w hw=>(ht w hw.drops).2.1) hk fun a2 ha2=>?_;refine zDt (x:=bs k) (fun w hw=>ha2 w hw.1.2.1) ?_;have hml:=zMq n M (bs k) t.to;refine yN c ?_;refine zKB hks (by omega) fun sl hok hv=>?_;have hsv:∀w,Holds B (jC c n (jw n M (bs k) t.to).1 P::blk t4 (.cells [.int .i64 0,Sl.val ⟨none,0,0⟩].toArray qR (0,0))::blk t3 (.cells (txL t).toArray zn (0,0))::jC sd n M P::uN P::Γ) w→zAn w t∧w.cell? ((⟨t3,0,none⟩:Addr).add 2)=some t.ws.val:=fun w hw=>⟨ht w hw.drops,by rw[jD];exact y9 (xZ hw (b:=t3)) rfl⟩
  have fin:∀t46,HG B (blk t46 (.cells (zDK (k,(yt n (jw n M (bs k) t.to).1 (bs k),sl))).toArray qw (0,0))::blk t4 (.cells [.int .i64 0,Sl.val ⟨none,0,0⟩].toArray qR (0,0))::jC sd n M P::uN P::Γ) (xO.s1 Q ⟨t4,0,none⟩ (Sl.mk (some ⟨t46,0,none⟩) 1 1)):=fun t46=>by
   unfold xO.s1;refine yC (b:=t4) (l':=[.int .i64 0,Sl.val ⟨none,0,0⟩]) ?_;have h1:=h P ⟨none,0,0⟩ [] ⟨some ⟨t46,0,none⟩,1,1⟩ [(k,(yt n (jw n M (bs k) t.to).1 (bs k),sl))] (fun x hx=>hx) (by rw[hr];rfl) (by rw[hr];rfl) (by intro x hx;cases hx) (by intro x hx;rw[zgM.1 hx];exact⟨hok,hv⟩);rw[hr] at h1;refine zBg (A':=SlC qw 5 ⟨some ⟨t46,0,none⟩,1,1⟩ ([(k,(yt n (jw n M (bs k) t.to).1 (bs k),sl))].flatMap zDK)) (zAq (vs:=[(k,(yt n (jw n M (bs k) t.to).1 (bs k),sl))].flatMap zDK) (by simp) (by simp[zDK])) ?_;refine fun w hw=>hg (show Holds B (SlC qA 2 ⟨none,0,0⟩ (([]:OX).flatMap oF)::_) w from hw.ji _ _) ?_;exact zA h1
  refine zF1 (fun w hw=>hsv w hw.drops) ?_;refine zXa (cs:=zDK (k,(yt n (jw n M (bs k) t.to).1 (bs k),sl))) ?_ rfl;refine zBS ?_ ?_
  ·refine zBh (cs:=zDK (k,(yt n (jw n M (bs k) t.to).1 (bs k),sl))) ?_;refine zD fun t46=>?_;refine yX (b:=t4) (l':=[.int .i64 0,Sl.val ⟨none,0,0⟩]) ?_;exact zA (fin t46)
  ·refine yX (b:=t4) (l':=[.int .i64 0,Sl.val ⟨none,0,0⟩]) ?_;refine zF1 (fun w hw=>hsv w hw.drops) ?_;refine zBh (cs:=zDK (k,(yt n (jw n M (bs k) t.to).1 (bs k),sl))) ?_;refine zD fun t46=>?_;exact zA (fin t46)
end
theorem zTk{n:Nat}:zRk n zKO zWS:=⟨fun hrt hnn hr hsz hT hM h hm hk=>zTj hm hk hrt hnn hr hsz hT hM h,fun hm hk hrt=>zSJ hm hk hrt,fun h hk=>h.1.symm.trans hk⟩
theorem zc9{n:Nat}:zR7 n zKO zWS:=⟨fun hm hk h hw=>⟨(zaY h hw hk).zfs,by
 unfold zAz;rw[if_pos hk];split <;> simp⟩,fun hop hl hM hwk h2 ht h _ hk=>zZC hk hop hl hM hwk h2 ht h,fun hr hR hL h _ _ _=>zWC hr hR hL h,fun hm hk hrt=>zSJ hm hk hrt⟩
end
section
open Go Go.Sep Go.Sep.Bt
section
variable{n:Nat}{Pm:zo→Prop}{Pt:TxX→Prop}
theorem zNf(Kt:zRk n Pm Pt):∀(f:Nat) {J:List zFP} {M:zo} {G:GM×DM},Pm M→(∀j∈J,Pt j.tx∧qC (n:Int) j.tx=true)→Pm (zAo n f J M G).1.2.1∧∀j∈(zAo n f J M G).1.1,j∈J
 | 0,J,M,G,h,hJ=>⟨h,fun j hj=>hj⟩
 | f+1,J,M,G,h,hJ=>by
  rcases zUn (pick G) J with hn|⟨A,j,C,rfl,hA,hp⟩
  ·rw[zJR hn];exact⟨h,fun j hj=>hj⟩
  ·rw[zJS hA hp];obtain⟨h1,h2⟩:=hJ j (by simp);obtain⟨a,b⟩:=zNf Kt f (J:=A++C) (G:=zFl n j.tag j.tx M G) (Kt.keep (g:=j.tag) (G:=G) h h1 h2) fun y hy=>hJ y (by
    rcases zgP.1 hy with hy|hy <;> simp[hy])
   refine⟨a,fun y hy=>?_⟩;rcases zgP.1 (b y hy) with hy|hy <;> simp[hy]
theorem zNg(Kt:zRk n Pm Pt){S:zCg}{r kind ix:Int}{tag:zx}{t:TxX}{mks:List MkX}(hm:Pm S.M)(hj:∀j∈S.jobs,Pt j.tx∧qC (n:Int) j.tx=true)(ht:Pt t):Pm (zF4 n r kind ix tag t mks S).1.M∧∀j∈(zF4 n r kind ix tag t mks S).1.jobs,Pt j.tx∧qC (n:Int) j.tx=true:=by
 have run:∀{S:zCg},Pm S.M→(∀j∈S.jobs,Pt j.tx∧qC (n:Int) j.tx=true)→Pm (zGq n S).1.M∧∀j∈(zGq n S).1.jobs,Pt j.tx∧qC (n:Int) j.tx=true:=fun {S} h1 h2=>by
  obtain⟨a,b⟩:=zNf Kt S.jobs.length (G:=S.G) h1 h2;exact⟨a,fun j hj=>h2 j (b j hj)⟩
 unfold zF4;split;rotate_left
 ·exact⟨hm,hj⟩
 rename_i hok;unfold zUq;split
 ·exact⟨hm,hj⟩
 split
 ·split
  ·exact run hm hj
  ·exact run hm (zMA (Pt:=fun t=>Pt t∧qC (n:Int) t=true) hj)
 ·refine run hm (zMA (Pt:=fun t=>Pt t∧qC (n:Int) t=true) fun j hj2=>?_);rcases zgP.1 hj2 with hj2|hj2
  ·exact hj j hj2
  ·rw[zgM.1 hj2];exact⟨Kt.same (zNT (zII t)) ht,by simp only;rw[zGR (zII t)];exact hok.2.2.2.1⟩
end
end
section
open Go Go.Sep Go.Sep.Bt
theorem zF9.mono{n T K N:Nat}{Po Po':OrG→Prop}{S:zCg}{X:DX}(h:zF9 n T K N Po S X)(hp:∀o,Po o→Po' o):zF9 n T K N Po' S X:=by
 obtain⟨U,hw,hU⟩:=h.wr;exact⟨h.n1,h.n3,h.M,h.jobs,⟨U,⟨hw.lk,hw.ku,hw.wf,hw.sz,hw.sd,fun j hj=>⟨(hw.ok j hj).ord,(hw.ok j hj).nn,hp _ (hw.ok j hj).po⟩⟩,hU⟩,h.kt,h.fedl,h.fed,h.fedr,h.filsl,h.last,h.seen,fun r hr y hy=>⟨hp _ (h.logs r hr y hy).1,(h.logs r hr y hy).2⟩,h.logl,h.tgl,h.jl,h.ml⟩
abbrev zVA(o:OrG):zB:=Sep.stars (SlC zi 3 o.ms (o.mks.flatMap mkL)::txC o.t [])
abbrev zAv(L:List OrG):zB:=Sep.stars (L.map zVA)
structure zZD(S:zCg)(OL:List OrG):Prop where
 m:zKO S.M
 j:∀j∈S.jobs,zWS j.tx∧qC ((2:Nat):Int) j.tx=true
 o:∀o∈OL,zWS o.t
section
variable{B:World}{Γ Δ:List zB}{q:K}
theorem zTl{L:List OrG}{o:OrG}{w:World}(ho:o∈L)(hw:Holds B (zAv L::Γ) w):zF7 w o:=by
 obtain⟨Δ,hd⟩:=zEP (F:=zVA) ho hw;have h1:Holds B (SlC zi 3 o.ms (o.mks.flatMap mkL)::txC o.t Δ) w:=(Holds.flat (Δ:=SlC zi 3 o.ms (o.mks.flatMap mkL)::txC o.t [])).1 hd;exact⟨zKr h1.tail,(zO (s:=o.ms) h1).1⟩
theorem zZE{o:OrG}{k:K}(h:HG B (zVA o::Γ) k):HG B (SlC zi 3 o.ms (o.mks.flatMap mkL)::txC o.t Γ) k:=fun w hw=>h w ((Holds.flat (Δ:=SlC zi 3 o.ms (o.mks.flatMap mkL)::txC o.t [])).2 hw)
theorem zWU{x:OpF}{i N sd md:Nat}{S:zCg}{X:DX}{P:Pool}{OL:List OrG}(hkl:x.key.length≤16)(hi:i<100)(hN:N≤2*i)(hR:zF9 2 200 N N (·∈OL) S X)(hMv:zZD S OL)
  (h:∀S' X' P' OL',zF9 2 200 (N+2) (N+2) (·∈OL') S' X'→zZD S' OL'→HG B (zCh sd 2 (N+2) S'::DsR md 2 X' P'::uN P'::zAv OL'::Γ) q) :
  HG B (zCh sd 2 N S::DsR md 2 X P::uN P::zAv OL::Γ) (zBe.call (some ⟨sd,0,none⟩) (some ⟨md,0,none⟩) (ofF x).toArray (i:Int) q):=by
 refine fun w hw=>zN4 _ _ _ _ _ _ ?_;refine hg hw ?_;clear hw w;unfold zBe;refine zD fun o6=>?_;refine zh (b:=o6) (off:=14) (l:=ofF x) (x:=bs x.key) ?_;refine zD fun t13=>?_;refine zh (b:=o6) (off:=2) (l:=ofF x) (x:=x.c) ?_;refine zAw rfl ?_;generalize bitsOf .and .i64 x.c 1=to;refine zD fun x8=>?_;refine yX (b:=x8) (l':=[.int .i64 2,Sl.val ⟨none,0,0⟩,Sl.val ⟨some ⟨t13,0,none⟩,1,1⟩,Sl.val ⟨none,0,0⟩,.int .i64 to]) ?_;refine qJ ?_;refine zAw (zCk (by omega) (by omega)) ?_;refine zCv (cs:=zQ ⟨0,9,(i:Int)+1,0⟩) ?_;refine yC (b:=x8) (l:=[.int .i64 2,Sl.val ⟨none,0,0⟩,Sl.val ⟨some ⟨t13,0,none⟩,1,1⟩,Sl.val ⟨none,0,0⟩,.int .i64 to]) (l':=[.int .i64 2,Sl.val ⟨none,0,0⟩,Sl.val ⟨some ⟨t13,0,none⟩,1,1⟩,Sl.val ⟨none,0,0⟩,.int .i64 to]) ?_;have hk1:vX (([]:List TX)++[x.key])=[x.key]:=by
  refine zMu (zHa _) (zhe _ _) fun x=>?_;rw[zDW];rfl
 refine yN sd ?_;refine zY6 fun hrec=>?_;refine zA (Δ:=zCh sd 2 N S::blk t13 (.cells [qE x.key].toArray yO (0,0))::DsR md 2 X P::uN P::zAv OL::Γ) ?_;refine zYq (tag:=⟨0,9,(i:Int)+1,0⟩) (t:=⟨2,[],[x.key],[],to,⟨none,0,0⟩,⟨some ⟨t13,0,none⟩,1,1⟩,⟨none,0,0⟩⟩) (fun w hw=>⟨RdC.none',?_,RdC.none',by simp⟩) (by simp) (fun y hy=>by simp at hy;rw[hy];omega) fun t' ms ht'=>?_
 ·exact RdC.zGF (E:=yO) (b:=t13) (vs:=[qE x.key]) (cs:=#[qE x.key]) hw zgN rfl rfl 1
 simp only;rw[hk1];have hops:t'.ops=[]:=by have:=ht'.2.2.2.2;simpa using this
 have hl:t'.reads.length≤1000∧t'.writes.length≤1000∧t'.ops.length≤1000:=by
  rw[ht'.2.2.1,ht'.2.2.2.1,hops];simp
 have hmc:∀y∈zBB 2 S.M [x.key],0≤y.cnt∧y.cnt<18446744073709551616:=fun y hy=>by
  obtain⟨z,_,rfl⟩:=zgV.1 hy;exact zY7 hrec _
 have hml2:(zBB 2 S.M [x.key]).length≤1:=by simp[zBB]
 generalize zBB 2 S.M [x.key]=mks at hmc hml2;refine zCv (cs:=itV 2 (i:Int) ⟨0,9,(i:Int)+1,0⟩ t' ms) ?_ (by kernel_rfl);refine zD fun i9=>?_;refine yX (b:=i9) (l':=itV 2 (i:Int) ⟨0,9,(i:Int)+1,0⟩ t' ms) ?_;generalize ho:(⟨⟨0,9,(i:Int)+1,0⟩,t',ms,mks⟩:OrG)=o;refine zA (Δ:=SlC zi 3 ms (mks.flatMap mkL)::txC t' (zCh sd 2 N S::blk i9 (.cells (itV 2 (i:Int) ⟨0,9,(i:Int)+1,0⟩ t' ms).toArray uq (0,0))::DsR md 2 X P::uN P::zAv OL::Γ)) ?_;refine zZE (o:=⟨⟨0,9,(i:Int)+1,0⟩,t',ms,mks⟩) ?_;rw[ho];refine zCo (zIJ (F:=zVA) (A:=OL) (x:=o) ?_);have hom:o∈OL++[o]:=by simp
 have hR':=hR.mono (Po':=(·∈OL++[o])) fun y hy=>zhF _ hy;have hk2:zWS t':=ht'.1;have hMv':zZD S (OL++[o]):=⟨hMv.m,hMv.j,fun y hy=>by
  rcases zgP.1 hy with hy|hy
  ·exact hMv.o y hy
  ·rw[zgM.1 hy,←ho];exact hk2⟩
 generalize OL++[o]=OL' at hom hR' hMv';refine zA (Δ:=zCh sd 2 N S::DsR md 2 X P::uN P::zAv OL'::blk i9 (.cells (itV 2 (i:Int) ⟨0,9,(i:Int)+1,0⟩ t' ms).toArray uq (0,0))::Γ) ?_;refine qH (α:=Int) (ι:=Nat×zCg×DX×Pool) (fun y i=>y=(i.1:Int)∧i.1≤2∧zF9 2 200 (N+i.1) (N+i.1) (·∈OL') i.2.1 i.2.2.1∧zZD i.2.1 OL') (fun y j=>zCh sd 2 (N+j.1) j.2.1::DsR md 2 j.2.2.1 j.2.2.2::uN j.2.2.2::zAv OL'::blk i9 (.cells (itV 2 (i:Int) ⟨0,9,(i:Int)+1,0⟩ t' ms).toArray uq (0,0))::Γ) (fun y i=>2-i.1) (0,S,X,P) ⟨rfl,by omega,hR',hMv'⟩ ?_;rintro k3 _ ⟨r,S3,X3,P3⟩ ⟨rfl,hr3,hR3,hM3⟩ hk3;simp only at hr3 hR3 hM3 hk3 ⊢;unfold zBe.b1;refine zF (fun hb4=>?_) fun hb4=>?_
 ·have hr:r<2:=by simp only[zgH] at hb4;omega
  have hrdO:∀{Ψ:List zB},[Drops Ψ [zAv OL']]→∀w,Holds B Ψ w→∀o∈OL',zF7 w o:=fun {Ψ} _ w hw o ho=>zTl (Γ:=[]) ho (hw.drops (Δ:=[zAv OL']));have hrdT:∀w,zF7 w o→zAn w t'∧RdC w ms 3 (mks.flatMap mkL):=fun w h=>by rw[←ho] at h;exact h
  refine yC (b:=i9) (l:=itV 2 (i:Int) ⟨0,9,(i:Int)+1,0⟩ t' ms) (l':=itV 2 (i:Int) ⟨0,9,(i:Int)+1,0⟩ t' ms) ?_;refine zYo (r:=(r:Int)) (mks:=mks) (t:=t') zTk hM3.m (fun j hj=>(hM3.j j hj).1) hk2 (by omega) (fun w hw=>(hrdT w (hrdO w hw o hom)).1) (fun w hw=>(hrdT w (hrdO w hw o hom)).2) (by rw[hops];simp) (by simp) (by simp only;omega) hmc hl (by omega) fun s1 D1 _ _=>?_;refine yC (b:=i9) (l:=itV 2 (i:Int) ⟨0,9,(i:Int)+1,0⟩ t' ms) (l':=itV 2 (i:Int) ⟨0,9,(i:Int)+1,0⟩ t' ms) ?_;refine zA (Δ:=DsR md 2 X3 P3::uN P3::zAv OL'::zCh sd 2 (N+r+1) (zF4 2 (r:Int) 2 (i:Int) ⟨0,9,(i:Int)+1,0⟩ t' mks S3).1::blk i9 (.cells (itV 2 (i:Int) ⟨0,9,(i:Int)+1,0⟩ t' ms).toArray uq (0,0))::Γ) ?_;refine zWL (m:=1) (T:=200) (K:=N+r) (N:=N+r) (Po:=(·∈OL')) (mks:=mks) (t:=t') zc9 hM3.o hM3.m (fun w hw=>hrdO w hw) hR3 (by omega) (by omega) (by omega) (by omega) (by rw[ho];exact hom) (by rw[hops];simp) (by simp only;omega) hl (by omega) hml2 ?_;intro s D P' X' _ _ _ hrel _;refine qJ ?_;refine zA (Δ:=zCh sd 2 (N+r+1) (zF4 2 (r:Int) 2 (i:Int) ⟨0,9,(i:Int)+1,0⟩ t' mks S3).1::DsR md 2 X' P'::uN P'::zAv OL'::blk i9 (.cells (itV 2 (i:Int) ⟨0,9,(i:Int)+1,0⟩ t' ms).toArray uq (0,0))::Γ) ?_;exact hk3 ((r:Int)+1) (r+1,(zF4 2 (r:Int) 2 (i:Int) ⟨0,9,(i:Int)+1,0⟩ t' mks S3).1,X',P') ⟨by simp,by omega,hrel,⟨(zNg zTk hM3.m hM3.j hk2).1,(zNg zTk hM3.m hM3.j hk2).2,hM3.o⟩⟩ (by simp only;omega)
 ·have hr:r=2:=by simp only[zgF] at hb4;omega
  subst hr;exact zA (h S3 X3 P3 OL' hR3 hM3)
end
end
section
open Go Go.Sep Go.Sep.Bt
def zZF(x:zEk)(d:DEn):Prop:=d.o.tag=x.1∧zC9 x.2.t d.o.t∧d.o.mks=x.2.mks∧x.2.mks.length≤1000∧qC 2 d.o.t=true
theorem zdA{a b c:TxX}(h:zC9 a b)(h2:zC9 b c):zC9 a c:=⟨h.1.trans h2.1,h.2.1.trans h2.2.1,h.2.2.1.trans h2.2.2.1,h.2.2.2.1.trans h2.2.2.2.1,h.2.2.2.2.trans h2.2.2.2.2⟩
theorem zWV{B:World}{L L':zDZ}{n:Nat}{M:zo}{e e':jW}{d d':DEn}(h:zCV B L e d)(h2:Told n M e e')(h3:zLT n M L' d d')(hL:∀p∈L,p∈L')(hok:zGA 2 e'):zCV B L' e' d'∧(d'.o.t=d'.tx∧(d'.o.ms,d'.o.mks)∈L')∧∀x,zOu e' x→zZF x d':=by
 obtain⟨a1,a2,a3,o,a4,a5,a6,a7⟩:=h2;have key:zCV B L' e' d':=by
  rcases h3 with⟨b1,rfl⟩|⟨b1,ms,rfl,b2⟩
  ·have hs:e.ord.isSome=true:=by rw[h.told,b1]
   obtain⟨o0,ho0⟩:=Option.isSome_iff_exists.1 hs;have:=a7 o0 ho0;subst this;obtain⟨c1,c2,c3,c4⟩:=h.ord o ho0;refine⟨by rw[a2,h.tag],by rw[a3];exact h.tx,by rw[a4,b1];rfl,fun o2 ho2=>?_,h.base,h.rt,by rw[a2];exact h.tr⟩;rw[a4] at ho2;cases ho2
   exact⟨c1,c2,c3,hL _ c4⟩
  ·have hs:e.ord=none:=by
    have:=h.told;rw[b1] at this;cases he:e.ord with
    | none=>rfl
    | some o=>rw[he] at this;cases this
   have hm:=a6 hs;have hkk:vX (e.tx.reads++e.tx.writes)=vX (d.tx.reads++d.tx.writes):=by rw[h.tx.2.2.1,h.tx.2.2.2.1]
   rw[hkk] at hm;refine⟨by rw[a2,h.tag],by rw[a3];exact h.tx,by rw[a4];rfl,fun o2 ho2=>?_,h.base,h.rt,by rw[a2];exact h.tr⟩;rw[a4] at ho2;cases ho2
   exact⟨rfl,rfl,by rw[hm],b2⟩
 obtain⟨c1,c2,c3,c4⟩:=key.ord o a4;refine⟨key,⟨c2,c4⟩,fun x hx=>?_⟩;obtain⟨x1,x2,o3,x3,x4⟩:=hx;rw[a4] at x3;cases x3
 refine⟨by rw[c1,x1,key.tag],by rw[c2];exact zdA x2 key.tx,by rw[c3,x4],by rw[x4];exact(hok.2 o a4).2,by rw[c2];exact key.rt⟩
theorem zWW{B:World}{L L':zDZ}{n:Nat}{M:zo}{E:List jW}{D:List DEn}(h:F2 (zCV B L) E D)(hL:∀p∈L,p∈L'):∀{E':List jW} {D':List DEn} {X:List zEk},F2 (Told n M) E E'→F2 (zLT n M L') D D'→F2 zOu E' X→(∀e∈E',zGA 2 e)→F2 (zCV B L') E' D'∧F2 zZF X D'∧∀d∈D',d.o.t=d.tx∧(d.o.ms,d.o.mks)∈L':=by
 induction h with
 | nil=>
  intro E' D' X h1 h2 h3 _;cases h1;cases h2;cases h3
  exact⟨.nil,.nil,fun d hd=>by cases hd⟩
 | cons h0 _ ih=>
  intro E' D' X h1 h2 h3 hok;cases h1 with
  | cons p1 p2=>
   cases h2 with
   | cons q1 q2=>
    cases h3 with
    | cons r1 r2=>
     obtain⟨i1,i2,i3⟩:=ih p2 q2 r2 fun e he=>hok e (zgI _ he);obtain⟨j1,j2,j3⟩:=zWV h0 p1 q1 hL (hok _ zgN);refine⟨.cons j1 i1,.cons (j3 _ r1) i2,fun d hd=>?_⟩;rcases zgS.1 hd with rfl|hd
     ·exact j2
     ·exact i3 d hd
structure FPx where
 j:Nat
 E:List jW
 D:List DEn
 ct:Int
 s:Sl
 L:zDZ
 N:Nat
 S:zCg
 X:DX
 P:Pool
 OL:List OrG
 XL:List zEk
section
variable{B:World}{Γ Δ:List zB}{q:Bool→K}
theorem zWX{L:zDZ}{p:Sl×List MkX}{w:World}(hp:p∈L)(hw:Holds B (zCw L::Γ) w):RdC w p.1 3 (p.2.flatMap mkL):=by
 obtain⟨Δ,hd⟩:=zEP (F:=fun p:Sl×List MkX=>SlC zi 3 p.1 (p.2.flatMap mkL)) hp hw;exact(zO (s:=p.1) hd).1
structure zef(B:World)(len:Nat)(i:FPx):Prop where
 le:i.j≤len
 fr:zGZ B i.L i.j i.ct i.E i.D
 n:i.N≤2*i.j
 rel:zF9 2 200 i.N i.N (·∈i.OL) i.S i.X
 mv:zZD i.S i.OL
abbrev fpB(f sd md m:Nat)(nd:Int)(l:Sl)(i:FPx)(Γ:List zB):List zB:=qI f nd 3 2 i.ct i.E::dfB m nd i.ct i.s i.D (zCw i.L::zCh sd 2 i.N i.S::DsR md 2 i.X i.P::uN i.P::zAv i.OL::SlC zU 10 l (i.XL.flatMap zCq)::Γ)
theorem zWY{f sd md m:Nat}{nd:Int}{l ss:Sl}{i:FPx}{n0:Nat}{k':Sl→Int→K}(hR:F2 (zCV B i.L) i.E i.D)(hle:i.E.length≤64)(hn0:n0≤100)(h:HG B (fpB f sd md m nd l i Γ) (k' l ((n0:Int)+1))):
  HG B (fpB f sd md m nd l i Γ) (zV.s4 q k' (some ⟨f,0,none⟩) ⟨m,0,none⟩ (some ⟨sd,0,none⟩) (some ⟨md,0,none⟩) l ss (ss.n:Int) (n0:Int)):=by
 have hDl:=zFM hR;unfold zV.s4;refine zU4 (by omega) fun os hos=>?_;refine zh (b:=m) (off:=4) (l:=dfL nd i.ct i.s) (x:=i.s) ?_;refine zA (Δ:=dfB m nd i.ct i.s i.D (SlC zBq 3 os (i.E.flatMap fun e=>[.int .i64 e.tag.node,.int .u64 e.tag.epoch,.int .u64 e.tag.seq])::qI f nd 3 2 i.ct i.E::zCw i.L::zCh sd 2 i.N i.S::DsR md 2 i.X i.P::uN i.P::zAv i.OL::SlC zU 10 l (i.XL.flatMap zCq)::Γ)) ?_;refine zWP fun c1 c2 c3=>?_;refine s_f ?_ (by simp;omega);refine qH (α:=Int) (ι:=Nat) (fun y j=>y=(j:Int)∧j≤i.E.length) (fun y j=>dfB m nd i.ct i.s i.D (SlC zBq 3 os (i.E.flatMap fun e=>[.int .i64 e.tag.node,.int .u64 e.tag.epoch,.int .u64 e.tag.seq])::qI f nd 3 2 i.ct i.E::zCw i.L::zCh sd 2 i.N i.S::DsR md 2 i.X i.P::uN i.P::zAv i.OL::SlC zU 10 l (i.XL.flatMap zCq)::Γ)) (fun y j=>i.E.length-j) 0 ⟨rfl,zgW _⟩ ?_;rintro k5 _ j ⟨rfl,hj⟩ hk5;unfold zV.b5;refine zF (fun hb=>?_) fun hb=>?_;rotate_left
 ·refine qJ ?_;exact zA h
 have hjl:j<i.E.length:=by simp only[zgH] at hb;omega
 have hge:i.E[j]?=some i.E[j]:=zgG hjl;generalize i.E[j]=e at hge;obtain⟨d,hgd,hr⟩:=zSE hR hge;refine xg ?_;refine uT (fun e:jW=>idF e.tag) (L:=i.E) (j:=j) (fun _=>rfl) (fun w hw=>(zO (s:=os) hw).1) hge ?_;refine zh (b:=m) (off:=4) (l:=dfL nd i.ct i.s) (x:=i.s) ?_;refine uY deF jk (by omega) (fun w hw=>(zO (s:=i.s) hw).1) hgd fun t ht=>?_;refine zBc (cs:=deF d) (us:=idF d.tag) (fun w hw=>ht w (zO (s:=i.s) hw).1) (by rw[jk];omega) ?_;rw[hr.tag];refine zMe (xs:=idF d.tag) (ys:=idF d.tag) (ks:=idK) (p:=True) (by simp) ?_;refine s_f ?_ (by simp);refine qJ ?_;exact zA (hk5 _ (j+1) ⟨by simp,hjl⟩ (by omega))
theorem zN6{nd:Int}{S:List OpF}{ss:Sl}(hS:RdC B ss 15 (S.flatMap ofF))(hSr:∀x∈S,zSG B x)(h:HG B Γ (q true)):HG B Γ (zV.call nd ss q):=by
 refine fun w hw=>zIn _ _ _ _ ?_;refine hg hw ?_;clear hw w;have hsn:ss.n=S.length:=zAM zKN (by omega) hS;unfold zV;refine zY4 ?_;refine s_f ?_ (by rfl);refine zTh hS hSr (s_t h) fun hSl hfit=>?_;refine s_f ?_ (by rfl);refine zLS fun f=>?_;refine zD fun m=>?_;refine zWE (n:=2) (by omega) (by omega) fun sd=>?_;refine zai (n:=2) (by omega) (by omega) fun md=>?_;refine s_f ?_ (by rfl);unfold zV.s1;refine s_f ?_ (by rfl);refine zD fun t36=>?_;refine zCi (esz:=10) ?_;show HG B (SlC zU 10 _ (([]:List zEk).flatMap zCq)::_) _;refine fun w hw=>Sep.hg (show Holds B (SlC zBY 20 ⟨none,0,0⟩ (([]:List DEn).flatMap deF)::_) w from hw.ji _ _) ?_;clear hw w;refine fun w hw=>Sep.hg (show Holds B (zCw []::_) w from hw.zAA) ?_;clear hw w;refine fun w hw=>Sep.hg (show Holds B (zAv []::_) w from hw.zAA) ?_;clear hw w;refine zA (Δ:=qI f nd 3 2 0 []::dfB m nd 0 ⟨none,0,0⟩ [] (zCw []::zCh sd 2 0 (zIm 2)::DsR md 2 dNew []::uN []::zAv []::SlC zU 10 ⟨some ⟨t36,0,none⟩,0,0⟩ (([]:List zEk).flatMap zCq)::Γ)) ?_;refine qH (α:=Sl×Int) (ι:=FPx) (fun x i=>x.2=(i.j:Int)∧zef B S.length i) (fun x i=>fpB f sd md m nd x.1 i Γ) (fun x i=>S.length-i.j) ⟨0,[],[],0,⟨none,0,0⟩,[],0,zIm 2,dNew,[],[],[]⟩ ⟨rfl,zgW _,⟨.nil,by simp,by simp⟩,by simp,zYz (by omega) (by omega),⟨fun x hx=>(by cases hx),fun j hj=>(by cases hj),fun o ho=>(by cases ho)⟩⟩ ?_;rintro k' ⟨l,_⟩ i ⟨rfl,hok⟩ hk';simp only at hk' ⊢;obtain⟨hle,hfr,hin,hrel,hmv⟩:=hok;unfold zV.b2;refine zF (fun hb=>?_) fun hb=>zA h;have hil:i.j<S.length:=by simp only[zgH] at hb;omega
 have hge:S[i.j]?=some S[i.j]:=zgG hil;have hmem:S[i.j]∈S:=zgX hil;generalize S[i.j]=x at hge hmem;have hxr:=hSr x hmem;have hxf:=hfit x hmem;have hDl:=zFM hfr.f2;have hEle:=hfr.le;refine uT ofF zKN (fun w hw=>hS.old hw) hge ?_;refine zD fun o12=>?_;refine yX (b:=o12) (l':=ofF x) ?_;refine yC (b:=o12) (off:=8) (l:=ofF x) (l':=zQ x.g) ?_;refine zD fun tag13=>?_;refine yX (b:=tag13) (l':=zQ x.g) ?_;have nx:∀{Ψ:List zB} (l':Sl) (i':FPx),[Drops Ψ (fpB f sd md m nd l' i' Γ)]→i'.j=i.j+1→zef B S.length i'→HG B Ψ (zV.s4 q (fun list10_2 t39_2=>k' (list10_2,t39_2)) (some ⟨f,0,none⟩) ⟨m,0,none⟩ (some ⟨sd,0,none⟩) (some ⟨md,0,none⟩) l' ss (ss.n:Int) (i.j:Int)):=fun {Ψ} l' i' _ hj hok'=>by
  refine zA (Δ:=fpB f sd md m nd l' i' Γ) ?_;refine zWY hok'.fr.f2 hok'.fr.le (by omega) ?_;exact hk' (l',(i.j:Int)+1) i' ⟨by rw[hj];simp,hok'⟩ (by omega)
 have S3:∀g:zx,HG B (blk tag13 (.cells (zQ g).toArray zN (0,0))::blk o12 (.cells (ofF x).toArray vw (0,0))::fpB f sd md m nd l i Γ) (zV.s3 q (fun list10_2 t39_2=>k' (list10_2,t39_2)) (some ⟨f,0,none⟩) ⟨m,0,none⟩ (some ⟨sd,0,none⟩) (some ⟨md,0,none⟩) l (i.j:Int) ⟨o12,0,none⟩ ⟨tag13,0,none⟩ ss (ss.n:Int) (i.j:Int)):=fun g=>by
  unfold zV.s3;refine zh (b:=o12) (l:=ofF x) (x:=x.a) ?_;refine zAw rfl ?_;generalize hc7:bitsOf .and .i64 x.a 7=c7;refine zF (fun h1=>?_) fun h1=>?_
  ·refine zA (Δ:=qI f nd 3 2 i.ct i.E::zCh sd 2 i.N i.S::dfB m nd i.ct i.s i.D (zCw i.L::DsR md 2 i.X i.P::uN i.P::zAv i.OL::Γ)) ?_;refine zTf hEle fun E' out XL hT hX=>?_;refine uf ?_;refine qc (qI f nd 3 2 i.ct E') ?_;refine zY5 fun hok=>?_;refine qc (DsR md 2 i.X i.P) ?_;refine zc1 fun st lk ls ts js=>?_;refine zh (b:=md) (off:=1) (l:=dsL 2 st lk ls ts i.X.fed i.X.last js) (x:=some ⟨st,0,none⟩) ?_;have hM:=hrel.M;have hml:=hrel.ml;refine zCo (zSF (n:=2) (m:=m) (nd:=nd) (ct:=i.ct) (s:=i.s) (D:=i.D) (st:=st) (M:=i.X.M) (P:=i.P) (L:=i.L) (by omega) (fun w hw d hd=>?_) (fun d hd=>?_) (by rw[hM];omega) fun D' out2 L' hT2 hL=>?_)
   ·exact zFK (zHw (p:=fun _=>True) (q:=fun d:DEn=>zAn B d.tx) (fun a b r _=>r.base) hfr.f2 (fun _ _=>trivial) d hd) hw
   ·exact zHw (p:=fun _=>True) (q:=fun d:DEn=>qC 2 d.tx=true) (fun a b r _=>r.rt) hfr.f2 (fun _ _=>trivial) d hd
   rw[hM] at hT2;obtain⟨k1,k2,k3⟩:=zWW hfr.f2 hL hT hT2 hX hok;have hEE:=zFM hT;have hEX:=zFM hX;have hbase:∀d∈D',zAn B d.tx:=zHw (p:=fun _=>True) (q:=fun d:DEn=>zAn B d.tx) (fun a b r _=>r.base) k1 (fun _ _=>trivial);refine zCo (zHq (md:=md) (n:=2) (st:=st) (lk:=lk) (ls:=ls) (ts:=ts) (js:=js) (X:=i.X) (P:=i.P) ?_);refine zA (Δ:=zCw L'::Sep.stars (XL.map zG2)::SlC zU 10 out (XL.flatMap zCq)::SlC zU 10 out2 (D'.flatMap fun d=>zDA d.o)::qI f nd 3 2 i.ct E'::zCh sd 2 i.N i.S::dfB m nd i.ct i.s D' (DsR md 2 i.X i.P::uN i.P::zAv i.OL::Γ)) ?_;refine zSH (by omega) (zU8 k2 fun _ _ h=>h) (fun w hw=>(zO (s:=out) hw).1) (fun w hw=>(zO (s:=out2) hw).1) (fun w hw y hy=>zc8 hy hw.tail) (fun w hw d hd=>⟨by rw[(k3 d hd).1];exact zFK (hbase d hd) hw,zWX (k3 d hd).2 hw⟩) ?_;refine s_f ?_ (by rfl);exact nx out ⟨i.j+1,E',D',i.ct,i.s,L',i.N,i.S,i.X,i.P,i.OL,XL⟩ rfl ⟨by simp only;omega,⟨k1,by simp only;omega,hfr.c0.1,by have:=hfr.c0.2;simp only;omega⟩,by simp only;omega,hrel,hmv⟩
  ·refine zh (b:=o12) (l:=ofF x) (x:=x.a) ?_;refine zAw rfl ?_;rw[hc7];refine zF (fun h5=>?_) fun h5=>?_
   ·refine yC (b:=o12) (l:=ofF x) (l':=ofF x) ?_;refine zA (Δ:=zCh sd 2 i.N i.S::DsR md 2 i.X i.P::uN i.P::zAv i.OL::qI f nd 3 2 i.ct i.E::dfB m nd i.ct i.s i.D (zCw i.L::SlC zU 10 l (i.XL.flatMap zCq)::Γ)) ?_;refine zWU hxf.2.2.1 (by omega) hin hrel hmv fun S' X' P' OL' hr' hmv'=>?_;exact nx l ⟨i.j+1,i.E,i.D,i.ct,i.s,i.L,i.N+2,S',X',P',OL',i.XL⟩ rfl ⟨by simp only;omega,⟨hfr.f2,hEle,hfr.c0.1,by have:=hfr.c0.2;simp only;omega⟩,by simp only;omega,hr',hmv'⟩
   ·refine yC (b:=o12) (l:=ofF x) (l':=ofF x) ?_;refine yC (b:=tag13) (l:=zQ g) (l':=zQ g) ?_;refine zA (Δ:=qI f nd 3 2 i.ct i.E::dfB m nd i.ct i.s i.D (zCw i.L::zCh sd 2 i.N i.S::DsR md 2 i.X i.P::uN i.P::zAv i.OL::SlC zU 10 l (i.XL.flatMap zCq)::Γ)) ?_;refine zWR hxr hxf (by omega) hfr fun E' D' ct' s' hfr'=>?_;refine s_f ?_ (by rfl);exact nx l ⟨i.j+1,E',D',ct',s',i.L,i.N,i.S,i.X,i.P,i.OL,i.XL⟩ rfl ⟨by simp only;omega,hfr',by simp only;omega,hrel,hmv⟩
 refine uL l ?_;refine yw l fun a1 a2 a3 a4=>?_;rw[zH zCq 10 zDB] at a1;have hln:l.n=i.XL.length:=(zgb (by omega) a1).symm;have S6f:HG B (blk tag13 (.cells (zQ x.g).toArray zN (0,0))::blk o12 (.cells (ofF x).toArray vw (0,0))::fpB f sd md m nd l i Γ) (zV.s6 q (fun list10_2 t39_2=>k' (list10_2,t39_2)) (some ⟨f,0,none⟩) ⟨m,0,none⟩ (some ⟨sd,0,none⟩) (some ⟨md,0,none⟩) l (i.j:Int) ⟨o12,0,none⟩ ⟨tag13,0,none⟩ ss (ss.n:Int) (i.j:Int) false):=by
  unfold zV.s6;refine s_f ?_ (by rfl);exact S3 x.g
 refine zF (fun hl0=>?_) fun hl0=>zA S6f;have hl0:0<l.n:=by simp only[zgH] at hl0;omega
 refine zh (b:=o12) (off:=1) (l:=ofF x) (x:=x.b) ?_;by_cases hb0:0≤x.b;rotate_left
 ·rw[zgU hb0];exact zA S6f
 rw[zga hb0];unfold zV.s6;refine s_t ?_ (by rfl);refine zh (b:=o12) (off:=1) (l:=ofF x) (x:=x.b) ?_;refine zSe (by omega) ?_;obtain⟨b,hbb⟩:=zhr hb0;have hmod:b%l.n<l.n:=Nat.mod_lt _ hl0;refine zAw (e':=((b%l.n:Nat):Int)) (by rw[hbb,Int.ofNat_tmod]) ?_;have hgx:i.XL[b%l.n]?=some (i.XL[b%l.n]'(by omega)):=zgG (by omega);generalize i.XL[b%l.n]'(by omega)=y at hgx;refine uY zCq (L:=i.XL) zDB (by omega) (fun w hw=>(zO (s:=l) hw).1) hgx fun t ht=>?_;refine zBc (cs:=zCq y) (us:=zQ y.1) (fun w hw=>ht w (zO (s:=l) hw).1) (by rw[zDB];omega) ?_;refine yX (b:=tag13) (l:=zQ x.g) (l':=zQ y.1) ?_;exact zA (S3 y.1)
end
end
section
open Go Go.Sep Go.RowKit
abbrev zbe:Sh:=.fld 0 1 (.int .i64) (.fld 1 1 (.sl .str 1) (.fld 2 1 (.sl .str 1) (.fld 3 1 (.sl (.fld 0 1 (.int .i64) (.fld 1 1 .str (.fld 2 1 (.sl (.int .u8) 1) (.fld 3 1 (.int .i64) .nil)))) 4) (.fld 4 1 (.int .i64) .nil))))
theorem zZG{w:World}{cs:Array Value}(hc:cs.size=5)(y:Rdy w zbe (Value.agg cs).cells.toList):∃t:TxX,cs=(txL t).toArray∧zAn w t∧∀x∈t.ops,-9223372036854775808≤x.1.n∧x.1.n≤9223372036854775807:=by
 obtain⟨l⟩:=cs
 match l,hc with
 | [a,b,c,d,e],_=>
  obtain⟨⟨x0,e0,_⟩,⟨rs,e1,_,_,r1,r2⟩,⟨ws,e2,_,_,w1,w2⟩,⟨os,e3,_,_,o1,o2⟩,⟨x4,e4,_⟩,_⟩:=y;cases e0;cases e1;cases e2;cases e3;cases e4
  obtain⟨R,hR⟩:=zOg r1 r2;obtain⟨S,hS⟩:=zOg w1 w2;obtain⟨O,_,hO,hd⟩:=zJr opF (fun x=>RdB w x.2 x.1.val∧-9223372036854775808≤x.1.n∧x.1.n≤9223372036854775807) zAs o1 o2 fun cs hc hr=>zcn hc hr;exact⟨⟨x0,R,S,O,x4,rs,ws,os⟩,rfl,⟨hR,hS,hO,fun x hx=>(hd x hx).1⟩,fun x hx=>(hd x hx).2⟩
theorem zZH{w:World}{cs:List Value}(hc:cs.length=2)(y:Rdy w (.fld 0 1 .bool (.fld 1 1 (.sl (.int .u8) 1) .nil)) cs):∃x:(Bool×List UInt8)×Sl,cs=oF x∧RdB w x.2 x.1.2:=by
 match cs,hc with
 | [a,b],_=>
  obtain⟨⟨x0,e0⟩,⟨s,e1,_,_,h1,h2⟩,_⟩:=y;cases e0;cases e1
  obtain⟨xs,_,h3⟩:=zQw h1 h2;exact⟨((x0,xs),s),rfl,h3⟩
theorem zat{w:World}{cs:List Value}(hc:cs.length=15)(y:Rdy w (.fld 0 1 (.int .i64) (.fld 1 1 (.int .i64) (.fld 2 1 (.int .i64) (.fld 3 5 zbe (.fld 8 4 (.fld 0 3 (.fld 0 1 (.int .i64) (.fld 1 1 (.int .u64) (.fld 2 1 (.int .u64) .nil))) (.fld 3 1 (.int .i64) .nil)) (.fld 12 2 (.fld 0 1 (.int .i64) (.fld 1 1 (.sl (.fld 0 1 .bool (.fld 1 1 (.sl (.int .u8) 1) .nil)) 2) .nil)) (.fld 14 1 .str .nil))))))) cs):∃x:OpF,cs=ofF x∧zSG w x:=by
 match cs,hc with
 | [c0,c1,c2,c3,c4,c5,c6,c7,c8,c9,c10,c11,c12,c13,c14],_=>
  obtain⟨⟨x0,e0,_⟩,⟨x1,e1,_⟩,⟨x2,e2,_⟩,y3,⟨⟨⟨g0,f0,_⟩,⟨g1,f1,_⟩,⟨g2,f2,_⟩,_⟩,⟨g3,f3,_⟩,_⟩,⟨⟨k0,d0,_⟩,⟨os,d1,_,_,o1,o2⟩,_⟩,⟨s14,e14,_⟩,_⟩:=y;cases e0;cases e1;cases e2;cases f0;cases f1;cases f2;cases f3;cases d0;cases d1;cases e14
  obtain⟨t,e,h3,h4⟩:=zZG (cs:=#[c3,c4,c5,c6,c7]) rfl y3;cases e
  obtain⟨O,_,hO,hd⟩:=zJr oF (fun x=>RdB w x.2 x.1.2) zDr o1 o2 fun cs hc hr=>zZH hc hr;obtain⟨l,rfl⟩:=zJt s14;exact⟨⟨x0,x1,x2,t,⟨g0,g1,g2,g3⟩,k0,os,O,l⟩,rfl,h3,hO,hd⟩
theorem zLo(W:World)(n:Int)(_:(Lit.int .i64 n).wf=true)(s1:Sl)(y1:Rdy W zDo (Sl.val s1).cells.toList):
  Calls Tryz.prog 3 #[.int .i64 n,s1.val] W (Ret fun v w'=>v = .bool true∧Below W.heap.size W w'):=by
 obtain⟨h1,h2⟩:=zcV y1;obtain⟨L,_,hL,hd⟩:=zJr ofF (fun x=>zSG W x) zKN h1 h2 fun cs hc hr=>zat hc hr;exact zXX (zN6 (Γ:=[]) hL hd (fun w h=>⟨rfl,h⟩) W (Holds.start W))
end
end Go.Proofs.YtlelhlcjaapkoaaGreat
