/- Texts of the claim DurableStates, one behind the other. -/
import Derived.Test.YtgmbfnboiobeaaaGreatDurableStatesM2
import Derived.Laws.StructEq
set_option linter.all false
set_option maxRecDepth 100000
namespace Go.Proofs.YtgmbfnboiobeaaaGreat
section
open Go Go.Sep
set_option maxHeartbeats 4000000
attribute [local irreducible] G Gp Cx Tx Ex Sx Dx Ox Ax Lx Rx Fx Bx Bj Al Do Ld LdN St StN New zX Ar DoU Rd Rd2 Pu Cd Ite Fv uj vK vH yc xY zAN zAw zBC Ext Dead Dr xK Sv LdS ji RdS zBQ Nn Idx zBR zBS Fld Bld Slc zBT Cat All yR xk vI vL
instance:CB Tryz.prog 11:=⟨by kernel_rfl⟩
instance:CB Tryz.prog 12:=⟨by kernel_rfl⟩
instance:CB Tryz.prog 6:=⟨by kernel_rfl⟩
def zD.s5 (Q:Bool→K) (a:Bool): K :=
 Q a
def zD.s4 (Q:Bool→K) (g i a:Sl) (j:Bool): K :=
 Ite j
  (Q false)
  (Rd Tryz.prog (convert 22 9 (Sl.val a)) Value.string fun b=>
  Rd Tryz.prog (convert 22 9 (Sl.val g)) Value.string fun c=>
  Ite (b.toList == c.toList)
   (zD.s5 Q true)
   (Rd Tryz.prog (convert 22 9 (Sl.val a)) Value.string fun d=>
   Rd Tryz.prog (convert 22 9 (Sl.val i)) Value.string fun f=>
   zD.s5 Q (d.toList == f.toList)))
def zD.s3 (Q:Bool→K) (c a:Sl) (p:Int) (g q:Pt) (r:Bool): K :=
 Ite r
  (Q false)
  (Ar (bitsOf .and .i64 p 7) fun i=>
  qx.call g i<|
  y8.call q a fun j=>
  New 3 #[.int .i64 9,.int .i64 9,.int .i64 9,.int .i64 9] fun k=>
  zw.call g (Sl.mk (some k) 4 4) fun d=>
  Ite ((d).isNone)
   (Q false)
   (New 3 #[.int .i64 0] fun l=>
   zm.call d (Sl.mk (some l) 1 1) 0 fun f s=>
   Ite ((f).isNone)
    (Q false)
    (qM.call f fun b m=>
    Ite (decide (m ≠ 0))
     (zD.s4 Q c a b true)
     (Ite (decide (j = 0))
      (Rd Tryz.prog (convert 22 9 (Sl.val b)) Value.string fun n=>
      Rd Tryz.prog (convert 22 9 (Sl.val a)) Value.string fun o=>
      zD.s4 Q c a b (!(n.toList == o.toList)))
      (zD.s4 Q c a b false)))))
def zD.s2 (Q:Bool→K) (b d:Sl) (f:Int) (c:Pt) (j:Bool): K :=
 Ite j
  (Q false)
  (New 3 #[.int .i64 0] fun g=>
  zm.call c (Sl.mk (some g) 1 1) 0 fun a k=>
  Ite ((a).isNone)
   (zD.s3 Q b d f c a true)
   (y8.call a b fun i=>
   zD.s3 Q b d f c a (decide (i ≠ 0))))
def zD.s1 (Q:Bool→K) (b c:Sl) (d:Int) (g:Bool): K :=
 Ite g
  (Q true)
  (qm.call 262144 fun a i=>
  Ite ((a).isNone)
   (zD.s2 Q b c d a true)
   (qW.call a fun f=>
   zD.s2 Q b c d a (decide (f ≠ 0))))
def zD (a b:Sl) (c:Int) (Q:Bool→K): K :=
 yA.call  fun d=>
 Ite (!d)
  (Q false)
  (Ite (decide ((3000:Int) < (a.n:Int)))
   (zD.s1 Q a b c true)
   (zD.s1 Q a b c (decide ((3000:Int) < (b.n:Int)))))
theorem zAI (r s t Q w) (h:zD r s t Q w):zD.call r s t Q w:=by
 have:JH 1000022 fun D=>D [] (fun C=>∀ u,C [(6,.bool u)] (zD.s5 Q u)):=⟨fun _ h=>⟨_,_,h⟩⟩
 have:JH 21 fun D=>∃ a b c,D [(0,Sl.val a),(1,Sl.val b),(12,Sl.val c)] (fun C=>∀ v,C [(0,Sl.val a),(1,Sl.val b),(12,Sl.val c),(86,.bool v)] (zD.s4 Q a b c v)):=⟨fun _ ⟨_,_,_,h⟩=>⟨_,_,h⟩⟩
 have:JH 10 fun D=>∃ d f g i j,D [(0,Sl.val d),(1,Sl.val f),(2,.int .i64 g),(7,.pointer i),(9,.pointer j)] (fun C=>∀ x,C [(0,Sl.val d),(1,Sl.val f),(2,.int .i64 g),(7,.pointer i),(9,.pointer j),(48,.bool x)] (zD.s3 Q d f g i j x)):=⟨fun _ ⟨_,_,_,_,_,h⟩=>⟨_,_,h⟩⟩
 have:JH 7 fun D=>∃ k l m n,D [(0,Sl.val k),(1,Sl.val l),(2,.int .i64 m),(7,.pointer n)] (fun C=>∀ y,C [(0,Sl.val k),(1,Sl.val l),(2,.int .i64 m),(7,.pointer n),(34,.bool y)] (zD.s2 Q k l m n y)):=⟨fun _ ⟨_,_,_,_,h⟩=>⟨_,_,h⟩⟩
 have:JH 4 fun D=>∃ o p q,D [(0,Sl.val o),(1,Sl.val p),(2,.int .i64 q)] (fun C=>∀ z,C [(0,Sl.val o),(1,Sl.val p),(2,.int .i64 q),(23,.bool z)] (zD.s1 Q o p q z)):=⟨fun _ ⟨_,_,_,h⟩=>⟨_,_,h⟩⟩
 exact zn 99 h Tryz.func3
end
section
open Go Go.Sep
abbrev vE:Sl:=⟨none,0,0⟩
abbrev zJ2 (p:Int) (tb:Nat):List Value:=[.int .u64 p,.pointer (some ⟨tb,0,none⟩)]
abbrev zHN (vb tb rb:Nat) (p:Int) (Γ:List zC):List zC:=blk vb (.cells (zJ2 p tb).toArray zAC (0,0))::blk tb (.cells [.pointer (some ⟨rb,0,none⟩),.int .i64 0].toArray vX (0,0))::blk rb (.cells [vE.val,vE.val].toArray yJ (0,0))::Γ
def zCb (vb:Nat) (p:Int):zC:=ex fun tb:Nat=>ex fun rb:Nat=>Sep.stars (zHN vb tb rb p [])
section
variable {B:World} {Γ Δ:List zC} {k Q:K} {vb:Nat} {p b:Int}
theorem zN9 (h:∀ tb rb,HG B (zHN vb tb rb p Γ) k):HG B (zCb vb p::Γ) k:=zG9 fun tb=>zG9 fun rb=>zFY (h tb rb)
theorem zFe {tb rb:Nat} (h:HG B (zCb vb p::Γ) k):HG B (zHN vb tb rb p Γ) k:=fun w hw=>by
 refine h w ?_
 have h3:Holds B (Sep.stars (zHN vb tb rb p [])::Γ) w:=Holds.flat.2 hw
 exact h3.imp fun g hg=>⟨tb,rb,hg⟩
instance (priority:=high) zOX:Sep.Own vb (zCb vb p::Γ) (zCb vb p) Γ:=⟨.refl _⟩
theorem zId {q:Option Addr→K} (h:∀ vb,HG B (zCb vb 0::Γ) (q (some ⟨vb,0,none⟩))):HG B Γ (qZ.call q):=by
 refine fun w hw=>zAa _ _ ?_
 refine hg hw ?_
 clear hw w
 unfold qZ
 refine fun w hw=>vo _ _ ?_
 refine hg hw ?_
 clear hw w
 unfold yS
 refine uF fun rb=>?_
 refine uF fun tb=>?_
 refine uF fun vb=>?_
 refine xD (Δ:=zHN vb tb rb 0 Γ) ?_
 exact zFe (h vb)
theorem zHO {rb:Nat} {key:Int} {q:Int→Bool→K} (h:HG B (blk rb (.cells [vE.val,vE.val].toArray yJ (0,0))::Γ) (q 0 false)) :
  HG B (blk rb (.cells [vE.val,vE.val].toArray yJ (0,0))::Γ) (ze.call (some ⟨rb,0,none⟩) key q):=by
 refine fun w hw=>xg _ _ _ _ ?_
 refine hg hw ?_
 clear hw w
 unfold ze
 refine zAD ?_
 refine uN (b:=rb) (l:=[vE.val,vE.val]) (x:=vE) ?_
 refine fun w hw=>yK _ _ _ _ _ ?_
 refine hg hw ?_
 clear hw w
 unfold zA
 refine zHq (α:=Int×Int) (fun y=>y = (0,0)) (fun _=>0) rfl fun k' y hy hk'=>?_
 subst hy
 unfold zA.b1
 refine s_f ?_ (by rfl)
 refine s_f ?_ (by rfl)
 exact h
theorem zJ3 {rb kb:Nat} {key:Int} {y:Value} {q:Bool→K} (h:HG B (blk rb (.cells [vE.val,vE.val].toArray yJ (0,0))::blk kb (.cells [.int .i64 key].toArray zAA (0,0))::Γ) (q true)) :
  HG B (blk rb (.cells [vE.val,vE.val].toArray yJ (0,0))::blk kb (.cells [.int .i64 key].toArray zAA (0,0))::Γ) (zB.call (some ⟨rb,0,none⟩) (some ⟨kb,0,none⟩) y q):=by
 refine fun w hw=>vC _ _ _ _ _ ?_
 refine hg hw ?_
 clear hw w
 unfold zB
 refine s_t ?_ (by rfl)
 refine zAD ?_
 refine uN (b:=kb) (l:=[.int .i64 key]) (x:=key) ?_
 refine zHO ?_
 unfold zB.s1
 refine zHq (α:=Option Addr×Int) (fun y=>y = (some ⟨kb,0,none⟩,0)∨y = (none,1)) (fun y=>1 - y.2.toNat) (.inl rfl) fun k' y hy hk'=>?_
 unfold zB.b2
 refine zAD ?_
 refine uN (b:=rb) (l:=[vE.val,vE.val]) (x:=vE) ?_
 rcases hy with rfl | rfl
 ·refine s_t ?_ (by rfl)
  refine uN (b:=rb) (off:=1) (l:=[vE.val,vE.val]) (x:=vE) ?_
  refine s_f ?_ (by rfl)
  unfold zB.s3
  refine s_f ?_ (by rfl)
  refine zMo ?_
  refine uN (b:=rb) (l:=[vE.val,vE.val]) (x:=vE) ?_
  refine s_f ?_ (by rfl)
  unfold zB.s4
  refine s_f ?_ (by rfl)
  refine jR (show IntKind.wrap .i64 (0 + 1) = 1 by rfl) ?_
  exact hk' (none,1) (.inr rfl) (by simp)
 ·refine s_f ?_ (by rfl)
  exact h
theorem zGe {from':Int} {q:Sl→Bool→K} (hno:b < p→HG B (zCb vb p::Γ) (q vE false)) (hyes:p ≤ b→HG B (zCb vb b::Γ) (q vE true)):HG B (zCb vb p::Γ) (yN.call (some ⟨vb,0,none⟩) b from' q):=by
 refine fun w hw=>uM _ _ _ _ _ ?_
 refine hg hw ?_
 clear hw w
 unfold yN
 refine uF fun out=>?_
 refine zBs vb ?_
 refine zN9 fun tb rb=>?_
 refine zAD ?_
 refine uN (b:=vb) (l:=zJ2 p tb) (x:=p) ?_
 refine zA6 (fun hb=>?_) fun hb=>?_
 ·refine zGK (b:=out) (l:=[vE.val]) (l':=[vE.val]) ?_ rfl rfl
  refine uN (b:=out) (l:=[vE.val]) (x:=vE) ?_
  refine xD (Δ:=zHN vb tb rb p Γ) ?_
  exact zFe (hno (by simpa using hb))
 refine zGK (b:=vb) (l:=zJ2 p tb) (l':=zJ2 b tb) ?_ rfl rfl
 refine uN (b:=vb) (off:=1) (l:=zJ2 b tb) (x:=some ⟨tb,0,none⟩) ?_
 refine fun w hw=>x9 _ _ _ _ ?_
 refine hg hw ?_
 clear hw w
 unfold yF
 refine uF fun c2=>?_
 refine uF fun kb=>?_
 refine zJ1 (cs:=[.pointer (some ⟨c2,0,none⟩),.pointer (some ⟨kb,0,none⟩)]) (by kernel_rfl) fun D l r hr hy=>?_
 refine fun w hw=>zDT (xZ _ _ _ _ w ?_) fun v w h=>h.2
 refine hg hw ?_
 clear hw w
 unfold yO
 refine uN (b:=c2) (l:=[.pointer (some ⟨tb,0,none⟩)]) (x:=some ⟨tb,0,none⟩) ?_
 refine zAD ?_
 refine uN (b:=tb) (l:=[.pointer (some ⟨rb,0,none⟩),.int .i64 0]) (x:=some ⟨rb,0,none⟩) ?_
 refine zBs kb ?_
 refine zBs rb ?_
 refine zJ3 ?_
 refine zBs l ?_
 refine zMy ?_
 refine uN (b:=out) (l:=[vE.val]) (x:=vE) ?_
 refine zGK (b:=out) (l:=[vE.val]) (l':=[vE.val]) ?_ rfl rfl
 refine zLA ?_
 refine uN (b:=out) (l:=[vE.val]) (x:=vE) ?_
 refine xD (Δ:=zHN vb tb rb b Γ) ?_
 exact zFe (hyes (by simpa using hb))
def zIe (n:Nat):List UInt8:=1::uD n
theorem zHP {n:Nat} {s:Sl} {q:Bool→K} (hn:n < 18446744073709551616) (hp:p ≤ n) (hr:∀ w,Holds B Γ w→RdB w s (zIe n)) (h:HG B (zCb vb (n:Int)::Γ) (q true)):HG B (zCb vb p::Γ) (zU.call (some ⟨vb,0,none⟩) s q):=by
 refine fun w hw=>zB4 _ _ _ _ ?_
 refine hg hw ?_
 clear hw w
 have hnl:=xP 9 n (by omega)
 unfold zU
 refine zEg (xs:=zIe n) (by unfold zIe; simp; omega) (fun w hw=>hr w hw.tail) fun e=>?_
 refine zDq (b:=1) (rest:=uD n) rfl ?_
 refine s_t ?_ (by rfl)
 refine zEi (n:=n) (rest:=[]) hn (by simp) (by omega) ?_
 refine s_t ?_ (by rfl)
 refine zEh ?_
 rw [if_pos rfl]
 unfold zU.s2
 refine s_t ?_ (by rfl)
 refine zBs vb ?_
 refine zGe (fun h1=>by omega) fun _=>?_
 unfold zU.s1
 exact xD h
end
end
end Go.Proofs.YtgmbfnboiobeaaaGreat
namespace Go.Sep
section
open Go Go.RowKit
section
variable {P:Program} {B:World} {Γ Δ:List zC} {E esz:Nat} {s:Sl} {vs:List Value}
end
end
end Go.Sep
namespace Go.Proofs.YtgmbfnboiobeaaaGreat
section
open Go Go.Sep
abbrev xM:List UInt8:=[108,105,102,101]
abbrev STATE:List UInt8:=[115,116,97,116,101]
def vB (v:Bool):UInt8:=if v then 1 else 0
def qI (ep:Nat) (v:Bool):List UInt8:=uD ep++[vB v]
abbrev kpL (d ep:Nat) (v:Bool) (mb:Nat):List Value:=[.pointer (some ⟨d,0,none⟩),.int .u64 (ep:Int),.bool v,.map (some mb)]
abbrev KpR (kp d ep:Nat) (v:Bool) (mb:Nat):zC:=blk kp (.cells (kpL d ep v mb).toArray zBm (0,0))
def zDz (D:zI) (ep:Nat) (v:Bool):Prop:=D.read xM = (yG (qI ep v),0)∨(ep = 0∧v = false∧D.read xM = ([],60))
theorem zAu {ep:Nat} {v:Bool} (h:ep < 18446744073709551616):(qI ep v).length ≤ 11:=by
 have:=xP 9 ep (by omega)
 unfold qI
 simp; omega
section
variable {B:World} {Γ Δ:List zC} {k:K} {d kp mb:Nat} {D:zI} {n x:List UInt8}
theorem zFf {body:Sl} {q:Int→K} (hD:OkD D) (hx:x.length ≤ 10000) (hcap:body.n ≤ body.c) (hr:∀ w,Holds B Γ w→RdB w body x) (h:OkD (D.save n x).1→HG B (zK d (D.save n x).1::Γ) (q (D.save n x).2)) :
  HG B (zK d D::Γ) (yT.call (some ⟨d,0,none⟩) (bs n) body q):=fun w hw=>zDw hD hx hcap hw hr fun w ho hw=>h ho w hw
theorem zGf {q:Sl→Int→K} {b:List UInt8} (hD:OkD D) (hr:D.read n = (yG b,0)) (hl:(yG b).length ≤ 100000) (hb:b.length ≤ 100000) (h:∀ f,HG B (Bytes zP f b::zK d D::Γ) (q f 0)) :
  HG B (zK d D::Γ) (vG.call (some ⟨d,0,none⟩) (bs n) q):=fun w hw=>by
 refine zAk hD (by rw [hr]; exact hl) hw (fun he=>by rw [hr] at he; exact absurd rfl he) (fun b' f w _ he hw=>?_) fun _ hno=>absurd (by rw [hr]) (hno b)
 rw [hr] at he
 rw [← pack_inj hb he.symm] at hw
 exact h f w hw
theorem zJ4 {q:Sl→Int→K} {e:Int} (hD:OkD D) (hr:D.read n = ([],e)) (he:e ≠ 0) (h:HG B (zK d D::Γ) (q vE e)) :
  HG B (zK d D::Γ) (vG.call (some ⟨d,0,none⟩) (bs n) q):=fun w hw=>by
 refine zAk hD (by rw [hr]; simp) hw (fun _ w hw=>?_) (fun b' f w h0=>?_) fun h0=>?_
 ·rw [hr]; exact h w hw
 ·rw [hr] at h0; exact absurd h0 he
 ·rw [hr] at h0; exact absurd h0 he
theorem zFg {ep:Nat} {v:Bool} {q:Sl→K} (he:ep < 18446744073709551616) (h:∀ s,HG B (Bytes zP s (qI ep v)::Γ) (q s)):HG B Γ (yX.call (ep:Int) v q):=by
 refine fun w hw=>zC6 _ _ _ _ ?_
 refine hg hw ?_
 clear hw w
 have hl:=xP 9 ep (by omega)
 unfold yX
 refine zIS fun p=>?_
 refine zMu (n:=ep) (by omega) (by simp) ?_
 have s1:HG B (zCP p (qI ep v)::Γ) (yX.s1 q ⟨p,0,none⟩):=by
  unfold yX.s1
  refine zK5 (by unfold qI; simp; omega) fun s=>?_
  exact xD (h s)
 cases v
 ·refine s_f ?_ (by rfl)
  exact zHz (b:=0) (by simp; omega) s1
 ·refine s_t ?_ (by rfl)
  exact zHz (b:=1) (by simp; omega) s1
theorem zIf {q:Int→K} (hD:OkD D) (h:OkD (D.save xM (qI 0 true)).1→HG B (zK d (D.save xM (qI 0 true)).1::Γ) (q (D.save xM (qI 0 true)).2)):HG B (zK d D::Γ) (qW.call (some ⟨d,0,none⟩) q):=by
 refine fun w hw=>zB3 _ _ _ ?_
 refine hg hw ?_
 clear hw w
 unfold qW
 refine zFg (ep:=0) (by omega) fun s=>?_
 refine xI (zK d D) ?_
 refine zEc s fun a1 a2 a3 a4=>?_
 refine zFf (n:=xM) hD (by have:=zAu (ep:=0) (v:=true) (by omega); omega) a2 (fun w hw=>(zCM (s:=s) hw).1) fun ho=>?_
 exact xD (h ho)
theorem zJ5 {clock ep:Nat} {v:Bool} {q:Int→K} (hD:OkD D) (hlife:zDz D ep v) (hm:max ep clock < 18446744073709551615)
  (h:OkD (D.save xM (qI (max ep clock + 1) v)).1→HG B (KpR kp d (max ep clock + 1) v mb::zK d (D.save xM (qI (max ep clock + 1) v)).1::Γ) (q (D.save xM (qI (max ep clock + 1) v)).2)) :
  HG B (KpR kp d 0 false mb::zK d D::Γ) (zQ.call (some ⟨kp,0,none⟩) (clock:Int) q):=by
 refine fun w hw=>j4 _ _ _ _ ?_
 refine hg hw ?_
 clear hw w
 have hep:ep < 18446744073709551616:=by omega
 have hl11:=zAu (v:=v) hep
 unfold zQ
 refine zAD ?_
 refine uN (b:=kp) (l:=kpL d 0 false mb) (x:=some ⟨d,0,none⟩) ?_
 have S1:∀ {s:Sl},HG B (Bytes zP s (qI ep v)::KpR kp d 0 false mb::zK d D::Γ) (zQ.s1 q ⟨kp,0,none⟩ (clock:Int) s):=fun {s}=>by
  unfold zQ.s1
  refine zEg (xs:=qI ep v) (by omega) (fun w hw=>(zCM (s:=s) hw).1) fun e=>?_
  refine zEi (n:=ep) (rest:=[vB v]) hep rfl (by omega) ?_
  refine zDq (b:=vB v) (rest:=[]) rfl ?_
  refine jR (show (if (clock:Int) > (ep:Int) then (clock:Int) else (ep:Int)) = ((max ep clock:Nat):Int) by split <;> omega) ?_
  have hv:(vB v).toNat ≤ 1:=by cases v <;> decide
  refine s_f ?_ (by rfl)
  refine s_f ?_ (by rfl)
  refine s_f ?_ (by simp; omega)
  refine zEh ?_
  rw [if_pos rfl]
  unfold zQ.s2
  refine s_f ?_ (by rfl)
  refine s_f ?_ (by simp; omega)
  refine jR (show IntKind.wrap .u64 (((max ep clock:Nat):Int) + 1) = ((max ep clock + 1:Nat):Int) by rw [zAl (by omega) (by omega)]; push_cast; rfl) ?_
  refine zGK (b:=kp) (off:=1) (l:=kpL d 0 false mb) (l':=kpL d (max ep clock + 1) false mb) ?_ rfl rfl
  refine zGK (b:=kp) (off:=2) (l:=kpL d (max ep clock + 1) false mb) (l':=kpL d (max ep clock + 1) v mb) ?_ rfl (by cases v <;> rfl)
  refine zMo ?_
  refine zN5 [KpR kp d (max ep clock + 1) v mb] ?_
  refine zHp (b:=kp) (l:=kpL d (max ep clock + 1) v mb) (x:=some ⟨d,0,none⟩) ?_
  refine zHp (b:=kp) (off:=1) (l:=kpL d (max ep clock + 1) v mb) (x:=((max ep clock + 1:Nat):Int)) ?_
  refine zHp (b:=kp) (off:=2) (l:=kpL d (max ep clock + 1) v mb) (x:=v) ?_
  refine zFg (ep:=max ep clock + 1) (by omega) fun s2=>?_
  refine zN0 ?_
  refine xI (zK d D) ?_
  refine zEc s2 fun a1 a2 a3 a4=>?_
  refine zFf (n:=xM) hD (by have:=zAu (ep:=max ep clock + 1) (v:=v) (by omega); omega) a2 (fun w hw=>(zCM (s:=s2) hw).1) fun ho=>?_
  refine xI (KpR kp d (max ep clock + 1) v mb) ?_
  exact xD (h ho)
 refine xI (zK d D) ?_
 rcases hlife with hr | ⟨rfl,rfl,hr⟩
 ·have hpl:=pk (x:=qI ep v) (by omega)
  refine zGf (n:=xM) hD hr (by omega) (by omega) fun f=>?_
  refine s_f ?_ (by rfl)
  refine s_f ?_ (by rfl)
  refine xD (Δ:=Bytes zP f (qI ep v)::KpR kp d 0 false mb::zK d D::Γ) ?_
  exact S1
 ·refine zJ4 (n:=xM) (e:=60) hD hr (by decide) ?_
  refine s_t ?_ (by rfl)
  refine zFg (ep:=0) (by omega) fun s=>?_
  refine xD (Δ:=Bytes zP s (qI 0 false)::KpR kp d 0 false mb::zK d D::Γ) ?_
  exact S1
end
end
end Go.Proofs.YtgmbfnboiobeaaaGreat
namespace Go.Sep
section
open Go Go.RowKit
section
variable {P:Program}
section
variable {α β:Type} [DecidableEq α] {B w:World} {Γ Δ:List zC} {kt:TypeId} {cel:α→List Value} {cV:β→Value} {k:K}
class zMz (r:Nat) (Γ:List zC) (A:outParam zC) (Δ:outParam (List zC)):Prop where perm:Γ.Perm (A::Δ)
instance (priority:=low) zM7 {r:Nat} {X A:zC} {Γ Δ:List zC} [h:zMz r Γ A Δ]:zMz r (X::Γ) A (X::Δ):=⟨zAr h.perm⟩
instance (priority:=high) zOY {α β:Type} [DecidableEq α] {enc:α→Value} {cV:β→Value} {b r:Nat} {m left:List (α×β)} {cur:Option (α×β)} {Γ:List zC}:zMz r (vD enc cV b r m left cur::Γ) (vD enc cV b r m left cur) Γ:=⟨.refl _⟩
theorem zM0 {α:Type} {vs:List Value} {i:Nat} {c:α→Value} {v:Value} {x:α} {k:α→K} (h:HG B Γ (k x)) [n:zGR vs i v] [e:Cv c v x]:HG B Γ (Ext (.tuple vs.toArray) i c k):=fun w hw=>⟨_,x,rfl,by have:=n.h; rw [zCD] at this; rw [e.h] at this; simpa using this,h w hw⟩
instance zPK {α:Type} {vs:List Value} {i:Nat} {c:α→Value} {v:Value} {x:α} {k:α→K} [n:zGR vs i v] [e:Cv c v x]:Nx B Γ (Ext (.tuple vs.toArray) i c k) Γ (k x):=⟨fun h=>zM0 h⟩
end
end
end
section
open Go Go.RowKit
section
variable {P:Program} {B:World} {Γ Δ:List zC} {α γ:Type}
end
end
end Go.Sep
namespace Go.Proofs.YtgmbfnboiobeaaaGreat
section
open Go Go.Sep
theorem zOA:zAL Tryz.prog jI (.int .i64) zBE:=⟨3,by kernel_rfl,by kernel_rfl⟩
theorem zJ6:zAL Tryz.prog zDb (.int .i64) zAA:=⟨3,by kernel_rfl,by kernel_rfl⟩
def zA9 (g:Int):List UInt8:=[103,u8 (48 + g.toNat)]
def zAM (L:List Nat):Nat:=L.foldl (fun _ x=>x) 0
theorem zD0 (L:List Nat) (x:Nat):zAM (L++[x]) = x:=by simp [zAM]
theorem zJ7 {L:List Nat} {x:Nat} (h:∀ y ∈ L,y ≤ x):zAM L ≤ x:=by
 rcases List.eq_nil_or_concat L with rfl | ⟨L',y,rfl⟩
 ·simp [zAM]
 ·rw [List.concat_eq_append,zD0]; exact h y (by simp)
abbrev zLB (l vb:Nat):List Value:=[.pointer (some ⟨l,0,none⟩),.pointer (some ⟨vb,0,none⟩)]
abbrev zLC (g d l vb:Nat) (W:vJ) (p:Int) (Γ:List zC):List zC:=blk g (.cells (zLB l vb).toArray uJ (0,0))::vP l d W::zCb vb p::Γ
def zHQ (g d:Nat) (W:vJ) (p:Int):zC:=ex fun l:Nat=>ex fun vb:Nat=>Sep.stars (zLC g d l vb W p [])
structure zM1 (W:vJ) (L:List Nat):Prop where
 ok:OkW W
 recs:W.recs = L.map zIe
 srt:L.Pairwise (· ≤ ·)
 lt:∀ x ∈ L,x < 18446744073709551616
section
variable {B:World} {Γ Δ:List zC} {k:K} {d kp mb:Nat} {D D1:zI} {W:vJ} {L:List Nat}
theorem zLD {g l vb:Nat} {p:Int} (h:HG B (zHQ g d W p::Γ) k):HG B (zLC g d l vb W p Γ) k:=fun w hw=>by
 refine h w ?_
 have h3:Holds B (Sep.stars (zLC g d l vb W p [])::Γ) w:=Holds.flat.2 hw
 exact h3.imp fun x hx=>⟨l,vb,hx⟩
instance (priority:=high) zOZ {g:Nat} {p:Int}:Sep.Own g (zHQ g d W p::Γ) (zHQ g d W p) Γ:=⟨.refl _⟩
theorem zM2 {s:Sl} {recs:List (List UInt8)} (h:∀ rs:zDx,rs.map Prod.snd = recs→HG B (SlC zT 1 s (rs.map uf)::Sep.stars (rs.map ug)::Γ) k):HG B (zJy s recs::Γ) k:=zG9 fun rs=>zFY <| zLp fun h1=>h rs h1
theorem zHR {α:Type} {F:α→zC} {l:List α} {x:α} {w:World} (hx:x ∈ l) (h:Holds B (Sep.stars (l.map F)::Γ) w):∃ Δ,Holds B (F x::Δ) w:=by
 obtain ⟨i,hi⟩:=List.getElem?_of_mem hx
 exact ⟨_,zG7 i hi h⟩
theorem zLE {α:Type} {F:α→zC} {A:List α} {x:α} (h:HG B (Sep.stars ((A++[x]).map F)::Γ) k):HG B (F x::Sep.stars (A.map F)::Γ) k:=by
 refine zK2 (A:=A) (C:=[]) ?_ |> fun h=>by rw [List.append_nil] at h; exact h
 exact h
theorem zLq {a b:List UInt8} {q:ByteArray→K} (hl:a.length + b.length ≤ 1000000) (h:HG B Γ (q (bs (a++b)))):HG B Γ (Cat (bs a) (bs b) q):=fun w hw=>⟨bs (a++b),by
 have h1:(bs a).size = a.length:=rfl
 have h2:(bs b).size = b.length:=rfl
 omega,(zH5 a b).symm,h w hw⟩
theorem zJ8 {g:Int} {M:List (Int×Option Addr)} {ep:Nat} {v:Bool} {q:Int→K} (hg0:0 ≤ g) (hg3:g ≤ 3) (hD:OkD D) (hload:(jQ (zA9 g) 40960).load D = (D1,W,0)) (hL:zM1 W L)
  (h:∀ gb,OkD D1→HG B (KpR kp d ep v mb::qH (Value.int .i64) Value.pointer mb (yQ g (some ⟨gb,0,none⟩) M)::zHQ gb d W (zAM L:Nat)::zK d D1::Γ) (q 0)) :
  HG B (KpR kp d ep v mb::qH (Value.int .i64) Value.pointer mb M::zK d D::Γ) (yI.call (some ⟨kp,0,none⟩) g q):=by
 refine fun w hw=>zAH _ _ _ _ ?_
 refine hg hw ?_
 clear hw w
 unfold yI
 refine zAD ?_
 refine uN (b:=kp) (l:=kpL d ep v mb) (x:=some ⟨d,0,none⟩) ?_
 refine jR (show IntKind.wrap .i64 (48 + g) = ((48 + g.toNat:Nat):Int) by rw [wrap64 (by omega) (by omega)]; omega) ?_
 have h32:IntKind.wrap .i32 ((48 + g.toNat:Nat):Int) = ((48 + g.toNat:Nat):Int):=by
  have:g.toNat = 0∨g.toNat = 1∨g.toNat = 2∨g.toNat = 3:=by omega
  rcases this with e | e | e | e <;> rw [e] <;> rfl
 refine jR h32 ?_
 refine fun w hw=>zJx (c:=48 + g.toNat) (by omega) ?_
 refine hg hw ?_
 clear hw w
 refine zLq (a:=[103]) (b:=[u8 (48 + g.toNat)]) (by simp) ?_
 show HG B _ (xA.call (some ⟨d,0,none⟩) (bs (zA9 g)) 40960 _)
 refine xI (zK d D) ?_
 refine fun w hw=>zEI (name:=zA9 g) (size:=40960) (by unfold zA9; simp) (by omega) hD hw (fun _ l w hD1 hw=>?_) fun hne=>?_
 rotate_left
 ·rw [hload] at hne; exact absurd rfl hne
 rw [hload] at hw hD1
 simp only at hw hD1
 refine hg hw ?_
 clear hw w
 refine s_f ?_ (by rfl)
 refine zId fun vb=>?_
 refine uF fun gb=>?_
 refine xI (vP l d W) ?_
 have hsm:∀ r ∈ W.recs,r.length ≤ 1000000:=fun r hr=>by
  rw [hL.recs] at hr
  obtain ⟨x,hx,rfl⟩:=List.mem_map.1 hr
  have:=xP 9 x (by have:=hL.lt x hx; omega)
  unfold zIe; simp; omega
 refine fun w hw=>zCa hL.ok hsm hw fun s w hw=>?_
 refine hg hw ?_
 clear hw w
 refine zM2 fun rs hrs=>?_
 rw [hL.recs] at hrs
 have hlen:rs.length = L.length:=by have:=congrArg List.length hrs; simpa using this
 have hrl:=hL.ok.few
 rw [hL.recs,List.length_map] at hrl
 refine zEc s fun c1 c2 c3 c4=>?_
 rw [List.length_map,Nat.mul_one] at c1
 refine xD (Δ:=zCb vb 0::SlC zT 1 s (rs.map uf)::Sep.stars (rs.map ug)::blk gb (.cells (zLB l vb).toArray uJ (0,0))::vP l d W::KpR kp d ep v mb::qH (Value.int .i64) Value.pointer mb M::zK d D1::Γ) ?_
 refine zCN (α:=Int) (ι:=Nat) (fun y i=>y = (i:Int)∧i ≤ L.length) (fun y i=>zCb vb ((zAM (L.take i):Nat):Int)::SlC zT 1 s (rs.map uf)::Sep.stars (rs.map ug)::blk gb (.cells (zLB l vb).toArray uJ (0,0))::vP l d W::KpR kp d ep v mb::qH (Value.int .i64) Value.pointer mb M::zK d D1::Γ) (fun y i=>L.length - i) 0 ⟨rfl,Nat.zero_le _⟩ ?_ (by simp [zAM])
 rintro k' _ i ⟨rfl,hi⟩ hk'
 unfold yI.b1
 refine zA6 (fun hb=>?_) fun hb=>?_
 ·have hil:i < L.length:=by simp only [decide_eq_true_eq] at hb; omega
  have hgr:rs[i]? = some rs[i]:=List.getElem?_eq_getElem (by omega)
  have hmr:rs[i] ∈ rs:=List.getElem_mem (by omega)
  have hrec:(rs[i]).2 = zIe L[i]:=by
   have:=congrArg (·[i]?) hrs
   simp only [List.getElem?_map,hgr,List.getElem?_eq_getElem hil,Option.map_some,Option.some.injEq] at this
   exact this
  have htk:L.take (i + 1) = L.take i++[L[i]]:=List.take_succ_eq_append_getElem hil
  have hlt:=hL.lt L[i] (List.getElem_mem hil)
  have hle:zAM (L.take i) ≤ L[i]:=zJ7 fun y hy=>by
   have h1:=hL.srt
   rw [← List.take_append_drop i L,List.pairwise_append] at h1
   exact h1.2.2 y hy L[i] (by rw [List.drop_eq_getElem_cons hil]; exact List.mem_cons_self)
  generalize rs[i] = r at hgr hmr hrec
  refine zDl (c:=Sl.val) (L:=rs.map Prod.fst) (j:=i) (x:=r.1) (fun w hw=>by rw [List.map_map]; exact (zCM (s:=s) hw).1) (by rw [List.getElem?_map,hgr]; rfl) ?_
  refine uN (b:=gb) (off:=1) (l:=zLB l vb) (x:=some ⟨vb,0,none⟩) ?_
  refine zHP (n:=L[i]) hlt (by omega) (fun w hw=>?_) ?_
  ·obtain ⟨Δ,hd⟩:=zHR (Γ:=[]) (F:=ug) hmr (hw.drops (Δ:=[Sep.stars (rs.map ug)]))
   rw [← hrec]
   exact Bytes.rd hd List.mem_cons_self
  refine s_f ?_ (by rfl)
  refine zJk ?_
  have:=hk' ((i:Int) + 1) (i + 1) ⟨by simp,hil⟩ (by omega)
  rw [htk,zD0] at this
  exact this
 ·have hil:i = L.length:=by simp only [decide_eq_false_iff_not] at hb; omega
  rw [hil,List.take_length]
  refine uN (b:=kp) (off:=3) (l:=kpL d ep v mb) (x:=some mb) ?_
  refine zLt (b:=mb) (m:=M) (a:=g) (cV:=Value.pointer) (enc:=Value.int .i64) (v:=some ⟨gb,0,none⟩) (cG:=Value.pointer) rfl zOA (zBu .i64) ?_
  refine xD (Δ:=zLC gb d l vb W ((zAM L:Nat):Int) (KpR kp d ep v mb::qH (Value.int .i64) Value.pointer mb (yQ g (some ⟨gb,0,none⟩) M)::zK d D1::Γ)) ?_
  refine zLD ?_
  exact xD (h gb hD1)
abbrev zGg (d:Nat) (Wf:Int→vJ) (Lf:Int→List Nat) (G:List (Int×Nat)):zC:=Sep.stars (G.map fun p=>zHQ p.2 d (Wf p.1) ((zAM (Lf p.1):Nat):Int))
abbrev zGh (G:List (Int×Nat)):List (Int×Option Addr):=G.map fun p=>(p.1,some ⟨p.2,0,none⟩)
theorem zJ9 {G:List (Int×Nat)} {g:Int} (h:g ∉ G.map Prod.fst):za g (zGh G) = none:=by
 induction G with
 | nil=>rfl
 | cons p G ih=>
  simp only [List.map_cons,List.mem_cons,not_or] at h
  simp only [zGh,List.map_cons,za]
  rw [if_neg h.1]
  exact ih h.2
theorem zLF {gs:List Int} {s:Sl} {clock ep:Nat} {v:Bool} {Wf:Int→vJ} {Lf:Int→List Nat} {q:Option Addr→Int→K}
  (hgs:∀ g ∈ gs,0 ≤ g∧g ≤ 3) (hnd:gs.Nodup) (hl:gs.length ≤ 2) (hr:∀ w,Holds B Γ w→RdC w s 1 (gs.map (Value.int .i64))) (hD:OkD D) (hlife:zDz D ep v) (hm:max ep clock < 18446744073709551615)
  (hload:(D.save xM (qI (max ep clock + 1) v)).2 = 0→∀ g ∈ gs,(jQ (zA9 g) 40960).load (D.save xM (qI (max ep clock + 1) v)).1 = ((D.save xM (qI (max ep clock + 1) v)).1,Wf g,0)∧zM1 (Wf g) (Lf g))
  (hbad:(D.save xM (qI (max ep clock + 1) v)).2 ≠ 0→OkD (D.save xM (qI (max ep clock + 1) v)).1→HG B (zK d (D.save xM (qI (max ep clock + 1) v)).1::Γ) (q none (D.save xM (qI (max ep clock + 1) v)).2))
  (hok:∀ kp mb G,(D.save xM (qI (max ep clock + 1) v)).2 = 0→OkD (D.save xM (qI (max ep clock + 1) v)).1→G.map Prod.fst = gs →
   HG B (KpR kp d (max ep clock + 1) v mb::qH (Value.int .i64) Value.pointer mb (zGh G)::zGg d Wf Lf G::zK d (D.save xM (qI (max ep clock + 1) v)).1::Γ) (q (some ⟨kp,0,none⟩) 0)) :
  HG B (zK d D::Γ) (zm.call (some ⟨d,0,none⟩) s (clock:Int) q):=fun w hw=>by
 refine zC5 _ _ _ _ _ ?_
 have hsn:s.n = gs.length:=by have:=(hr w hw.tail).len; rw [List.length_map] at this; omega
 refine hg hw ?_
 clear hw w
 unfold zm
 refine zHu (enc:=Value.int .i64) (cV:=Value.int .i64) fun sb=>?_
 refine zCN (α:=Int) (ι:=Nat×List (Int×Int)) (fun y i=>y = (i.1:Int)∧i.1 ≤ gs.length∧∀ g,za g i.2 = if g ∈ gs.take i.1 then some 1 else none) (fun y i=>qH (Value.int .i64) (Value.int .i64) sb i.2::zK d D::Γ) (fun y i=>gs.length - i.1) (0,[]) ⟨rfl,Nat.zero_le _,fun g=>by simp [za]⟩ ?_
 rintro k' _ ⟨i,M⟩ ⟨rfl,hi,hM⟩ hk'
 simp only at hi hM hk' ⊢
 unfold zm.b1
 refine zA6 (fun hb=>?_) fun hb=>?_
 ·have hil:i < gs.length:=by simp only [decide_eq_true_eq] at hb; omega
  have hge:gs[i]? = some gs[i]:=List.getElem?_eq_getElem hil
  have htk:gs.take (i + 1) = gs.take i++[gs[i]]:=List.take_succ_eq_append_getElem hil
  have hno:gs[i] ∉ gs.take i:=fun hm=>by
   have h1:=hnd
   rw [← List.take_append_drop i gs] at h1
   exact (List.nodup_append.1 h1).2.2 _ hm _ (by rw [List.drop_eq_getElem_cons hil]; exact List.mem_cons_self) rfl
  obtain ⟨g0,g3⟩:=hgs _ (List.getElem_mem hil)
  generalize gs[i] = g at hge htk hno g0 g3
  refine zDl (L:=gs) (c:=Value.int .i64) (j:=i) (x:=g) (fun w hw=>hr w (hw.drops (Δ:=Γ))) hge ?_
  refine zHv (b:=sb) (m:=M) (a:=g) (cV:=Value.int .i64) (cG:=Value.int .i64) (g:=id) (z:=(0:Int)) (enc:=Value.int .i64) (fun _=>rfl) zJ6 (zBu .i64) zCk ?_
  rw [hM g,if_neg hno,Option.getD_none]
  refine jR (show IntKind.wrap .i64 (id (0:Int) + 1) = 1 by rfl) ?_
  refine zLt (b:=sb) (m:=M) (a:=g) (cV:=Value.int .i64) (enc:=Value.int .i64) (v:=(1:Int)) (cG:=Value.int .i64) rfl zJ6 (zBu .i64) ?_
  refine s_f ?_ (by simp; omega)
  refine s_f ?_ (by simp; omega)
  refine zHv (b:=sb) (m:=yQ g 1 M) (a:=g) (cV:=Value.int .i64) (cG:=Value.int .i64) (g:=id) (z:=(0:Int)) (enc:=Value.int .i64) (fun _=>rfl) zJ6 (zBu .i64) zCk ?_
  rw [qz,if_pos rfl,Option.getD_some]
  refine s_f ?_ (by rfl)
  rw [show decide ((2:Int) < (s.n:Int)) = false by simp; omega]
  unfold zm.s2
  refine s_f ?_ (by rfl)
  refine zJk ?_
  refine hk' ((i:Int) + 1) (i + 1,yQ g 1 M) ⟨by simp,hil,fun x=>?_⟩ (by simp only; omega)
  simp only
  rw [qz,htk]
  by_cases e:x = g
  ·rw [if_pos e,if_pos (by simp [e])]
  ·rw [if_neg e,hM x]
   simp [e]
 refine xD (Δ:=zK d D::Γ) ?_
 refine zHu (enc:=Value.int .i64) (cV:=Value.pointer) fun mb=>?_
 refine uF fun kp=>?_
 refine xD (Δ:=KpR kp d 0 false mb::zK d D::qH (Value.int .i64) Value.pointer mb ([]:List (Int×Option Addr))::Γ) ?_
 refine zJ5 hD hlife hm fun ho=>?_
 generalize hS:D.save xM (qI (max ep clock + 1) v) = S at hload hbad hok ho ⊢
 obtain ⟨D1,e⟩:=S
 simp only at hload hbad hok ho ⊢
 by_cases he:e = 0
 rotate_left
 ·refine s_t ?_ (by simpa using he)
  exact xD (hbad he ho)
 subst he
 refine s_f ?_ (by rfl)
 have hload:=hload rfl
 refine fun w hw=>hg (show Holds B (zGg d Wf Lf []::_) w from hw.jh) ?_
 clear hw w
 refine xD (Δ:=KpR kp d (max ep clock + 1) v mb::qH (Value.int .i64) Value.pointer mb ([]:List (Int×Option Addr))::zK d D1::zGg d Wf Lf []::Γ) ?_
 refine zCN (α:=Int) (ι:=Nat×List (Int×Nat)) (fun y i=>y = (i.1:Int)∧i.1 ≤ gs.length∧i.2.map Prod.fst = gs.take i.1) (fun y i=>KpR kp d (max ep clock + 1) v mb::qH (Value.int .i64) Value.pointer mb (zGh i.2)::zK d D1::zGg d Wf Lf i.2::Γ) (fun y i=>gs.length - i.1) (0,[]) ⟨rfl,Nat.zero_le _,rfl⟩ ?_
 rintro k2 _ ⟨i2,G⟩ ⟨rfl,hi2,hG⟩ hk2
 simp only at hi2 hG hk2 ⊢
 unfold zm.b3
 refine zA6 (fun hb2=>?_) fun hb2=>?_
 ·have hil:i2 < gs.length:=by simp only [decide_eq_true_eq] at hb2; omega
  have hge:gs[i2]? = some gs[i2]:=List.getElem?_eq_getElem hil
  have hmem:gs[i2] ∈ gs:=List.getElem_mem hil
  have htk:gs.take (i2 + 1) = gs.take i2++[gs[i2]]:=List.take_succ_eq_append_getElem hil
  have hno:gs[i2] ∉ gs.take i2:=fun hm=>by
   have h1:=hnd
   rw [← List.take_append_drop i2 gs] at h1
   exact (List.nodup_append.1 h1).2.2 _ hm _ (by rw [List.drop_eq_getElem_cons hil]; exact List.mem_cons_self) rfl
  obtain ⟨g0,g3⟩:=hgs _ hmem
  obtain ⟨ld1,ld2⟩:=hload _ hmem
  generalize gs[i2] = g at hge htk hno g0 g3 ld1 ld2
  refine zDl (L:=gs) (c:=Value.int .i64) (j:=i2) (x:=g) (fun w hw=>hr w (hw.drops (Δ:=Γ))) hge ?_
  refine zJ8 (D1:=D1) (W:=Wf g) (L:=Lf g) g0 g3 ho ld1 ld2 fun gb _=>?_
  refine s_f ?_ (by rfl)
  refine zJk ?_
  rw [vU (zJ9 (by rw [hG]; exact hno))]
  refine xD (Δ:=zHQ gb d (Wf g) ((zAM (Lf g):Nat):Int)::zGg d Wf Lf G::KpR kp d (max ep clock + 1) v mb::qH (Value.int .i64) Value.pointer mb (zGh G++[(g,some ⟨gb,0,none⟩)])::zK d D1::Γ) ?_
  have:=hk2 ((i2:Int) + 1) (i2 + 1,G++[(g,gb)]) ⟨by simp,hil,by rw [List.map_append,hG,htk]; rfl⟩ (by simp only; omega)
  refine zLE (F:=fun p:Int×Nat=>zHQ p.2 d (Wf p.1) ((zAM (Lf p.1):Nat):Int)) (A:=G) (x:=(g,gb)) ?_
  rw [show zGh G++[(g,some ⟨gb,0,none⟩)] = zGh (G++[(g,gb)]) by simp [zGh]]
  exact xD this
 ·have hil:i2 = gs.length:=by simp only [decide_eq_false_iff_not] at hb2; omega
  rw [hil,List.take_length] at hG
  exact xD (hok kp mb G rfl ho hG)
end
end
section
open Go Go.Sep
theorem zD1 {n n':List UInt8} (hn:n' ≠ n):∀ fs:Files,za n' (xJ n fs) = za n' fs
 | []=>rfl
 | p::fs=>by
  unfold xJ
  split
  ·rename_i h
   rw [za,if_neg (by rw [← h]; exact hn)]
  ·simp only [za]
   split
   ·rfl
   ·exact zD1 hn fs
theorem zD2 {n:List UInt8} {p:List UInt8×qP}:∀ {fs:Files},p ∈ xJ n fs→p ∈ fs
 | [],h=>h
 | x::fs,h=>by
  unfold xJ at h
  split at h
  ·exact List.mem_cons_of_mem _ h
  ·rcases List.mem_cons.1 h with rfl | h
   ·exact List.mem_cons_self
   ·exact List.mem_cons_of_mem _ (zD2 h)
theorem zAv {n:List UInt8} {v:qP} {p:List UInt8×qP}:∀ {fs:Files},p ∈ yQ n v fs→p = (n,v)∨p ∈ fs
 | [],h=>.inl (by simpa [yQ] using h)
 | x::fs,h=>by
  unfold yQ at h
  split at h
  ·rcases List.mem_cons.1 h with rfl | h
   ·exact .inl rfl
   ·exact .inr (List.mem_cons_of_mem _ h)
  ·rcases List.mem_cons.1 h with rfl | h
   ·exact .inr List.mem_cons_self
   ·exact (zAv h).imp id (List.mem_cons_of_mem _)
theorem zDK (a:DkA) (hd:a.down = false):(chg a).1.room = a.room∧((chg a).2 = 0∧(chg a).1.down = false∨(chg a).2 = 3∧(chg a).1.down = true):=by
 unfold chg
 split
 ·exact ⟨rfl,.inr ⟨rfl,rfl⟩⟩
 split
 ·exact ⟨rfl,.inl ⟨rfl,hd⟩⟩
 ·exact ⟨rfl,.inl ⟨rfl,hd⟩⟩
def sfF (x:List UInt8):qP:=⟨yG x,(yG x).length⟩
structure Saved (D:zI) (n x:List UInt8) (R:zI×Int):Prop where
 room:R.1.a.room = D.a.room
 two:(R.2 = 0∧za n R.1.files = some (sfF x)∧R.1.a.down = false)∨(R.2 = 3∧za n R.1.files = za n D.files∧R.1.a.down = true)
 oth:∀ m,m ≠ n→m ≠ zk n→za m R.1.files = za m D.files
 mem:∀ p ∈ R.1.files,p ∈ D.files∨((p.1 = n∨p.1 = zk n)∧p.2.data = yG x)
theorem zKA (n:List UInt8):n ≠ zk n:=fun h=>by have:=congrArg List.length h; simp [zk] at this
theorem zGi {D:zI} {n x:List UInt8} (hD:OkD D) (hd:D.a.down = false) (hn:1 ≤ n.length∧n.length ≤ 15) (hf:D.files.length < 32) (hr:(yt D.files:Int) + (yG x).length ≤ D.a.room):Saved D n x (D.save n x):=by
 have hne:=zKA n
 have hn0:n ≠ []:=fun h=>by rw [h] at hn; simp at hn
 have hnn:named n = true:=by unfold named; simp [hn0]; omega
 have hnx:named (zk n) = true:=by unfold named zk; simp; omega
 unfold zI.save
 rw [if_neg (by
         rintro (h | h); · exact hn0 h
         ·omega)]
 have h0:∀ E:zI,OkD E→E.a.down = false→E.a.room = D.a.room→E.files.length < 32→(yt E.files:Int) ≤ yt D.files→za (zk n) E.files = none→(∀ m,m ≠ zk n→za m E.files = za m D.files)→(∀ p ∈ E.files,p ∈ D.files)→Saved D n x (zGb E n x):=by
  intro E hE e1 e2 e3 e4 e5 e6 e7
  obtain ⟨c1,c2⟩:=zDK E.a e1
  unfold zGb
  have hap:E.append (zk n) (yG x) = (⟨(chg E.a).1,yQ (zk n) ⟨yG x,0⟩ E.files⟩,(chg E.a).2):=by
   unfold zI.append
   rw [if_neg (by rw [e1]; decide),if_neg (by rw [hnx]; decide),if_neg (by rw [e2]; omega),e5]
   rfl
  rw [hap]
  have oth1:∀ (v:qP) m,m ≠ n→m ≠ zk n→za m (yQ (zk n) v E.files) = za m D.files:=fun v m h1 h2=>by rw [qz,if_neg h2]; exact e6 m h2
  have mem1:∀ (v:qP),v.data = yG x→∀ p ∈ yQ (zk n) v E.files,p ∈ D.files∨((p.1 = n∨p.1 = zk n)∧p.2.data = yG x):=fun v hv p hp=>by
   rcases zAv hp with rfl | hp
   ·exact .inr ⟨.inr rfl,hv⟩
   ·exact .inl (e7 p hp)
  rcases c2 with ⟨c2,c3⟩ | ⟨c2,c3⟩
  rotate_left
  ·rw [if_pos (by rw [c2]; decide)]
   exact ⟨by simp only; rw [c1,e2],.inr ⟨c2,by simp only; rw [qz,if_neg hne]; exact e6 n hne,c3⟩,oth1 _,mem1 _ rfl⟩
  rw [if_neg (by rw [c2]; decide)]
  simp only
  unfold zH4
  obtain ⟨d1,d2⟩:=zDK (chg E.a).1 c3
  have hsy:(⟨(chg E.a).1,yQ (zk n) ⟨yG x,0⟩ E.files⟩:zI).sync (zk n) = (⟨(chg (chg E.a).1).1,if (chg (chg E.a).1).2 = 0 then yQ (zk n) (sfF x) (yQ (zk n) ⟨yG x,0⟩ E.files) else yQ (zk n) ⟨yG x,0⟩ E.files⟩,(chg (chg E.a).1).2):=by
   unfold zI.sync
   rw [if_neg (by simp only; rw [c3]; decide)]
   simp only
   rw [qz,if_pos rfl]
   rfl
  rw [hsy]
  rcases d2 with ⟨d2,d3⟩ | ⟨d2,d3⟩
  rotate_left
  ·rw [if_pos (by simp only; rw [d2]; decide)]
   rw [if_neg (by rw [d2]; decide)]
   exact ⟨by simp only; rw [d1,c1,e2],.inr ⟨d2,by simp only; rw [qz,if_neg hne]; exact e6 n hne,d3⟩,oth1 _,mem1 _ rfl⟩
  rw [if_neg (by simp only; rw [d2]; decide)]
  simp only
  rw [if_pos d2]
  unfold zJw
  obtain ⟨f1,f2⟩:=zDK (chg (chg E.a).1).1 d3
  have hrn:(⟨(chg (chg E.a).1).1,yQ (zk n) (sfF x) (yQ (zk n) ⟨yG x,0⟩ E.files)⟩:zI).rename (zk n) n = (⟨(chg (chg (chg E.a).1).1).1,if (chg (chg (chg E.a).1).1).2 = 0 then yQ n (sfF x) (xJ (zk n) (yQ (zk n) (sfF x) (yQ (zk n) ⟨yG x,0⟩ E.files))) else yQ (zk n) (sfF x) (yQ (zk n) ⟨yG x,0⟩ E.files)⟩,(chg (chg (chg E.a).1).1).2):=by
   unfold zI.rename
   rw [if_neg (by simp only; rw [d3]; decide)]
   simp only
   rw [qz,if_pos rfl]
   simp only
   rw [if_neg (by rw [hnn]; decide)]
  rw [hrn]
  have oth2:∀ m,m ≠ n→m ≠ zk n→za m (yQ (zk n) (sfF x) (yQ (zk n) ⟨yG x,0⟩ E.files)) = za m D.files:=fun m h1 h2=>by rw [qz,if_neg h2]; exact oth1 _ m h1 h2
  have mem2:∀ p ∈ yQ (zk n) (sfF x) (yQ (zk n) ⟨yG x,0⟩ E.files),p ∈ D.files∨((p.1 = n∨p.1 = zk n)∧p.2.data = yG x):=fun p hp=>by
   rcases zAv hp with rfl | hp
   ·exact .inr ⟨.inr rfl,rfl⟩
   ·exact mem1 _ rfl p hp
  rcases f2 with ⟨f2,f3⟩ | ⟨f2,f3⟩
  rotate_left
  ·rw [if_neg (by rw [f2]; decide)]
   exact ⟨by simp only; rw [f1,d1,c1,e2],.inr ⟨f2,by simp only; rw [qz,if_neg hne,qz,if_neg hne]; exact e6 n hne,f3⟩,oth2,mem2⟩
  rw [if_pos f2]
  refine ⟨by simp only; rw [f1,d1,c1,e2],.inl ⟨f2,by simp only; rw [qz,if_pos rfl],f3⟩,fun m h1 h2=>?_,fun p hp=>?_⟩
  ·simp only
   rw [qz,if_neg h1,zD1 h2]
   exact oth2 m h1 h2
  ·simp only at hp
   rcases zAv hp with rfl | hp
   ·exact .inr ⟨.inl rfl,rfl⟩
   ·exact mem2 p (zD2 hp)
 cases hm:za (zk n) D.files with
 | none=>
  have hrm:D.remove (zk n) = (D,60):=by unfold zI.remove; rw [if_neg (by rw [hd]; decide),hm]
  rw [hrm,if_neg (by simp)]
  exact h0 D hD hd rfl hf (Int.le_refl _) hm (fun _ _=>rfl) fun p hp=>hp
 | some f=>
  obtain ⟨c1,c2⟩:=zDK D.a hd
  have hrm:D.remove (zk n) = (⟨(chg D.a).1,if (chg D.a).2 = 0 then xJ (zk n) D.files else D.files⟩,(chg D.a).2):=by unfold zI.remove; rw [if_neg (by rw [hd]; decide),hm]
  rw [hrm]
  rcases c2 with ⟨c2,c3⟩ | ⟨c2,c3⟩
  ·rw [if_neg (by rw [c2]; simp),if_pos c2]
   obtain ⟨g1,g2,g3,g4⟩:=hD.del hm
   refine h0 _ (OkD.chg g1) c3 c1 ?_ ?_ g2 (fun m hmn=>zD1 hmn _) fun p hp=>zD2 hp
   ·simp only; omega
   ·simp only; omega
  ·rw [if_pos (by rw [c2]; decide)]
   rw [if_neg (by rw [c2]; decide)]
   exact ⟨c1,.inr ⟨c2,rfl,c3⟩,fun _ _ _=>rfl,fun p hp=>.inl hp⟩
end
section
open Go Go.Sep
theorem zD3 {α:Type} [DecidableEq α]:∀ {l S:List α},l.Nodup→(∀ x ∈ l,x ∈ S)→l.length ≤ S.length
 | [],_,_,_=>Nat.zero_le _
 | x::l,S,hn,h=>by
  obtain ⟨h1,h2⟩:=List.nodup_cons.1 hn
  have hx:=h x List.mem_cons_self
  have h3:=zD3 (l:=l) (S:=S.erase x) h2 fun y hy=>(List.mem_erase_of_ne (fun e=>h1 (by rw [← e]; exact hy))).2 (h y (List.mem_cons_of_mem _ hy))
  rw [List.length_erase_of_mem hx] at h3
  have:=List.length_pos_of_mem hx
  simp only [List.length_cons]; omega
def zCc (D:zI) (S:List (List UInt8)) (b:Nat):Prop:=∀ p ∈ D.files,p.1 ∈ S∧p.2.data.length ≤ b
theorem zB5 {D:zI} {S:List (List UInt8)} {b:Nat} (hD:OkD D) (h:zCc D S b):D.files.length ≤ S.length∧yt D.files ≤ b * S.length:=by
 have h1:D.files.length ≤ S.length:=by
  have:=zD3 hD.nodup fun x hx=>by obtain ⟨p,hp,rfl⟩:=List.mem_map.1 hx; exact (h p hp).1
  simpa using this
 have h2:∀ fs:Files,(∀ p ∈ fs,p.2.data.length ≤ b)→yt fs ≤ b * fs.length:=by
  intro fs
  induction fs with
  | nil=>intro _; simp [yt]
  | cons p fs ih=>
   intro hp
   have a1:=hp p List.mem_cons_self
   have a2:=ih fun y hy=>hp y (List.mem_cons_of_mem _ hy)
   simp only [yt,List.length_cons]
   rw [Nat.mul_succ]; omega
 have h3:=h2 D.files fun p hp=>(h p hp).2
 have h4:b * D.files.length ≤ b * S.length:=Nat.mul_le_mul_left _ h1
 exact ⟨h1,by omega⟩
theorem zHS {fs:Files} {n:List UInt8} (h:∀ p ∈ fs,p.1 ≠ n):za n fs = none:=by
 induction fs with
 | nil=>rfl
 | cons p fs ih=>
  simp only [za]
  rw [if_neg (fun e=>h p List.mem_cons_self e.symm)]
  exact ih fun y hy=>h y (List.mem_cons_of_mem _ hy)
theorem Saved.bnd {D:zI} {n x:List UInt8} {R:zI×Int} {S:List (List UInt8)} {b:Nat} (h:Saved D n x R) (hb:zCc D S b) (h1:n ∈ S) (h2:zk n ∈ S) (h3:(yG x).length ≤ b):zCc R.1 S b:=fun p hp=>by
 rcases h.mem p hp with hp | ⟨hp,hd⟩
 ·exact hb p hp
 ·refine ⟨?_,by rw [hd]; exact h3⟩
  rcases hp with hp | hp <;> rw [hp] <;> assumption
theorem zIg {D:zI} {S:List (List UInt8)} {b:Nat} (ks:List Int) (hb:zCc D S b):zCc (D.crash ks) S b:=fun p hp=>by
 have hp:p ∈ qw ks D.file D.names:=hp
 unfold qw at hp
 obtain ⟨⟨n,i⟩,hi,rfl⟩:=List.mem_map.1 hp
 have hn:n ∈ D.names:=(List.mem_zipIdx hi).2.2 ▸ List.getElem_mem _
 obtain ⟨y,hy⟩:=jw (zCX.1 hn)
 have hm:=hb _ (zDu hy)
 refine ⟨hm.1,?_⟩
 have hf:D.file n = y:=by unfold zI.file; rw [hy]; rfl
 simp only [xV,hf,List.length_take]
 have:=hm.2
 simp only at this
 omega
theorem zGj {D:zI} (hD:OkD D) (ks:List Int) {n x:List UInt8} (h:za n D.files = some (sfF x)):za n (D.crash ks).files = some (sfF x):=by
 obtain ⟨i,hi⟩:=zHL hD ks h
 rw [hi,zGd ks i rfl]
theorem zEv {D:zI} {name:List UInt8} (hd:D.a.down = false):∀ f part:Nat,part + f ≤ 10→(∀ i,part ≤ i→i ≤ 9→za (yZ name i) D.files = none)→zB1 name f part D = (D,0)
 | 0,_,_,_=>rfl
 | f + 1,part,hp,hn=>by
  have h1:D.remove (yZ name (part + f)) = (D,60):=by
   unfold zI.remove
   rw [if_neg (by rw [hd]; decide),hn _ (by omega) (by omega)]
  unfold zB1
  rw [h1,if_neg (by simp)]
  exact zEv hd f part (by omega) hn
theorem zIh {D:zI} {name:List UInt8} {size:Int} (hd:D.a.down = false) (hn:∀ i,i ≤ 9→za (yZ name i) D.files = none):(jQ name size).load D = (D,jQ name size,0):=by
 have h1:D.read (yZ name 0) = ([],60):=by
  unfold zI.read
  rw [if_neg (by rw [hd]; decide),hn 0 (by omega)]
 have h2:vw name 10 0 D (jQ name size) = (D,jQ name size,0,0):=by
  unfold vw
  rw [h1,if_pos rfl]
 unfold vJ.load
 rw [show (jQ name size).name = name from rfl,h2]
 simp only
 rw [if_neg (by simp),zEv hd 10 0 (by omega) fun i _ hi=>hn i hi]
theorem zKB {g:Int}:zM1 (jQ (zA9 g) 40960) []:=⟨⟨by simp [jQ,zA9],by simp [jQ],by simp [jQ],by simp [jQ],by simp [jQ]⟩,rfl,by simp,by simp⟩
theorem zFh {D:zI} {n x:List UInt8} (hD:OkD D) (hF:Free D) (hn:1 ≤ n.length∧n.length ≤ 15) (hf:D.files.length < 32) (hr:(yt D.files:Int) + (yG x).length ≤ D.a.room):Saved D n x (D.save n x)∧(D.save n x).2 = 0∧Free (D.save n x).1:=by
 have hs:=zGi hD hF.down hn hf hr
 have hn0:n ≠ []:=fun h=>by rw [h] at hn; simp at hn
 have hml:(xJ (zk n) D.files).length ≤ D.files.length∧yt (xJ (zk n) D.files) ≤ yt D.files:=by
  cases hm:za (zk n) D.files with
  | none=>rw [zCY hm]; exact ⟨Nat.le_refl _,Nat.le_refl _⟩
  | some f=>
   obtain ⟨_,_,g3,g4⟩:=hD.del hm
   omega
 have hq:=zIb (x:=x) hD hF.left hF.down hn0 hn.2 (by omega) (by omega)
 rw [hq] at hs ⊢
 exact ⟨hs,rfl,⟨hF.left,hF.down⟩⟩
theorem zFi {D:zI} {ep:Nat} {v:Bool} (hd:D.a.down = false) (h:za xM D.files = some (sfF (qI ep v))):zDz D ep v:=by
 left
 unfold zI.read
 rw [if_neg (by rw [hd]; decide),h]
 rfl
theorem zIi {D:zI} (hd:D.a.down = false) (h:za xM D.files = none):zDz D 0 false:=by
 right
 refine ⟨rfl,rfl,?_⟩
 unfold zI.read
 rw [if_neg (by rw [hd]; decide),h]
theorem zKC (g:Int) (i:Nat):∀ n ∈ [xM,zk xM,STATE,zk STATE],n ≠ yZ (zA9 g) i:=by
 intro n hn
 simp only [List.mem_cons,List.not_mem_nil,or_false] at hn
 rcases hn with rfl | rfl | rfl | rfl <;> simp [yZ,zA9,zk]
theorem zEw {room:Int}:Free (zI.new room):=⟨rfl,rfl⟩
abbrev S4:List (List UInt8):=[xM,zk xM,STATE,zk STATE]
theorem lpk {ep:Nat} {v:Bool} (h:ep < 18446744073709551616):(yG (qI ep v)).length ≤ 40:=by
 have h1:=zAu (v:=v) h
 have h2:=zBz _ (qI ep v) rfl
 have h3:=xP 0 (qI ep v).length (by omega)
 unfold yG
 rw [List.length_append,yj]
 have h4:((qI ep v).length + 1023) / 1024 ≤ 1:=by omega
 omega
section
variable {B:World} {Γ Δ:List zC} {k:K} {d:Nat} {D:zI}
theorem zB6 {s:Sl} {clock ep:Nat} {v:Bool} {q:Option Addr→Int→K} (hD:OkD D) (hF:Free D) (hb:zCc D S4 5040) (hroom:21000 ≤ D.a.room∨zCc D S4 40∧1000 ≤ D.a.room) (hr:∀ w,Holds B Γ w→RdC w s 1 ([(0:Int)].map (Value.int .i64))) (hlife:zDz D ep v) (hm:max ep clock < 1000000)
  (h:∀ kp mb D1,OkD D1→Free D1→zCc D1 S4 5040→D1.a.room = D.a.room→(∀ n,n ≠ xM→n ≠ zk xM→za n D1.files = za n D.files)→za xM D1.files = some (sfF (qI (max ep clock + 1) v)) →
   HG B (KpR kp d (max ep clock + 1) v mb::zK d D1::Γ) (q (some ⟨kp,0,none⟩) 0)) :
  HG B (zK d D::Γ) (zm.call (some ⟨d,0,none⟩) s (clock:Int) q):=by
 obtain ⟨u1,u2⟩:=zB5 hD hb
 simp only [List.length_cons,List.length_nil] at u1 u2
 have hlp:=lpk (ep:=max ep clock + 1) (v:=v) (by omega)
 obtain ⟨s1,s2,s3⟩:=zFh (n:=xM) (x:=qI (max ep clock + 1) v) hD hF (by decide) (by omega) (by
  rcases hroom with hroom | ⟨hb40,hroom⟩
  ·omega
  ·obtain ⟨v1,v2⟩:=zB5 hD hb40
   simp only [List.length_cons,List.length_nil] at v1 v2
   omega)
 have hb1:=s1.bnd hb (by simp) (by simp) (by omega)
 refine zLF (gs:=[0]) (Wf:=fun g=>jQ (zA9 g) 40960) (Lf:=fun _=>[]) (by simp) (by simp) (by simp) hr hD hlife (by omega) (fun _ g hg=>⟨?_,zKB⟩) (fun hne _=>absurd s2 hne) fun kp mb G _ ho _=>?_
 ·exact zIh s3.down fun i hi=>zHS fun p hp=>zKC g i _ (hb1 p hp).1
 ·rcases s1.two with ⟨_,t2,_⟩ | ⟨t1,_,_⟩
  ·exact xD (h kp mb _ ho s3 hb1 s1.room s1.oth t2)
  ·rw [s2] at t1; exact absurd t1 (by decide)
theorem zGk {kp mb ep:Nat} {v:Bool} {q:Int→K} (h:HG B (KpR kp d ep v mb::Γ) (q (ep:Int))):HG B (KpR kp d ep v mb::Γ) (yg.call (some ⟨kp,0,none⟩) q):=by
 refine fun w hw=>jy _ _ _ ?_
 refine hg hw ?_
 clear hw w
 unfold yg
 refine zAD ?_
 refine uN (b:=kp) (off:=1) (l:=kpL d ep v mb) (x:=(ep:Int)) ?_
 exact h
theorem zGl {kp mb ep:Nat} {v:Bool} {q:Bool→K} (h:HG B (KpR kp d ep v mb::Γ) (q v)):HG B (KpR kp d ep v mb::Γ) (yh.call (some ⟨kp,0,none⟩) q):=by
 refine fun w hw=>j3 _ _ _ ?_
 refine hg hw ?_
 clear hw w
 unfold yh
 refine zAD ?_
 refine uN (b:=kp) (off:=2) (l:=kpL d ep v mb) (x:=v) ?_
 exact h
theorem zBO {room:Int} {q:Option Addr→Int→K} (h1:1 ≤ room) (h2:room ≤ 1048576) (h:∀ d,HG B (zK d (.new room)::Γ) (q (some ⟨d,0,none⟩) 0)):HG B Γ (qm.call room q):=fun w hw=>zJu hw (fun hb=>by omega) fun d w _ _ hw=>h d w hw
theorem zKD {room:Int} (h1:1 ≤ room) (h2:room ≤ 1048576):OkD (.new room):=okN h1 h2
theorem zD4 {room:Int} {q:Int→K} (h1:1000 ≤ room) (h2:room ≤ 1048576) (h:∀ D1,OkD D1→Free D1→zCc D1 S4 40→D1.a.room = room→za xM D1.files = some (sfF (qI 0 true))→(∀ n,n ≠ xM→n ≠ zk xM→za n D1.files = none)→HG B (zK d D1::Γ) (q 0)) :
  HG B (zK d (.new room)::Γ) (qW.call (some ⟨d,0,none⟩) q):=by
 have hlp:=lpk (ep:=0) (v:=true) (by omega)
 obtain ⟨s1,s2,s3⟩:=zFh (D:=.new room) (n:=xM) (x:=qI 0 true) (zKD (by omega) h2) zEw (by decide) (by simp [zI.new]) (by
  show ((0:Nat):Int) + _ ≤ room
  omega)
 refine zIf (zKD (by omega) h2) fun ho=>?_
 rw [s2]
 refine h _ ho s3 (s1.bnd (fun p hp=>by cases hp) (by simp) (by simp) hlp) s1.room ?_ fun n a b=>by rw [s1.oth n a b]; rfl
 rcases s1.two with ⟨_,t2,_⟩ | ⟨t1,_,_⟩
 ·exact t2
 ·rw [s2] at t1; exact absurd t1 (by decide)
theorem zCc.up {D:zI} {S:List (List UInt8)} {a b:Nat} (h:zCc D S a) (hab:a ≤ b):zCc D S b:=fun p hp=>⟨(h p hp).1,Nat.le_trans (h p hp).2 hab⟩
theorem zKE {q:Bool→K} (h:HG B Γ (q true)):HG B Γ (yA.call q):=by
 refine fun w hw=>zC7 _ _ ?_
 refine hg hw ?_
 clear hw w
 unfold yA
 refine zBO (by omega) (by omega) fun d1=>?_
 refine zBO (by omega) (by omega) fun d2=>?_
 refine s_f ?_ (by rfl)
 refine s_f ?_ (by rfl)
 refine xI (zK d1 (.new 1000)) ?_
 refine zD4 (by omega) (by omega) fun D1 o1 f1 b1 r1 l1 _=>?_
 unfold yA.s1
 refine s_f ?_ (by rfl)
 refine uF fun t30=>?_
 refine xI (zK d1 D1) ?_
 refine zB6 (clock:=0) (ep:=0) (v:=true) o1 f1 (b1.up (by omega)) (.inr ⟨b1,by omega⟩) (fun w hw=>?_) (zFi f1.down l1) (by omega) fun k1 m1 D1' _ _ _ _ _ _=>?_
 ·have:=zAc (B:=B) (esz:=1) (k:=1) (t:=t30) (cs:=[.int .i64 0]) rfl w hw
  exact this
 refine uF fun t36=>?_
 refine xI (zK d2 (.new 1000)) ?_
 refine zB6 (clock:=7) (ep:=0) (v:=false) (zKD (by omega) (by omega)) zEw (fun p hp=>by cases hp) (.inr ⟨fun p hp=>(by cases hp),by simp [zI.new]⟩) (fun w hw=>?_) (zIi rfl rfl) (by omega) fun k2 m2 D2' _ _ _ _ _ _=>?_
 ·have:=zAc (B:=B) (esz:=1) (k:=1) (t:=t36) (cs:=[.int .i64 0]) rfl w hw
  exact this
 refine s_t ?_ (by rfl)
 refine s_t ?_ (by rfl)
 refine xI (KpR k1 d1 (max 0 0 + 1) true m1) ?_
 refine zGk ?_
 refine s_t ?_ (by rfl)
 refine zGl ?_
 refine s_t ?_ (by rfl)
 refine xI (KpR k2 d2 (max 0 7 + 1) false m2) ?_
 refine zGk ?_
 refine s_t ?_ (by rfl)
 refine zGl ?_
 unfold yA.s2
 exact xD h
end
end
section
open Go Go.Sep
def jf:Sh:=(.sl (.int .u8) 1)
theorem zLy:zGF Tryz.prog 9 22 = jf:=by kernel_rfl
end
section
open Go Go.Sep
theorem zOB (n:Int):0 ≤ bitsOf .and .i64 n 7∧bitsOf .and .i64 n 7 ≤ 7:=by
 unfold bitsOf
 simp only
 have h1:((BitVec.ofInt IntKind.i64.bits n &&& BitVec.ofInt IntKind.i64.bits 7).toNat) ≤ 7:=by
  rw [BitVec.toNat_and]
  exact Nat.le_trans Nat.and_le_right (by decide)
 rw [wrap64 (by omega) (by omega)]
 omega
theorem zOC {D:zI} {c:Int} (h:OkD D) (h0:0 ≤ c) (h7:c ≤ 7):OkD { D with a:={ D.a with left:=if -1 > c then -1 else c } }:=⟨h.room1,h.roomN,h.used,h.few,by rw [if_neg (by omega)]; exact ⟨by simp only; omega,by simp only; omega⟩,h.last,h.nodup⟩
section
variable {B:World} {Γ Δ:List zC} {q:Bool→K}
theorem zCd {s:Sl} {xs:List UInt8} {q:ByteArray→K} (hr:∀ w,Holds B Γ w→RdB w s xs) (h:HG B Γ (q (bs xs))):HG B Γ (Rd Tryz.prog (convert zT qY s.val) Value.string q):=fun w hw=>zNv (by kernel_rfl) (hr w hw) (h w hw)
theorem zKF {d:Nat} {D:zI} {s:Sl} {ks:List Int} {q:Option Addr→K} (hD:OkD D) (hr:∀ w,Holds B Γ w→RdC w s 1 (ks.map (Value.int .i64))) (h:∀ o,HG B (zK o (D.crash ks)::zK d D::Γ) (q (some ⟨o,0,none⟩))):HG B (zK d D::Γ) (zw.call (some ⟨d,0,none⟩) s q):=fun w hw=>zHJ hD hw hr fun o w hw=>h o w hw
theorem zCt {kp d ep mb:Nat} {v:Bool} {D:zI} {s:Sl} {x:List UInt8} {q:Int→K} (hD:OkD D) (hx:x.length ≤ 10000) (hcap:s.n ≤ s.c) (hr:∀ w,Holds B Γ w→RdB w s x) (h:OkD (D.save STATE x).1→HG B (KpR kp d ep v mb::zK d (D.save STATE x).1::Γ) (q (D.save STATE x).2)) :
  HG B (KpR kp d ep v mb::zK d D::Γ) (y8.call (some ⟨kp,0,none⟩) s q):=by
 refine fun w hw=>zAF _ _ _ _ ?_
 refine hg hw ?_
 clear hw w
 unfold y8
 refine zAD ?_
 refine uN (b:=kp) (l:=kpL d ep v mb) (x:=some ⟨d,0,none⟩) ?_
 refine xI (zK d D) ?_
 refine zFf (n:=STATE) hD hx hcap (fun w hw=>hr w hw.tail) fun ho=>?_
 refine xI (KpR kp d ep v mb) ?_
 exact xD (h ho)
theorem zGm {kp d ep mb:Nat} {v:Bool} {D:zI} {b:List UInt8} {q:Sl→Int→K} (hD:OkD D) (hr:D.read STATE = (yG b,0)) (hl:(yG b).length ≤ 100000) (hb:b.length ≤ 100000) (h:∀ f,HG B (Bytes zP f b::KpR kp d ep v mb::zK d D::Γ) (q f 0)) :
  HG B (KpR kp d ep v mb::zK d D::Γ) (qM.call (some ⟨kp,0,none⟩) q):=by
 refine fun w hw=>zAG _ _ _ ?_
 refine hg hw ?_
 clear hw w
 unfold qM
 refine zAD ?_
 refine uN (b:=kp) (l:=kpL d ep v mb) (x:=some ⟨d,0,none⟩) ?_
 refine xI (zK d D) ?_
 refine zGf (n:=STATE) hD hr hl hb fun f=>?_
 refine xI (KpR kp d ep v mb) ?_
 refine xI (Bytes zP f b) ?_
 exact xD (h f)
theorem zCe {a b:Sl} {xs ys:List UInt8} {c:Int} (ha:RdB B a xs) (hb:RdB B b ys) (hac:a.n ≤ a.c) (hbc:b.n ≤ b.c) (h:HG B Γ (q true)):HG B Γ (zD.call a b c q):=by
 refine fun w hw=>zAI _ _ _ _ _ ?_
 refine hg hw ?_
 clear hw w
 have han:xs.length = a.n:=by have:=ha.len; simpa using this
 have hbn:ys.length = b.n:=by have:=hb.len; simpa using this
 unfold zD
 refine zKE ?_
 refine s_f ?_ (by rfl)
 have out:HG B Γ (zD.s1 q a b c true):=by
  unfold zD.s1
  exact s_t h
 refine zA6 (fun _=>out) fun hb1=>?_
 have hxl:xs.length ≤ 3000:=by simp only [decide_eq_false_iff_not] at hb1; omega
 by_cases hyl:3000 < ys.length
 ·rw [show decide ((3000:Int) < (b.n:Int)) = true by simp; omega]
  exact out
 rw [show decide ((3000:Int) < (b.n:Int)) = false by simp; omega]
 have hpx:=pk (x:=xs) (by omega)
 have hpy:=pk (x:=ys) (by omega)
 unfold zD.s1
 refine s_f ?_ (by rfl)
 refine zBO (by omega) (by omega) fun d=>?_
 refine s_f ?_ (by rfl)
 refine zD4 (by omega) (by omega) fun D1 o1 f1 b1 r1 l1 n1=>?_
 unfold zD.s2
 refine s_f ?_ (by rfl)
 refine uF fun t37=>?_
 refine xI (zK d D1) ?_
 refine zB6 (clock:=0) (ep:=0) (v:=true) o1 f1 (b1.up (by omega)) (.inl (by omega)) (fun w hw=>zAc (B:=B) (esz:=1) (k:=1) (t:=t37) (cs:=[.int .i64 0]) rfl w hw) (zFi f1.down l1) (by omega) fun k1 m1 D2 o2 f2 b2 r2 e2 l2=>?_
 refine s_f ?_ (by rfl)
 obtain ⟨u1,u2⟩:=zB5 o2 b2
 simp only [List.length_cons,List.length_nil] at u1 u2
 obtain ⟨s1,s2,s3⟩:=zFh (n:=STATE) (x:=xs) o2 f2 (by decide) (by omega) (by omega)
 have b3:=s1.bnd b2 (by simp) (by simp) hpx
 have g3:za STATE (D2.save STATE xs).1.files = some (sfF xs):=by
  rcases s1.two with ⟨_,t2,_⟩ | ⟨t1,_,_⟩
  ·exact t2
  ·rw [s2] at t1; exact absurd t1 (by decide)
 have l3:za xM (D2.save STATE xs).1.files = some (sfF (qI (max 0 0 + 1) true)):=by rw [s1.oth xM (by decide) (by decide)]; exact l2
 have r3:=s1.room
 refine zCt (x:=xs) o2 (by omega) hac (fun w hw=>ha.old hw) fun o3=>?_
 rw [s2]
 generalize (D2.save STATE xs).1 = D3 at s3 b3 g3 l3 r3 o3 ⊢
 rw [show decide ((0:Int) ≠ 0) = false by rfl]
 unfold zD.s3
 refine s_f ?_ (by rfl)
 obtain ⟨a0,a7⟩:=zOB c
 refine jR rfl ?_
 generalize bitsOf .and .i64 c 7 = c7 at a0 a7
 refine xI (zK d D3) ?_
 refine fun w hw=>zHK hw fun w hw=>?_
 refine hg hw ?_
 clear hw w
 have o4:=zOC o3 a0 a7
 generalize hD4:({ D3 with a:={ D3.a with left:=if -1 > c7 then -1 else c7 } }:zI) = D4 at o4 ⊢
 have b4:zCc D4 S4 5040:=by rw [← hD4]; exact b3
 have g4:za STATE D4.files = some (sfF xs):=by rw [← hD4]; exact g3
 have l4:za xM D4.files = some (sfF (qI (max 0 0 + 1) true)):=by rw [← hD4]; exact l3
 have r4:D4.a.room = D1.a.room:=by rw [← hD4]; simp only; rw [r3,r2]
 have dn4:D4.a.down = false:=by rw [← hD4]; exact s3.down
 obtain ⟨v1,v2⟩:=zB5 o4 b4
 simp only [List.length_cons,List.length_nil] at v1 v2
 have s5:=zGi (n:=STATE) (x:=ys) o4 dn4 (by decide) (by omega) (by omega)
 have b5:=s5.bnd b4 (by simp) (by simp) hpy
 refine xI (KpR k1 d (max 0 0 + 1) true m1) ?_
 refine zCt (x:=ys) o4 (by omega) hbc (fun w hw=>hb.old hw) fun o5=>?_
 have g5:∃ z,za STATE (D4.save STATE ys).1.files = some (sfF z)∧(z = ys∨z = xs)∧((D4.save STATE ys).2 = 0→z = ys):=by
  rcases s5.two with ⟨t1,t2,_⟩ | ⟨t1,t2,_⟩
  ·exact ⟨ys,t2,.inl rfl,fun _=>rfl⟩
  ·exact ⟨xs,by rw [t2]; exact g4,.inr rfl,fun h0=>by rw [t1] at h0; exact absurd h0 (by decide)⟩
 obtain ⟨z,g5,hz,hz0⟩:=g5
 have l5:za xM (D4.save STATE ys).1.files = some (sfF (qI (max 0 0 + 1) true)):=by rw [s5.oth xM (by decide) (by decide)]; exact l4
 have r5:=s5.room
 generalize (D4.save STATE ys).2 = e at hz0
 generalize (D4.save STATE ys).1 = D5 at b5 g5 l5 r5 o5 ⊢
 refine uF fun t57=>?_
 refine xI (zK d D5) ?_
 refine zKF (ks:=[9,9,9,9]) o5 (fun w hw=>by
  have h9:RdC w ⟨some ⟨t57,0,none⟩,1,1⟩ 4 [.int .i64 9,.int .i64 9,.int .i64 9,.int .i64 9]:=zAc (B:=B) (esz:=4) (k:=1) (t:=t57) (cs:=[.int .i64 9,.int .i64 9,.int .i64 9,.int .i64 9]) rfl w hw
  exact ⟨by simp,fun h=>(by cases h),fun a ha i hi=>h9.at' a ha i hi⟩) fun o=>?_
 refine s_f ?_ (by rfl)
 have o6:=o5.crash [9,9,9,9]
 have b6:=zIg [9,9,9,9] b5
 have g6:=zGj o5 [9,9,9,9] g5
 have l6:=zGj o5 [9,9,9,9] l5
 have f6:Free (D5.crash [9,9,9,9]):=zHM
 have r6:(D5.crash [9,9,9,9]).a.room = D5.a.room:=rfl
 generalize D5.crash [9,9,9,9] = D6 at o6 b6 g6 l6 f6 r6 ⊢
 refine uF fun t63=>?_
 refine xI (zK o D6) ?_
 refine zB6 (clock:=0) (ep:=max 0 0 + 1) (v:=true) o6 f6 b6 (.inl (by omega)) (fun w hw=>zAc (B:=B) (esz:=1) (k:=1) (t:=t63) (cs:=[.int .i64 0]) rfl w hw) (zFi f6.down l6) (by omega) fun k2 m2 D7 o7 f7 b7 r7 e7 l7=>?_
 refine s_f ?_ (by rfl)
 have hzl:z.length ≤ 3000:=by rcases hz with rfl | rfl <;> omega
 have hpz:=pk (x:=z) (by omega)
 have hrd:D7.read STATE = (yG z,0):=by
  unfold zI.read
  rw [if_neg (by rw [f7.down]; decide),e7 STATE (by decide) (by decide),g6]
  rfl
 refine zGm (b:=z) o7 hrd (by omega) (by omega) fun f=>?_
 refine s_f ?_ (by rfl)
 have rz:∀ {Ψ:List zC},∀ w,Holds B (Bytes zP f z::Ψ) w→RdB w f z:=fun {Ψ} w hw=>Bytes.rd hw List.mem_cons_self
 have S4':∀ {Ψ:List zC},[dd:Drops (Bytes zP f z::Ψ) Γ]→HG B (Bytes zP f z::Ψ) (zD.s4 q a b f false):=fun {Ψ dd}=>by
  unfold zD.s4
  refine s_f ?_ (by rfl)
  refine zCd (xs:=z) rz ?_
  refine zCd (xs:=xs) (fun w hw=>ha.old hw) ?_
  rw [zAt,zAt]
  by_cases hzx:z = xs
  ·refine s_t ?_ (by rw [hzx]; simp)
   unfold zD.s5
   exact xD (d:=dd) h
  ·refine s_f ?_ (by simpa using hzx)
   refine zCd (xs:=z) rz ?_
   refine zCd (xs:=ys) (fun w hw=>hb.old hw) ?_
   rw [zAt,zAt]
   unfold zD.s5
   rw [show (z == ys) = true by simpa using hz.resolve_right hzx]
   exact xD (d:=dd) h
 refine zA6 (fun he=>?_) fun he=>?_
 ·have he0:=hz0 (by simpa using he)
  refine zCd (xs:=z) rz ?_
  refine zCd (xs:=ys) (fun w hw=>hb.old hw) ?_
  rw [zAt,zAt,show (!(z == ys)) = false by rw [he0]; simp]
  exact S4'
 ·exact S4'
open Go.RowKit in
theorem zBP (W:World) (s:Sl) (y0:Rdy W jf (Sl.val s).cells.toList) (d:Sl) (y1:Rdy W jf (Sl.val d).cells.toList) (x:Int) (_:(Lit.int .i64 x).wf = true) :
  Calls Tryz.prog 3 #[s.val,d.val,.int .i64 x] W (Ret fun v w'=>v = .bool true∧Below W.heap.size W w'):=by
 obtain ⟨xs,hx⟩:=zEa y0
 obtain ⟨ys,hy⟩:=zEa y1
 obtain ⟨s',e,h1,_⟩:=y0
 obtain rfl:=zDf e
 obtain ⟨d',e2,h2,_⟩:=y1
 obtain rfl:=zDf e2
 exact zJf (zCe (Γ:=[]) hx hy h1 h2 (fun w h=>⟨rfl,h⟩) W (Holds.start W))
end
end
end Go.Proofs.YtgmbfnboiobeaaaGreat
