/- Texts of the claim FrontTells, one behind the other. -/
import Derived.Test.YtdemfamgieonbaaGreatFrontTellsM4
import Derived.Lib.ConvBytes
import Derived.Shelf.SortM.Plain
import Derived.Shelf.SortM.SortNone
import Derived.Ground.SlgmProg
import Derived.Test.YtdemfamgieonbaaGreatProg
set_option linter.all false
namespace Go.Proofs.YtdemfamgieonbaaGreat
open Go Go.Sep Go.Sep.Bt
set_option maxRecDepth 100000
abbrev WX:=List (List UInt8×(Rec×Sl))
abbrev wV (x:Rec×Sl):Value:=.agg (recA x.1 x.2)
abbrev wB (p:List UInt8×(Rec×Sl)):HProp:=Bytes zAd p.2.2 p.2.1.val
abbrev runL (rb st mb:Nat) (os:Sl) (X:WX) (O:OX) (Γ:List HProp):List HProp :=
 blk rb (.cells [.pointer (some ⟨st,0,none⟩),.map (some mb),os.val].toArray zDV (0,0))::MapR strV wV mb X::Sep.stars (X.map wB)::SlC zAx 2 os (O.flatMap oF)::Sep.stars (O.map oB)::Γ
theorem mapRec:mapIs Tryz.prog zCc .string zA9:=⟨9,by kernel_rfl,by kernel_rfl⟩
abbrev zRec:Rec×Sl:=(⟨false,[],0,0⟩,⟨none,0,0⟩)
theorem zeroRec:zeroT Tryz.prog zA9 (wV zRec):=zIu
def nowM (n:Nat) (M:Recs) (W:List (List UInt8×Rec)) (k:List UInt8):Rec:=(mget k W).getD (sGet n M (bs k))
abbrev modW (X:WX):List (List UInt8×Rec):=X.map fun p=>(p.1,p.2.1)
section
variable {B:World} {Γ Δ:List HProp} {rb st mb n:Nat} {os:Sl} {X:WX} {O:OX} {M:Recs} {k:List UInt8}
theorem zMk {α:Type} {F:α→HProp} {l:List α} {x:α} {w:World} (hx:x ∈ l) (h:Holds B (Sep.stars (l.map F)::Γ) w):∃ Δ,Holds B (F x::Δ) w:=by
 obtain ⟨A,C,rfl⟩:=List.append_of_mem hx
 exact ⟨_,((Holds.flat.1 h).perm zGZ).perm List.perm_middle⟩
theorem rdB_of {E:Nat} {w:World} {s:Sl} {xs:List UInt8} (h:Holds B (Bytes E s xs::Γ) w):RdB w s xs:=h.rdC List.mem_cons_self
theorem zG3 {Q:Array Value→K} (hk:k.length < 1000000000000) (hX:∀ p ∈ X,p.2.1.ok)
  (hin:∀ r s,mget k X = some (r,s)→r.ok→(∀ w,Holds B (runL rb st mb os X O (StoreR st n M::Γ)) w→RdB w s r.val)→HG B (runL rb st mb os X O (StoreR st n M::Γ)) (Q (recA r s)))
  (hout:mget k X = none→∀ s,(sGet n M (bs k)).ok→HG B (Bytes zAd s (sGet n M (bs k)).val::runL rb st mb os X O (StoreR st n M::Γ)) (Q (recA (sGet n M (bs k)) s))) :
  HG B (runL rb st mb os X O (StoreR st n M::Γ)) (zDD.call (some ⟨rb,0,none⟩) (bs k) Q):=fun w hw=>by
 refine zLI _ _ _ _ ?_
 refine hg hw ?_
 clear hw w
 unfold zDD
 refine s_new fun t4=>?_
 refine s_nn ?_
 refine s_ld (b:=rb) (x:=some mb) ?_
 refine zTJ (b:=mb) (enc:=strV) (cV:=wV) (cG:=Value.agg) (g:=fun x=>recA x.1 x.2) (z:=zRec) (a:=k) (fun _=>rfl) mapRec zFp zeroRec ?_
 refine s_new fun x5=>?_
 cases hm:mget k X with
 | some p =>
  obtain ⟨r,s⟩:=p
  have hmem:=zF6 hm
  have hok:=hX _ hmem
  simp only [Option.getD_some,Option.isSome_some]
  refine s_stN (b:=x5) (l':=recL r s) ?_
  refine s_t ?_
  refine s_ldN (b:=x5) (l':=recL r s) ?_
  refine s_stN (b:=t4) (l':=recL r s) ?_
  refine s_ldN (b:=t4) (l':=recL r s) ?_
  refine s_end (Δ:=runL rb st mb os X O (StoreR st n M::Γ)) ?_
  refine hin r s hm hok fun w hw=>?_
  obtain ⟨Δ,h1⟩:=zMk hmem (hw.tail.tail)
  exact rdB_of h1
 | none =>
  simp only [Option.getD_none,Option.isSome_none]
  refine s_stN (b:=x5) (l':=recL zRec.1 zRec.2) ?_
  refine s_f ?_
  refine s_ld (b:=rb) (x:=some ⟨st,0,none⟩) ?_
  refine s_own st ?_
  refine zDP (k:=bs k) (by simpa [ByteArray.size] using hk) fun s hok=>?_
  refine s_stN (b:=t4) (l':=recL (sGet n M (bs k)) s) ?_
  refine s_ldN (b:=t4) (l':=recL (sGet n M (bs k)) s) ?_
  exact s_end (hout hm s hok)
theorem zJD {Q:K} {has:Bool} {val:List UInt8} {vs:Sl} (hk:k.length < 1000000000000) (hX:∀ p ∈ X,p.2.1.ok) (hv:val.length ≤ 1000000000) (hr:∀ w,Holds B (runL rb st mb os X O (StoreR st n M::Γ)) w→RdB w vs val)
  (h:∀ s,({ nowM n M (modW X) k with has:=has,val:=val }:Rec).ok→HG B (runL rb st mb os (mset k ({ nowM n M (modW X) k with has:=has,val:=val },s) X) O (StoreR st n M::Γ)) Q) :
  HG B (runL rb st mb os X O (StoreR st n M::Γ)) (zCy.call (some ⟨rb,0,none⟩) (bs k) has vs Q):=fun w hw=>by
 refine zLJ _ _ _ _ _ _ ?_
 refine hg hw ?_
 clear hw w
 unfold zCy
 have rest:∀ (r:Rec) (s:Sl),r = nowM n M (modW X) k→r.ok→HG B (runL rb st mb os X O (StoreR st n M::Γ)) (New zA9 [.bool false,Sl.val ⟨none,0,0⟩,.int .i64 0,.int .u64 0].toArray fun x8 =>
   StN x8 4 (recA r s) <| zBS.call vs fun t14=>St x8 (.bool has) <| St (x8.add 1) (Sl.val t14) <| Dr <| Nn (some ⟨rb,0,none⟩) fun t18=>Ld (t18.add 1) Value.map fun t20=>LdN x8 4 fun t22 =>
   DoU Tryz.prog (Instr.mapUpdate zCc (.map t20) (.string (bs k)) (.agg t22)) Q):=fun r s hr2 hok=>by
  refine s_new fun x8=>?_
  refine s_stN (b:=x8) (l':=recL r s) ?_
  refine zEK (fun w hw=>hr w hw.tail) hv fun s' _=>?_
  refine s_st (b:=x8) ?_
  refine s_st (b:=x8) ?_
  refine s_dr ?_
  refine s_nn ?_
  refine s_ld (b:=rb) (x:=some mb) ?_
  refine s_ldN (b:=x8) (l':=recL { r with has:=has,val:=val } s') ?_
  refine s_upd (b:=mb) (enc:=strV) (cV:=wV) (v:=(({ r with has:=has,val:=val }:Rec),s')) (cG:=Value.agg) rfl mapRec zFp ?_
  rw [hr2] at hok ⊢
  refine s_end (Δ:=wB (k,(({ nowM n M (modW X) k with has:=has,val:=val }:Rec),s'))::Sep.stars (X.map wB)::blk rb (.cells [.pointer (some ⟨st,0,none⟩),.map (some mb),os.val].toArray zDV (0,0))::MapR strV wV mb (mset k (({ nowM n M (modW X) k with has:=has,val:=val }:Rec),s') X)::SlC zAx 2 os (O.flatMap oF)::Sep.stars (O.map oB)::StoreR st n M::Γ) ?_
  refine s_mset ?_
  exact s_end (h s' ⟨hok.1,hok.2.1,hv⟩)
 have hmg:mget k (modW X) = (mget k X).map (·.1):=zFk _ _ _
 refine zG3 hk hX (fun r s hm hok _=>?_) fun hm s hok=>?_
 ·refine rest r s ?_ hok
  unfold nowM; rw [hmg,hm]; rfl
 ·refine s_end (Δ:=runL rb st mb os X O (StoreR st n M::Γ)) ?_
  refine rest _ s ?_ hok
  unfold nowM; rw [hmg,hm]; rfl
end
def OpM.ok (o:OpM):Prop:=o.key.length < 1000000000000∧o.val.length ≤ 1000000000∧-9223372036854775808 ≤ o.n∧o.n ≤ 9223372036854775807
abbrev WM:=List (List UInt8×Rec)
abbrev OM:=List (Bool×List UInt8)
def numOf (v:List UInt8):Int:=IntKind.wrap .i64 (num8 v:Int)
abbrev valOf (n:Int):List UInt8:=partV (uOf n) 8
def overS (a b:Int):Bool:=decide (0 < b∧9223372036854775807 - b < a∨b < 0∧a < -9223372036854775808 - b)
def setW (n:Nat) (M:Recs) (W:WM) (k:List UInt8) (has:Bool) (val:List UInt8):WM:=mset k { nowM n M W k with has:=has,val:=val } W
def addW (n:Nat) (M:Recs) (W:WM) (k:List UInt8) (d:Int):WM×Int :=
 if (nowM n M W k).has = true∧(nowM n M W k).val.length ≠ 8 then (W,110) else
 if overS (if (nowM n M W k).has then numOf (nowM n M W k).val else 0) d then (W,111) else
 (setW n M W k true (valOf ((if (nowM n M W k).has then numOf (nowM n M W k).val else 0) + d)),0)
def stepW (n:Nat) (M:Recs) (W:WM) (O:OM) (o:OpM):WM×OM×Int :=
 if o.kind = 1 then (W,O++[((nowM n M W o.key).has,(nowM n M W o.key).val)],0) else
 if o.kind = 7 then (W,O++[(true,o.val)],0) else
 if o.kind = 2 then (setW n M W o.key true o.val,O,0) else
 if o.kind = 3 then (setW n M W o.key false [],O,0) else
 if o.kind = 4 then (W,O,if (nowM n M W o.key).has = true∧(nowM n M W o.key).val = o.val then 0 else 110) else
 if o.kind = 5 then (W,O,if (nowM n M W o.key).has then 110 else 0) else
 if o.kind = 6 then ((addW n M W o.key o.n).1,O,(addW n M W o.key o.n).2) else (W,O,0)
theorem zLM (n:Int):-9223372036854775808 ≤ IntKind.wrap .i64 n∧IntKind.wrap .i64 n ≤ 9223372036854775807:=by
 simp only [IntKind.wrap,IntKind.signed,IntKind.bits]
 simp
 omega
theorem zQ4 (n:Int):(valOf n).length = 8:=zQ3 _ _
section
variable {B:World} {Γ Δ:List HProp} {rb st mb n:Nat} {os:Sl} {X:WX} {O:OX} {M:Recs} {k:List UInt8}
theorem zIN {r:Rec} {s:Sl}:modW (mset k (r,s) X) = mset k r (modW X):=(zNg (fun p:Rec×Sl=>p.1) k (r,s) X).symm
theorem zJt {r:Rec} {s:Sl} (hX:∀ p ∈ X,p.2.1.ok) (hr:r.ok):∀ p ∈ mset k (r,s) X,p.2.1.ok:=fun p hp=>by
 rcases mfind k X with ⟨_,h2,_,_⟩ | ⟨j,x,hj,h0,_,_,h2,_⟩
 ·rw [h2] at hp
  rcases List.mem_append.1 hp with hp | hp
  ·exact hX p hp
  ·rw [List.mem_singleton.1 hp]; exact hr
 ·rw [h2] at hp
  rcases List.mem_or_eq_of_mem_set hp with hp | rfl
  ·exact hX p hp
  ·exact hr
theorem zQ5 {Q:Int→K} {o:OpM} {osl:Sl} (ho:o.ok) (hX:∀ p ∈ X,p.2.1.ok)
  (h:∀ X',modW X' = (addW n M (modW X) o.key o.n).1→(∀ p ∈ X',p.2.1.ok)→HG B (runL rb st mb os X' O (StoreR st n M::Γ)) (Q (addW n M (modW X) o.key o.n).2)) :
  HG B (runL rb st mb os X O (StoreR st n M::Γ)) (zA8.call (some ⟨rb,0,none⟩) (opF (o,osl)).toArray Q):=fun w hw=>by
 refine zLK _ _ _ _ ?_
 refine hg hw ?_
 clear hw w
 obtain ⟨hk,hv,hn1,hn2⟩:=ho
 have hmg:mget o.key (modW X) = (mget o.key X).map (·.1):=zFk _ _ _
 unfold zA8
 refine s_new fun o3=>?_
 refine s_ld (b:=o3) (x:=bs o.key) ?_
 have sum:∀ (a:Int) (E:HProp),-9223372036854775808 ≤ a→a ≤ 9223372036854775807→¬ ((nowM n M (modW X) o.key).has = true∧(nowM n M (modW X) o.key).val.length ≠ 8)→a = (if (nowM n M (modW X) o.key).has then numOf (nowM n M (modW X) o.key).val else 0) →
   HG B (blk o3 (.cells (opF (o,osl)).toArray zBA (0,0))::runL rb st mb os X O (StoreR st n M::Γ)) (zA8.s1 Q (some ⟨rb,0,none⟩) ⟨o3,0,none⟩ a):=fun a E ha1 ha2 hn8 hae=>by
  have done:∀ t,t = overS a o.n→HG B (blk o3 (.cells (opF (o,osl)).toArray zBA (0,0))::runL rb st mb os X O (StoreR st n M::Γ)) (zA8.s2 Q (some ⟨rb,0,none⟩) ⟨o3,0,none⟩ a t):=fun t ht=>by
   unfold zA8.s2
   refine s_ite (fun hb=>?_) fun hb=>?_
   ·have e:addW n M (modW X) o.key o.n = (modW X,111):=by unfold addW; rw [if_neg hn8,← hae,if_pos (by rw [← ht,hb])]
    rw [e] at h
    exact s_end (h X rfl hX)
   ·have hov:¬ overS a o.n = true:=by rw [← ht,hb]; simp
    have e:addW n M (modW X) o.key o.n = (setW n M (modW X) o.key true (valOf (a + o.n)),0):=by unfold addW; rw [if_neg hn8,← hae,if_neg hov]
    rw [e] at h
    refine s_dr ?_
    refine s_ws ?_
    refine s_ldS (b:=o3) (x:=bs o.key) ?_
    refine s_ldS (b:=o3) (x:=o.n) ?_
    refine s_ai ?_ (by simp only [overS,decide_eq_true_eq] at hov; omega) (by simp only [overS,decide_eq_true_eq] at hov; omega)
    refine fun w hw=>zLL hw fun vs w hw=>?_
    refine hg hw ?_
    clear hw w
    refine s_sv ?_
    refine s_end (Δ:=runL rb st mb os X O (StoreR st n M::Bytes zAd vs (valOf (a + o.n))::Γ)) ?_
    refine zJD (val:=valOf (a + o.n)) hk hX (by rw [zQ4]; omega) (fun w hw=>?_) fun s hok=>?_
    ·exact rdB_of (hw.drops (Δ:=Bytes zAd vs (valOf (a + o.n))::Γ))
    ·refine s_end (Δ:=runL rb st mb os (mset o.key (({ nowM n M (modW X) o.key with has:=true,val:=valOf (a + o.n) }:Rec),s) X) O (StoreR st n M::Γ)) ?_
     exact h _ zIN (zJt hX hok)
  unfold zA8.s1
  refine s_ld (b:=o3) (x:=o.n) ?_
  refine s_ite (fun hb=>?_) fun hb=>?_
  ·have hb':0 < o.n:=by simpa using hb
   refine s_ld (b:=o3) (x:=o.n) ?_
   refine s_ai ?_
   refine s_ite (fun hc=>?_) fun hc=>?_
   ·refine done _ ?_
    have:9223372036854775807 - o.n < a:=by simpa using hc
    symm; simp only [overS,decide_eq_true_eq]; omega
   ·have hc':¬ 9223372036854775807 - o.n < a:=by simpa using hc
    refine s_ld (b:=o3) (x:=o.n) ?_
    refine s_f ?_
    refine done _ ?_
    symm; simp only [overS,decide_eq_false_iff_not]; omega
  ·have hb':¬ 0 < o.n:=by simpa using hb
   refine s_ld (b:=o3) (x:=o.n) ?_
   refine s_ite (fun hc=>?_) fun hc=>?_
   ·have hc':o.n < 0:=by simpa using hc
    refine s_ld (b:=o3) (x:=o.n) ?_
    refine s_ai ?_
    refine done _ ?_
    simp only [overS,hb',hc',false_and,true_and,false_or]
   ·have hc':¬ o.n < 0:=by simpa using hc
    refine done _ ?_
    simp only [overS,hb',hc',false_and,or_self,decide_false]
 have rest:∀ (r:Rec) (s:Sl) (A:HProp),r = nowM n M (modW X) o.key→(∀ w,Holds B (A::blk o3 (.cells (opF (o,osl)).toArray zBA (0,0))::runL rb st mb os X O (StoreR st n M::Γ)) w→RdB w s r.val) →
   HG B (A::blk o3 (.cells (opF (o,osl)).toArray zBA (0,0))::runL rb st mb os X O (StoreR st n M::Γ)) (New zA9 [.bool false,Sl.val ⟨none,0,0⟩,.int .i64 0,.int .u64 0].toArray fun x5=>StN x5 4 (recA r s) <| Ld x5 Value.bool fun t13=>Ite t13
    (Ld (x5.add 1) Sl.val fun t16=>zCz.call t16 fun t17x0 t17x1=>Ite (!t17x1) (Q 110) (zA8.s1 Q (some ⟨rb,0,none⟩) ⟨o3,0,none⟩ t17x0)) (zA8.s1 Q (some ⟨rb,0,none⟩) ⟨o3,0,none⟩ 0)):=fun r s A hr hrd=>by
  subst hr
  refine s_new fun x5=>?_
  refine s_stN (b:=x5) (l':=recL (nowM n M (modW X) o.key) s) ?_
  refine s_ld (b:=x5) (x:=(nowM n M (modW X) o.key).has) ?_
  refine s_ite (fun hb=>?_) fun hb=>?_
  ·refine s_ld (b:=x5) (x:=s) ?_
   refine fun w hw=>zKe (hrd w hw.tail) ?_
   refine hg hw ?_
   clear hw w
   refine s_ite (fun hc=>?_) fun hc=>?_
   ·have hc':(nowM n M (modW X) o.key).val.length ≠ 8:=by simpa using hc
    have e:addW n M (modW X) o.key o.n = (modW X,110):=by unfold addW; rw [if_pos ⟨hb,hc'⟩]
    rw [e] at h
    exact s_end (h X rfl hX)
   ·have hc':(nowM n M (modW X) o.key).val.length = 8:=by simpa using hc
    rw [if_pos hc']
    refine s_end (Δ:=blk o3 (.cells (opF (o,osl)).toArray zBA (0,0))::runL rb st mb os X O (StoreR st n M::Γ)) ?_
    refine sum _ A (zLM _).1 (zLM _).2 (fun h5=>h5.2 hc') ?_
    rw [if_pos hb]; rfl
  ·refine s_end (Δ:=blk o3 (.cells (opF (o,osl)).toArray zBA (0,0))::runL rb st mb os X O (StoreR st n M::Γ)) ?_
   refine sum _ A (by omega) (by omega) (fun h5=>by rw [hb] at h5; exact absurd h5.1 (by simp)) ?_
   rw [hb]; rfl
 refine s_end (Δ:=runL rb st mb os X O (StoreR st n M::blk o3 (.cells (opF (o,osl)).toArray zBA (0,0))::Γ)) ?_
 refine zG3 hk hX (fun r s hm hok hrd=>?_) fun hm s hok=>?_
 ·refine fun w hw=>?_
  refine hg (show Holds B (pur True::_) w from Holds.pur.2 ⟨trivial,hw⟩) ?_
  clear hw w
  refine s_end (Δ:=pur True::blk o3 (.cells (opF (o,osl)).toArray zBA (0,0))::runL rb st mb os X O (StoreR st n M::Γ)) ?_
  refine rest r s _ ?_ fun w hw=>hrd w hw.drops
  unfold nowM; rw [hmg,hm]; rfl
 ·refine s_end (Δ:=Bytes zAd s (sGet n M (bs o.key)).val::blk o3 (.cells (opF (o,osl)).toArray zBA (0,0))::runL rb st mb os X O (StoreR st n M::Γ)) ?_
  refine rest _ s _ ?_ fun w hw=>rdB_of hw
  unfold nowM; rw [hmg,hm]; rfl
theorem zNC {a b:Sl} {xs ys:List UInt8} {q:Bool→K} (ha:∀ w,Holds B Γ w→RdB w a xs) (hb:∀ w,Holds B Γ w→RdB w b ys) (h:HG B Γ (q (decide (xs = ys)))):HG B Γ (bytes_Equal.call a b q):=fun w hw=>by
 refine zLn _ _ _ _ ?_
 unfold bytes_Equal
 refine r_str (by kernel_rfl) (ha w hw) ?_
 refine r_str (by kernel_rfl) (hb w hw) ?_
 have e:((bs xs).toList == (bs ys).toList) = decide (xs = ys):=by rw [zBa,zBa]; by_cases h:xs = ys <;> simp [h]
 show q ((bs xs).toList == (bs ys).toList) w
 rw [e]
 exact h w hw
theorem zQ6 {x:(Bool×List UInt8)×Sl} {q:K} (h:HG B (Sep.stars ((O++[x]).map oB)::Γ) q):HG B (oB x::Sep.stars (O.map oB)::Γ) q:=by
 have:=zCS (F:=oB) (A:=O) (C:=[]) (x:=x) h
 rwa [List.append_nil] at this
theorem zMl {os':Sl} {x:(Bool×List UInt8)×Sl} {q:K} (h:HG B (runL rb st mb os' X (O++[x]) Γ) q) :
  HG B (oB x::Sep.stars (O.map oB)::SlC zAx 2 os' (O.flatMap oF++oF x)::blk rb (.cells [.pointer (some ⟨st,0,none⟩),.map (some mb),os'.val].toArray zDV (0,0))::MapR strV wV mb X::Sep.stars (X.map wB)::Γ) q:=by
 refine zQ6 ?_
 have e:O.flatMap oF++oF x = (O++[x]).flatMap oF:=by simp
 rw [e]
 exact s_end h
theorem zQA {Q:Int→K} {o:OpM} {osl:Sl} (ho:o.ok) (hX:∀ p ∈ X,p.2.1.ok) (hO:O.length < 1000000) (hv:∀ w,Holds B Γ w→RdB w osl o.val)
  (h:∀ os' X' O',modW X' = (stepW n M (modW X) (O.map Prod.fst) o).1→O'.map Prod.fst = (stepW n M (modW X) (O.map Prod.fst) o).2.1→(∀ p ∈ X',p.2.1.ok)→HG B (runL rb st mb os' X' O' (StoreR st n M::Γ)) (Q (stepW n M (modW X) (O.map Prod.fst) o).2.2)) :
  HG B (runL rb st mb os X O (StoreR st n M::Γ)) (zAi.call (some ⟨rb,0,none⟩) (opF (o,osl)).toArray Q):=fun w hw=>by
 refine zKd _ _ _ _ ?_
 refine hg hw ?_
 clear hw w
 have hk:=ho.1
 have hvl:=ho.2.1
 have hmg:mget o.key (modW X) = (mget o.key X).map (·.1):=zFk _ _ _
 unfold zAi
 refine s_new fun o3=>?_
 refine s_ld (b:=o3) (x:=bs o.key) ?_
 have rest:∀ (r:Rec) (s:Sl) (A:HProp),r = nowM n M (modW X) o.key→r.ok→(∀ w,Holds B (A::blk o3 (.cells (opF (o,osl)).toArray zBA (0,0))::runL rb st mb os X O (StoreR st n M::Γ)) w→RdB w s r.val) →
   HG B (A::blk o3 (.cells (opF (o,osl)).toArray zBA (0,0))::runL rb st mb os X O (StoreR st n M::Γ)) ((fun t9=>New zA9 [.bool false,Sl.val ⟨none,0,0⟩,.int .i64 0,.int .u64 0].toArray fun x5=>StN x5 4 t9 <|
 Ld (⟨o3,0,none⟩:Addr) (Value.int .i64) fun t11 =>
 Ite (decide (t11 = 1))
  (Dr <| WithS fun S =>
  Nn (some ⟨rb,0,none⟩) fun t16 =>
  LdS S (t16.add 2) Sl.val fun t18 =>
  LdS S x5 Value.bool fun t20 =>
  LdS S (x5.add 1) Sl.val fun t22 =>
  zBS.call t22 fun t23 =>
  Sv S <|
  Bld #[(.bool false),(Sl.val ⟨none,0,0⟩)] (fun i=>some (i * 2,2)) [(0,(.agg #[(.bool t20),(Sl.val t23)]))] fun ct25 =>
  New zAx ct25 fun t25 =>
  Sv S <|
  Do Tryz.prog (Builtin.append_ #[zEC,zEC] zEC #[(Sl.val t18),(Sl.val (Sl.mk (some t25) 1 1))]) Sl.val fun t26 =>
  St (t16.add 2) (Sl.val t26) <|
  zAi.s1 Q)
  (Ite (decide (t11 = 7))
   (Dr <| WithS fun S =>
   Nn (some ⟨rb,0,none⟩) fun t33 =>
   LdS S (t33.add 2) Sl.val fun t35 =>
   LdS S ((⟨o3,0,none⟩:Addr).add 2) Sl.val fun t37 =>
   zBS.call t37 fun t38 =>
   Sv S <|
   Bld #[(.bool false),(Sl.val ⟨none,0,0⟩)] (fun i=>some (i * 2,2)) [(0,(.agg #[(.bool true),(Sl.val t38)]))] fun ct40 =>
   New zAx ct40 fun t40 =>
   Sv S <|
   Do Tryz.prog (Builtin.append_ #[zEC,zEC] zEC #[(Sl.val t35),(Sl.val (Sl.mk (some t40) 1 1))]) Sl.val fun t41 =>
   St (t33.add 2) (Sl.val t41) <|
   zAi.s1 Q)
   (Ite (decide (t11 = 2))
    (Ld ((⟨o3,0,none⟩:Addr).add 1) Value.string fun t48 =>
    Ld ((⟨o3,0,none⟩:Addr).add 2) Sl.val fun t50 =>
    zCy.call (some ⟨rb,0,none⟩) t48 true t50 <|
    zAi.s1 Q)
    (Ite (decide (t11 = 3))
     (Ld ((⟨o3,0,none⟩:Addr).add 1) Value.string fun t56 =>
     zCy.call (some ⟨rb,0,none⟩) t56 false (Sl.mk none 0 0) <|
     zAi.s1 Q)
     (Ite (decide (t11 = 4))
      (Ld x5 Value.bool fun t61 =>
      Ite (!t61)
       (zAi.s2 Q true)
       (Ld (x5.add 1) Sl.val fun t65 =>
       Ld ((⟨o3,0,none⟩:Addr).add 2) Sl.val fun t67 =>
       bytes_Equal.call t65 t67 fun t68 =>
       zAi.s2 Q (!t68)))
      (Ite (decide (t11 = 5))
       (Ld x5 Value.bool fun t74 =>
       Ite t74
        (Q 110)
        (zAi.s1 Q))
       (Ite (decide (t11 = 6))
        (LdN (⟨o3,0,none⟩:Addr) 4 fun t78 =>
        zA8.call (some ⟨rb,0,none⟩) t78 fun t79 =>
        Q t79)
        (zAi.s1 Q)))))))) (recA r s)):=fun r s A hr hok hrd=>by
  subst hr
  dsimp only
  refine s_new fun x5=>?_
  refine s_stN (b:=x5) (l':=recL (nowM n M (modW X) o.key) s) ?_
  refine s_ld (b:=o3) (x:=o.kind) ?_
  refine s_cap os fun a1 a2 a3 a4=>?_
  rw [zAL _ 2 oF_len] at a1
  refine s_ite (fun hb=>?_) fun hb1=>?_
  ·have hb':o.kind = 1:=by simpa using hb
   have e:stepW n M (modW X) (O.map Prod.fst) o = (modW X,O.map Prod.fst++[((nowM n M (modW X) o.key).has,(nowM n M (modW X) o.key).val)],0):=by unfold stepW; rw [if_pos hb']
   rw [e] at h
   refine s_dr ?_
   refine s_ws ?_
   refine s_nn ?_
   refine s_ldS (b:=rb) (x:=os) ?_
   refine s_ldS (b:=x5) (x:=(nowM n M (modW X) o.key).has) ?_
   refine s_ldS (b:=x5) (x:=s) ?_
   refine zEK (fun w hw=>hrd w hw.tail) hok.2.2 fun s' _=>?_
   refine s_sv ?_
   refine s_bld1 (cs:=oF (((nowM n M (modW X) o.key).has,(nowM n M (modW X) o.key).val),s')) ?_
   refine s_new fun t=>?_
   refine s_sv ?_
   refine zBJ (esz:=2) (s:=os) (x:=⟨some ⟨t,0,none⟩,1,1⟩) (us:=oF (((nowM n M (modW X) o.key).has,(nowM n M (modW X) o.key).val),s')) (blk_rd rfl) (by simp [oF,flatV]) (by simp only; omega) fun os' hos'=>?_
   refine s_st (b:=rb) ?_
   unfold zAi.s1
   refine s_end (Δ:=oB (((nowM n M (modW X) o.key).has,(nowM n M (modW X) o.key).val),s')::Sep.stars (O.map oB)::SlC zAx 2 os' (O.flatMap oF++oF (((nowM n M (modW X) o.key).has,(nowM n M (modW X) o.key).val),s'))::blk rb (.cells [.pointer (some ⟨st,0,none⟩),.map (some mb),os'.val].toArray zDV (0,0))::MapR strV wV mb X::Sep.stars (X.map wB)::StoreR st n M::Γ) ?_
   refine zMl ?_
   exact h os' X _ rfl (by simp) hX
  have hb1':¬ o.kind = 1:=by simpa using hb1
  refine s_ite (fun hb=>?_) fun hb7=>?_
  ·have hb':o.kind = 7:=by simpa using hb
   have e:stepW n M (modW X) (O.map Prod.fst) o = (modW X,O.map Prod.fst++[(true,o.val)],0):=by unfold stepW; rw [if_neg hb1',if_pos hb']
   rw [e] at h
   refine s_dr ?_
   refine s_ws ?_
   refine s_nn ?_
   refine s_ldS (b:=rb) (x:=os) ?_
   refine s_ldS (b:=o3) (x:=osl) ?_
   refine zEK (fun w hw=>hv w hw.drops) hvl fun s' _=>?_
   refine s_sv ?_
   refine s_bld1 (cs:=oF ((true,o.val),s')) ?_
   refine s_new fun t=>?_
   refine s_sv ?_
   refine zBJ (esz:=2) (s:=os) (x:=⟨some ⟨t,0,none⟩,1,1⟩) (us:=oF ((true,o.val),s')) (blk_rd rfl) (by simp [oF,flatV]) (by simp only; omega) fun os' hos'=>?_
   refine s_st (b:=rb) ?_
   unfold zAi.s1
   refine s_end (Δ:=oB ((true,o.val),s')::Sep.stars (O.map oB)::SlC zAx 2 os' (O.flatMap oF++oF ((true,o.val),s'))::blk rb (.cells [.pointer (some ⟨st,0,none⟩),.map (some mb),os'.val].toArray zDV (0,0))::MapR strV wV mb X::Sep.stars (X.map wB)::StoreR st n M::Γ) ?_
   refine zMl ?_
   exact h os' X _ rfl (by simp) hX
  have hb7':¬ o.kind = 7:=by simpa using hb7
  refine s_ite (fun hb=>?_) fun hb2=>?_
  ·have hb':o.kind = 2:=by simpa using hb
   have e:stepW n M (modW X) (O.map Prod.fst) o = (setW n M (modW X) o.key true o.val,O.map Prod.fst,0):=by unfold stepW; rw [if_neg hb1',if_neg hb7',if_pos hb']
   rw [e] at h
   refine s_ld (b:=o3) (x:=bs o.key) ?_
   refine s_ld (b:=o3) (x:=osl) ?_
   refine s_end (Δ:=runL rb st mb os X O (StoreR st n M::Γ)) ?_
   refine zJD hk hX hvl (fun w hw=>hv w hw.drops) fun s hok=>?_
   exact h os _ O zIN rfl (zJt hX hok)
  have hb2':¬ o.kind = 2:=by simpa using hb2
  refine s_ite (fun hb=>?_) fun hb3=>?_
  ·have hb':o.kind = 3:=by simpa using hb
   have e:stepW n M (modW X) (O.map Prod.fst) o = (setW n M (modW X) o.key false [],O.map Prod.fst,0):=by unfold stepW; rw [if_neg hb1',if_neg hb7',if_neg hb2',if_pos hb']
   rw [e] at h
   refine s_ld (b:=o3) (x:=bs o.key) ?_
   refine s_end (Δ:=runL rb st mb os X O (StoreR st n M::Γ)) ?_
   refine zJD (val:=[]) hk hX (by simp) (fun w hw=>RdC.none') fun s hok=>?_
   exact h os _ O zIN rfl (zJt hX hok)
  have hb3':¬ o.kind = 3:=by simpa using hb3
  refine s_ite (fun hb=>?_) fun hb4=>?_
  ·have hb':o.kind = 4:=by simpa using hb
   have e:stepW n M (modW X) (O.map Prod.fst) o = (modW X,O.map Prod.fst,if (nowM n M (modW X) o.key).has = true∧(nowM n M (modW X) o.key).val = o.val then 0 else 110):=by unfold stepW; rw [if_neg hb1',if_neg hb7',if_neg hb2',if_neg hb3',if_pos hb']
   rw [e] at h
   have fin:=h os X O rfl rfl hX
   refine s_ld (b:=x5) (x:=(nowM n M (modW X) o.key).has) ?_
   refine s_ite (fun hc=>?_) fun hc=>?_
   ·have hc':(nowM n M (modW X) o.key).has = false:=by simpa using hc
    rw [if_neg (by rw [hc']; simp)] at fin
    unfold zAi.s2
    refine s_t ?_
    exact s_end fin
   ·have hc':(nowM n M (modW X) o.key).has = true:=by simpa using hc
    refine s_ld (b:=x5) (x:=s) ?_
    refine s_ld (b:=o3) (x:=osl) ?_
    refine zNC (fun w hw=>hrd w hw.tail) (fun w hw=>hv w hw.drops) ?_
    unfold zAi.s2
    refine s_ite (fun hd=>?_) fun hd=>?_
    ·have hd':¬ (nowM n M (modW X) o.key).val = o.val:=by simpa using hd
     rw [if_neg fun x=>hd' x.2] at fin
     exact s_end fin
    ·have hd':(nowM n M (modW X) o.key).val = o.val:=by simpa using hd
     rw [if_pos ⟨hc',hd'⟩] at fin
     exact s_end fin
  have hb4':¬ o.kind = 4:=by simpa using hb4
  refine s_ite (fun hb=>?_) fun hb5=>?_
  ·have hb':o.kind = 5:=by simpa using hb
   have e:stepW n M (modW X) (O.map Prod.fst) o = (modW X,O.map Prod.fst,if (nowM n M (modW X) o.key).has then 110 else 0):=by unfold stepW; rw [if_neg hb1',if_neg hb7',if_neg hb2',if_neg hb3',if_neg hb4',if_pos hb']
   rw [e] at h
   have fin:=h os X O rfl rfl hX
   refine s_ld (b:=x5) (x:=(nowM n M (modW X) o.key).has) ?_
   refine s_ite (fun hc=>?_) fun hc=>?_
   ·simp only [hc,if_true] at fin
    exact s_end fin
   ·simp only [hc,Bool.false_eq_true,if_false] at fin
    exact s_end fin
  have hb5':¬ o.kind = 5:=by simpa using hb5
  refine s_ite (fun hb=>?_) fun hb6=>?_
  ·have hb':o.kind = 6:=by simpa using hb
   have e:stepW n M (modW X) (O.map Prod.fst) o = ((addW n M (modW X) o.key o.n).1,O.map Prod.fst,(addW n M (modW X) o.key o.n).2):=by unfold stepW; rw [if_neg hb1',if_neg hb7',if_neg hb2',if_neg hb3',if_neg hb4',if_neg hb5',if_pos hb']
   rw [e] at h
   refine s_ldN (b:=o3) (l':=opF (o,osl)) ?_
   refine s_end (Δ:=runL rb st mb os X O (StoreR st n M::Γ)) ?_
   exact zQ5 ho hX fun X' h1 h2=>h os X' O h1 rfl h2
  ·have hb6':¬ o.kind = 6:=by simpa using hb6
   have e:stepW n M (modW X) (O.map Prod.fst) o = (modW X,O.map Prod.fst,0):=by unfold stepW; rw [if_neg hb1',if_neg hb7',if_neg hb2',if_neg hb3',if_neg hb4',if_neg hb5',if_neg hb6']
   rw [e] at h
   exact s_end (h os X O rfl rfl hX)
 refine s_end (Δ:=runL rb st mb os X O (StoreR st n M::blk o3 (.cells (opF (o,osl)).toArray zBA (0,0))::Γ)) ?_
 refine zG3 hk hX (fun r s hm hok hrd=>?_) fun hm s hok=>?_
 ·refine fun w hw=>?_
  refine hg (show Holds B (pur True::_) w from Holds.pur.2 ⟨trivial,hw⟩) ?_
  clear hw w
  refine s_end (Δ:=pur True::blk o3 (.cells (opF (o,osl)).toArray zBA (0,0))::runL rb st mb os X O (StoreR st n M::Γ)) ?_
  refine rest r s _ ?_ hok fun w hw=>hrd w hw.drops
  unfold nowM; rw [hmg,hm]; rfl
 ·refine s_end (Δ:=Bytes zAd s (sGet n M (bs o.key)).val::blk o3 (.cells (opF (o,osl)).toArray zBA (0,0))::runL rb st mb os X O (StoreR st n M::Γ)) ?_
  refine rest _ s _ ?_ hok fun w hw=>rdB_of hw
  unfold nowM; rw [hmg,hm]; rfl
end
end Go.Proofs.YtdemfamgieonbaaGreat
namespace Go.Proofs.YtdemfamgieonbaaGreat
open Go Go.Sep Go.Sep.Bt
set_option maxRecDepth 100000
def txOk (t:TxX):Prop:=(∀ k ∈ t.writes,k.length < 1000000000000)∧(∀ x ∈ t.ops,x.1.ok)∧t.ops.length < 1000000∧t.writes.length < 1000000∧t.reads.length < 1000000∧∀ k ∈ t.reads,k.length < 1000000000000
def moveW (n:Nat) (M:Recs) (to:Int):List (List UInt8)→WM→WM×Int
 | [],W=>(W,0)
 | k::ks,W=>if (nowM n M W k).cnt = 18446744073709551615 then (W,111) else moveW n M to ks (mset k { nowM n M W k with home:=to,cnt:=(nowM n M W k).cnt + 1 } W)
theorem zGL {n:Nat} {M:Recs} {to:Int} {k:List UInt8} {ks:List (List UInt8)} {W:WM}:moveW n M to (k::ks) W = if (nowM n M W k).cnt = 18446744073709551615 then (W,111) else moveW n M to ks (mset k { nowM n M W k with home:=to,cnt:=(nowM n M W k).cnt + 1 } W):=rfl
theorem zMm {n:Nat} {M:Recs} {to:Int} {W:WM}:moveW n M to [] W = (W,0):=rfl
def opsW (n:Nat) (M:Recs):List OpX→WM→OM→WM×OM×Int
 | [],W,O=>(W,O,0)
 | x::xs,W,O=>if (stepW n M W O x.1).2.2 ≠ 0 then stepW n M W O x.1 else opsW n M xs (stepW n M W O x.1).1 (stepW n M W O x.1).2.1
def runW (n:Nat) (M:Recs) (t:TxX):WM×OM×Int :=
 if t.kind = 2 then ((moveW n M t.to t.writes []).1,[],(moveW n M t.to t.writes []).2) else opsW n M t.ops [] []
section
variable {B:World} {Γ Δ:List HProp} {rb st mb n:Nat} {os:Sl} {X:WX} {O:OX} {M:Recs} {k:List UInt8}
theorem zG4 {r r':Rec} {s:Sl} (hm:mget k X = some (r,s)) (hv:r'.val = r.val):(mset k (r',s) X).map wB = X.map wB:=by
 rcases mfind k X with ⟨h1,_⟩ | ⟨j,x,hj,h0,_,h1,h2,_⟩
 ·rw [h1] at hm; cases hm
 ·rw [h1] at hm
  injection hm with hm
  subst hm
  rw [h2,List.map_set]
  apply List.ext_getElem?
  intro i
  rw [List.getElem?_set]
  split
  ·rename_i h3
   subst h3
   simp only [List.getElem?_map,h0,Option.map_some,List.length_map,hj,if_true]
   show some (Bytes zAd s r'.val) = some (Bytes zAd s r.val)
   rw [hv]
  ·rfl
theorem zQB {Q:Int→K} {t:TxX} (hX:∀ p ∈ X,p.2.1.ok) (htx:txOk t) (ht:∀ w,Holds B Γ w→RdC w t.ws 1 (t.writes.map strV))
  (h:∀ X',modW X' = (moveW n M t.to t.writes (modW X)).1→(∀ p ∈ X',p.2.1.ok)→HG B (runL rb st mb os X' O (StoreR st n M::Γ)) (Q (moveW n M t.to t.writes (modW X)).2)) :
  HG B (runL rb st mb os X O (StoreR st n M::Γ)) (zCj.call (some ⟨rb,0,none⟩) (txL t).toArray Q):=fun w hw=>by
 refine zKc _ _ _ _ ?_
 have hlen:t.ws.n = t.writes.length:=by have:=(ht w hw.drops).len; simpa using this.symm
 refine hg hw ?_
 clear hw w
 unfold zCj
 refine s_new fun t3=>?_
 refine s_ld (b:=t3) (x:=t.ws) ?_
 refine s_end (Δ:=runL rb st mb os X O (StoreR st n M::blk t3 (.cells (txL t).toArray zAj (0,0))::Γ)) ?_
 refine s_loop (α:=Int) (ι:=WX×Nat) (fun x i=>x = (i.2:Int)∧i.2 ≤ t.writes.length∧(∀ p ∈ i.1,p.2.1.ok)∧moveW n M t.to (t.writes.drop i.2) (modW i.1) = moveW n M t.to t.writes (modW X))
  (fun x i=>runL rb st mb os i.1 O (StoreR st n M::blk t3 (.cells (txL t).toArray zAj (0,0))::Γ)) (fun x i=>t.writes.length - i.2) (X,0) ⟨rfl,Nat.zero_le _,hX,rfl⟩ ?_
 rintro k' _ ⟨X1,j⟩ ⟨rfl,hj,hX1,he⟩ hk'
 simp only at hj hX1 he hk' ⊢
 unfold zCj.b1
 refine s_ite (fun hb=>?_) fun hb=>?_
 ·have hjl:j < t.writes.length:=by simp only [decide_eq_true_eq] at hb; omega
  have hd:t.writes.drop j = t.writes[j]::t.writes.drop (j + 1):=List.drop_eq_getElem_cons hjl
  have hkl:t.writes[j].length < 1000000000000:=htx.1 _ (List.getElem_mem hjl)
  have hge:t.writes[j]? = some t.writes[j]:=List.getElem?_eq_getElem hjl
  rw [hd] at he
  generalize t.writes[j] = key at he hkl hge
  refine s_idxS (L:=t.writes) (fun w hw=>ht w hw.drops) hge ?_
  have hmg:mget key (modW X1) = (mget key X1).map (·.1):=zFk _ _ _
  rw [zGL] at he
  have rest:∀ (r:Rec) (s:Sl) (A:HProp),r = nowM n M (modW X1) key→r.ok→(∀ r':Rec,r'.val = r.val→∀ q:K,HG B (Sep.stars ((mset key (r',s) X1).map wB)::blk rb (.cells [.pointer (some ⟨st,0,none⟩),.map (some mb),os.val].toArray zDV (0,0))::MapR strV wV mb (mset key (r',s) X1)::SlC zAx 2 os (O.flatMap oF)::Sep.stars (O.map oB)::StoreR st n M::blk t3 (.cells (txL t).toArray zAj (0,0))::Γ) q→HG B (A::Sep.stars (X1.map wB)::blk rb (.cells [.pointer (some ⟨st,0,none⟩),.map (some mb),os.val].toArray zDV (0,0))::MapR strV wV mb (mset key (r',s) X1)::SlC zAx 2 os (O.flatMap oF)::Sep.stars (O.map oB)::StoreR st n M::blk t3 (.cells (txL t).toArray zAj (0,0))::Γ) q) →
    HG B (A::runL rb st mb os X1 O (StoreR st n M::blk t3 (.cells (txL t).toArray zAj (0,0))::Γ)) ((fun t17=>New zA9 [.bool false,Sl.val ⟨none,0,0⟩,.int .i64 0,.int .u64 0].toArray fun x7 =>
  StN x7 4 t17 <|
  Ld (x7.add 3) (Value.int .u64) fun t19 =>
  Ite (decide (t19 = 18446744073709551615))
   (Q 111)
   (Ld ((⟨t3,0,none⟩:Addr).add 4) (Value.int .i64) fun t22 =>
   St (x7.add 2) (.int .i64 t22) <|
   Ld (x7.add 3) (Value.int .u64) fun t25 =>
   Ar (IntKind.wrap .u64 (t25 + 1)) fun t26 =>
   St (x7.add 3) (.int .u64 t26) <|
   Dr <|
   Nn (some ⟨rb,0,none⟩) fun t29 =>
   Ld (t29.add 1) Value.map fun t31 =>
   LdN x7 4 fun t33 =>
   DoU Tryz.prog (Instr.mapUpdate zCc (.map t31) (.string (bs key)) (.agg t33)) <|
   Ar (IntKind.wrap .i64 ((j:Int) + 1)) fun t34 =>
   k' t34)) (recA r s)):=fun r s A hr hok hA=>by
   subst hr
   dsimp only
   refine s_new fun x7=>?_
   refine s_stN (b:=x7) (l':=recL (nowM n M (modW X1) key) s) ?_
   refine s_ld (b:=x7) (x:=(nowM n M (modW X1) key).cnt) ?_
   refine s_ite (fun hc=>?_) fun hc=>?_
   ·rw [if_pos (by simpa using hc)] at he
    have:=h X1 (by rw [← he]) hX1
    rw [← he] at this
    exact s_end this
   ·have hc':¬ (nowM n M (modW X1) key).cnt = 18446744073709551615:=by simpa using hc
    rw [if_neg hc'] at he
    refine s_ld (b:=t3) (x:=t.to) ?_
    refine s_st (b:=x7) ?_
    refine s_ld (b:=x7) (x:=(nowM n M (modW X1) key).cnt) ?_
    obtain ⟨o1,o2,o3⟩:=hok
    refine s_ar (wrapU64 (by omega) (by omega)) ?_
    refine s_st (b:=x7) ?_
    refine s_dr ?_
    refine s_nn ?_
    refine s_ld (b:=rb) (x:=some mb) ?_
    refine s_ldN (b:=x7) (l':=recL { nowM n M (modW X1) key with home:=t.to,cnt:=(nowM n M (modW X1) key).cnt + 1 } s) ?_
    refine s_upd (b:=mb) (enc:=strV) (cV:=wV) (v:=(({ nowM n M (modW X1) key with home:=t.to,cnt:=(nowM n M (modW X1) key).cnt + 1 }:Rec),s)) (cG:=Value.agg) rfl mapRec zFp ?_
    have hwl:=htx.2.2.2.1
    refine s_ai ?_
    refine s_end (Δ:=A::Sep.stars (X1.map wB)::blk rb (.cells [.pointer (some ⟨st,0,none⟩),.map (some mb),os.val].toArray zDV (0,0))::MapR strV wV mb (mset key ({ nowM n M (modW X1) key with home:=t.to,cnt:=(nowM n M (modW X1) key).cnt + 1 },s) X1)::SlC zAx 2 os (O.flatMap oF)::Sep.stars (O.map oB)::StoreR st n M::blk t3 (.cells (txL t).toArray zAj (0,0))::Γ) ?_
    refine hA { nowM n M (modW X1) key with home:=t.to,cnt:=(nowM n M (modW X1) key).cnt + 1 } rfl _ ?_
    refine s_end (Δ:=runL rb st mb os (mset key ({ nowM n M (modW X1) key with home:=t.to,cnt:=(nowM n M (modW X1) key).cnt + 1 },s) X1) O (StoreR st n M::blk t3 (.cells (txL t).toArray zAj (0,0))::Γ)) ?_
    refine hk' _ (mset key ({ nowM n M (modW X1) key with home:=t.to,cnt:=(nowM n M (modW X1) key).cnt + 1 },s) X1,j + 1) ⟨by simp,hjl,zJt hX1 ⟨by simp only; omega,by simp only; omega,o3⟩,?_⟩ (by simp only; omega)
    simp only
    rw [zIN]
    exact he
  refine zG3 hkl hX1 (fun r s hm hok hrd=>?_) fun hm s hok=>?_
  ·refine fun w hw=>?_
   refine hg (show Holds B (pur True::_) w from Holds.pur.2 ⟨trivial,hw⟩) ?_
   clear hw w
   refine rest r s _ (by unfold nowM; rw [hmg,hm]; rfl) hok fun r' hr' q hq=>?_
   rw [zG4 hm hr'] at hq
   exact s_end hq
  ·refine rest _ s _ (by unfold nowM; rw [hmg,hm]; rfl) hok fun r' hr' q hq=>?_
   rw [show Bytes zAd s (sGet n M (bs key)).val = wB (key,(r',s)) by show _ = Bytes zAd s r'.val; rw [hr']]
   exact s_mset hq
 ·have hjl:j = t.writes.length:=by simp only [decide_eq_false_iff_not] at hb; omega
  rw [hjl,List.drop_length,zMm] at he
  have:=h X1 (by rw [← he]) hX1
  rw [← he] at this
  exact s_end this
end
def rowF (x:List UInt8×(Rec×Sl)):List Value:=strV x.1::recL x.2.1 x.2.2
theorem zKf (x:List UInt8×(Rec×Sl)):(rowF x).length = 5:=rfl
def sortW {ν:Type} (W:List (List UInt8×ν)):List (List UInt8×ν):=W.mergeSort fun p q=>decide (p.1 ≤ q.1)
theorem zQC {ν:Type} (W:List (List UInt8×ν)):(sortW W).map Prod.fst = sortL (W.map Prod.fst):=List.map_mergeSort (fun a _ b _=>rfl)
theorem zQ7 (X:WX):modW (sortW X) = sortW (modW X):=List.map_mergeSort (fun a _ b _=>rfl)
theorem zEu {ν:Type} (W:List (List UInt8×ν)):(sortW W).Perm W:=List.mergeSort_perm _ _
abbrev KeysOnce {ν:Type} (W:List (List UInt8×ν)):Prop:=(W.map Prod.fst).Nodup
theorem zJE {ν:Type} {W:List (List UInt8×ν)} {k:List UInt8} {v:ν} (h:KeysOnce W):KeysOnce (mset k v W):=by
 unfold KeysOnce
 rw [zF5]
 split
 ·exact h
 ·rename_i hk
  refine List.nodup_append.2 ⟨h,by simp,fun a ha b hb=>?_⟩
  rw [List.mem_singleton.1 hb]
  exact fun e=>hk (e ▸ ha)
theorem zSZ {ν:Type} {W:List (List UInt8×ν)} {k:List UInt8} {v:ν} (h:KeysOnce W) (hm:(k,v) ∈ W):mget k W = some v:=by
 induction W with
 | nil=>cases hm
 | cons p W ih =>
  have h1:=List.nodup_cons.1 (show (p.1::W.map Prod.fst).Nodup from h)
  unfold mget
  rcases List.mem_cons.1 hm with rfl | hm
  ·rw [if_pos rfl]
  ·rw [if_neg (show ¬ k = p.1 from fun e=>h1.1 (by rw [← e]; exact List.mem_map.2 ⟨_,hm,rfl⟩))]
   exact ih h1.2 hm
theorem zMn {n:Nat} {M:Recs} {W:WM} {O:OM} {o:OpM} (h:KeysOnce W):KeysOnce (stepW n M W O o).1:=by
 unfold stepW setW
 repeat' split
 all_goals first | exact h | exact zJE h | skip
 unfold addW setW
 repeat' split
 all_goals first | exact h | exact zJE h
theorem zSa {n:Nat} {M:Recs} {W:WM} {O:OM} {o:OpM}:(stepW n M W O o).2.1.length ≤ O.length + 1:=by
 unfold stepW
 repeat' split
 all_goals simp
theorem zOK {n:Nat} {M:Recs}:∀ {xs:List OpX} {W:WM} {O:OM},KeysOnce W→KeysOnce (opsW n M xs W O).1
 | [],_,_,h=>h
 | x::xs,W,O,h=>by
  unfold opsW
  split
  ·exact zMn h
  ·exact zOK (zMn h)
theorem zMo {n:Nat} {M:Recs} {to:Int}:∀ {ks:List (List UInt8)} {W:WM},KeysOnce W→KeysOnce (moveW n M to ks W).1
 | [],_,h=>h
 | k::ks,W,h=>by
  rw [zGL]
  split
  ·exact h
  ·exact zMo (zJE h)
theorem zSb {n:Nat} {M:Recs} {t:TxX}:KeysOnce (runW n M t).1:=by
 unfold runW
 split
 ·exact zMo (by simp [KeysOnce])
 ·exact zOK (by simp [KeysOnce])
theorem zGC {n:Nat} {M:Recs} {x:OpX} {xs:List OpX} {W:WM} {O:OM}:opsW n M (x::xs) W O = if (stepW n M W O x.1).2.2 ≠ 0 then stepW n M W O x.1 else opsW n M xs (stepW n M W O x.1).1 (stepW n M W O x.1).2.1:=rfl
theorem zOL {n:Nat} {M:Recs} {W:WM} {O:OM}:opsW n M [] W O = (W,O,0):=rfl
section
variable {B:World} {Γ Δ:List HProp} {rb st mb n t4:Nat} {os:Sl} {X:WX} {O:OX} {M:Recs} {k:List UInt8}
theorem zQ8 {Q:Array Value→Sl→K} {e:Int} (hX:KeysOnce X) (hXl:X.length ≤ 1000000)
  (hbad:e ≠ 0→HG B Γ (Q #[.int .i64 e,Sl.val ⟨none,0,0⟩] ⟨none,0,0⟩))
  (hgood:e = 0→∀ rows,HG B (SlC zAx 2 os (O.flatMap oF)::Sep.stars (O.map oB)::SlC zC0 5 rows ((sortW X).flatMap rowF)::Sep.stars ((sortW X).map wB)::Γ) (Q #[.int .i64 0,os.val] rows)) :
  HG B (blk t4 (.cells [.int .i64 0,Sl.val ⟨none,0,0⟩].toArray zA3 (0,0))::runL rb st mb os X O Γ) (zBq.s1 Q ⟨t4,0,none⟩ ⟨rb,0,none⟩ e):=by
 unfold zBq.s1
 refine s_ite (fun hb=>?_) fun hb=>?_
 ·refine s_stN (b:=t4) (l':=[.int .i64 e,Sl.val ⟨none,0,0⟩]) ?_
  refine s_ldN (b:=t4) (l':=[.int .i64 e,Sl.val ⟨none,0,0⟩]) ?_
  exact s_end (hbad (by simpa using hb))
 have h0:e = 0:=by simpa using hb
 have hgood:=hgood h0
 refine s_ld (b:=rb) (x:=some mb) ?_
 refine s_own mb ?_
 refine fun w hw=>zJ2 hXl hw fun ks w hw=>?_
 refine hg hw ?_
 clear hw w
 rw [← zQC]
 generalize hR:sortW X = R at *
 have hRm:∀ x ∈ R,mget x.1 X = some x.2:=fun x hx=>zSZ hX (by rw [← hR] at hx; exact (zEu X).subset hx)
 have hRl:R.length ≤ 1000000:=by rw [← hR,(zEu X).length_eq]; exact hXl
 have hperm:(R.map wB).Perm (X.map wB):=by rw [← hR]; exact (zEu X).map _
 refine s_cap ks fun c1 c2 c3 c4=>?_
 have hkn:ks.n = R.length:=by simpa using c1.symm
 refine fun w hw=>?_
 refine hg (show Holds B (SlC zC0 5 ⟨none,0,0⟩ []::_) w from hw.nilSl _ _) ?_
 clear hw w
 refine s_loop (α:=Sl×Int) (ι:=Nat) (fun x i=>x.2 = (i:Int)∧i ≤ R.length)
  (fun x i=>SlC zC0 5 x.1 ((R.take i).flatMap rowF)::SlS ks (R.map Prod.fst)::MapR strV wV mb X::blk t4 (.cells [.int .i64 0,Sl.val ⟨none,0,0⟩].toArray zA3 (0,0))::blk rb (.cells [.pointer (some ⟨st,0,none⟩),.map (some mb),os.val].toArray zDV (0,0))::Sep.stars (X.map wB)::SlC zAx 2 os (O.flatMap oF)::Sep.stars (O.map oB)::Γ) (fun x i=>R.length - i) 0 ⟨rfl,Nat.zero_le _⟩ ?_
 rintro k' ⟨rows,jj⟩ j ⟨hj,hjl⟩ hk'
 simp only at hj hjl hk' ⊢
 subst hj
 unfold zBq.b2
 refine s_cap rows fun d1 d2 d3 d4=>?_
 rw [zAL _ 5 zKf,List.length_take,Nat.min_eq_left hjl] at d1
 refine s_ite (fun hb2=>?_) fun hb2=>?_
 ·have hjl2:j < R.length:=by simp only [decide_eq_true_eq] at hb2; omega
  have hge:(R.map Prod.fst)[j]? = some R[j].1:=by rw [List.getElem?_map,List.getElem?_eq_getElem hjl2]; rfl
  have hmx:=hRm _ (List.getElem_mem hjl2)
  have htk:R.take (j + 1) = R.take j++[R[j]]:=List.take_succ_eq_append_getElem hjl2
  generalize R[j] = x at hge hmx htk
  refine s_idxS (L:=R.map Prod.fst) (fun w hw=>(own_rd (s:=ks) hw).1) hge ?_
  refine s_ld (b:=rb) (x:=some mb) ?_
  refine zTK (b:=mb) (enc:=strV) (cV:=wV) (cG:=Value.agg) (g:=fun x=>recA x.1 x.2) (z:=zRec) (a:=x.1) (fun _=>rfl) mapRec zFp zeroRec ?_
  rw [hmx]
  refine s_bld (cs:=rowF x) ?_ rfl
  refine s_bld1 (cs:=rowF x) ?_
  refine s_app1 (s:=rows) (m:=1) (us:=rowF x) (fun rows' hrows'=>?_)
  refine s_ai ?_
  have e1:(R.take j).flatMap rowF++rowF x = (R.take (j + 1)).flatMap rowF:=by rw [htk]; simp
  rw [e1]
  exact hk' (rows',(j:Int) + 1) (j + 1) ⟨by simp,hjl2⟩ (by omega)
 ·have hjl2:j = R.length:=by simp only [decide_eq_false_iff_not] at hb2; omega
  refine s_ld (b:=rb) (x:=os) ?_
  refine s_stN (b:=t4) (l':=[.int .i64 0,os.val]) ?_
  refine s_ldN (b:=t4) (l':=[.int .i64 0,os.val]) ?_
  rw [hjl2,List.take_length]
  refine s_pick (Sep.stars (X.map wB)) ?_
  refine fun w hw=>?_
  refine hg (show Holds B (Sep.stars (R.map wB)::_) w from Holds.flat.2 ((Holds.flat.1 hw).perm (hperm.symm.append_right _))) ?_
  exact s_end (hgood rows)
theorem zSc (X:WX):(modW X).map Prod.fst = X.map Prod.fst:=by simp [modW,Function.comp_def]
theorem zKg {ν:Type} (W:List (List UInt8×ν)) (k:List UInt8) (v:ν):(mset k v W).length ≤ W.length + 1:=by
 have h:=congrArg List.length (zF5 W k v)
 rw [List.length_map] at h
 rw [h]
 split
 ·simp
 ·simp
theorem zQ9 {n:Nat} {M:Recs} {W:WM} {O:OM} {o:OpM}:(stepW n M W O o).1.length ≤ W.length + 1:=by
 unfold stepW setW
 repeat' split
 all_goals first | exact zKg _ _ _ | (simp only; omega) | skip
 unfold addW setW
 repeat' split
 all_goals first | exact zKg _ _ _ | (simp only; omega)
theorem zKh {n:Nat} {M:Recs}:∀ {xs:List OpX} {W:WM} {O:OM},(opsW n M xs W O).1.length ≤ W.length + xs.length
 | [],_,_=>by simp [opsW]
 | x::xs,W,O=>by
  rw [zGC]
  have:=zQ9 (n:=n) (M:=M) (W:=W) (O:=O) (o:=x.1)
  split
  ·simp only [List.length_cons]; omega
  ·have h2:=zKh (n:=n) (M:=M) (xs:=xs) (W:=(stepW n M W O x.1).1) (O:=(stepW n M W O x.1).2.1)
   simp only [List.length_cons]; omega
theorem zJF {n:Nat} {M:Recs} {to:Int}:∀ {ks:List (List UInt8)} {W:WM},(moveW n M to ks W).1.length ≤ W.length + ks.length
 | [],_=>by simp [moveW]
 | k::ks,W=>by
  rw [zGL]
  split
  ·simp only [List.length_cons]; omega
  ·exact Nat.le_trans zJF (Nat.le_trans (Nat.add_le_add_right (zKg _ _ _) _) (by simp only [List.length_cons]; omega))
theorem zOn {Q:Array Value→Sl→K} {t:TxX} (htx:txOk t) (ht:∀ w,Holds B Γ w→txRd w t)
  (hbad:(runW n M t).2.2 ≠ 0→HG B (StoreR st n M::Γ) (Q #[.int .i64 (runW n M t).2.2,Sl.val ⟨none,0,0⟩] ⟨none,0,0⟩))
  (hgood:(runW n M t).2.2 = 0→∀ (os:Sl) (O:OX) (rows:Sl) (R:WX),O.map Prod.fst = (runW n M t).2.1→modW R = sortW (runW n M t).1→(∀ p ∈ R,p.2.1.ok)→HG B (SlC zAx 2 os (O.flatMap oF)::Sep.stars (O.map oB)::SlC zC0 5 rows (R.flatMap rowF)::Sep.stars (R.map wB)::StoreR st n M::Γ) (Q #[.int .i64 0,os.val] rows)) :
  HG B (StoreR st n M::Γ) (zBq.call (some ⟨st,0,none⟩) (txL t).toArray Q):=fun w hw=>by
 refine zOm _ _ _ _ ?_
 have hon:t.os.n = t.ops.length:=rd_len zC4 (by omega) (ht w hw.drops).2.2.1
 refine hg hw ?_
 clear hw w
 unfold zBq
 refine s_new fun t3=>?_
 refine s_new fun t4=>?_
 refine zFl (enc:=strV) (cV:=wV) fun mb=>?_
 refine s_new fun rb=>?_
 refine s_ld (b:=t3) (x:=t.kind) ?_
 refine fun w hw=>?_
 refine hg (show Holds B (Sep.stars (([]:WX).map wB)::_) w from Holds.flat.2 hw) ?_
 clear hw w
 refine fun w hw=>?_
 refine hg (show Holds B (Sep.stars (([]:OX).map oB)::_) w from Holds.flat.2 hw) ?_
 clear hw w
 refine fun w hw=>?_
 refine hg (show Holds B (SlC zAx 2 ⟨none,0,0⟩ (([]:OX).flatMap oF)::_) w from hw.nilSl _ _) ?_
 clear hw w
 have fin:∀ (os:Sl) (X:WX) (O:OX) (e:Int),modW X = (runW n M t).1→O.map Prod.fst = (runW n M t).2.1→e = (runW n M t).2.2→(∀ p ∈ X,p.2.1.ok)→HG B (blk t4 (.cells [.int .i64 0,Sl.val ⟨none,0,0⟩].toArray zA3 (0,0))::runL rb st mb os X O (StoreR st n M::Γ)) (zBq.s1 Q ⟨t4,0,none⟩ ⟨rb,0,none⟩ e):=fun os X O e h1 h2 h3 h4=>by
  have hko:KeysOnce X:=by unfold KeysOnce; rw [← zSc,h1]; exact zSb
  have hwl:X.length ≤ 1000000:=by
   have e1:X.length = (modW X).length:=by simp
   rw [e1,h1]
   unfold runW
   have:=htx.2.2
   split
   ·have h5:=zJF (n:=n) (M:=M) (to:=t.to) (ks:=t.writes) (W:=[])
    simp only [List.length_nil] at h5
    simp only; omega
   ·have h5:=zKh (n:=n) (M:=M) (xs:=t.ops) (W:=[]) (O:=[])
    simp only [List.length_nil] at h5
    omega
  refine zQ8 hko hwl (fun h5=>?_) fun h5 rows=>?_
  ·rw [h3]; exact hbad (by rw [← h3]; exact h5)
  ·refine hgood (by rw [← h3]; exact h5) os O rows (sortW X) h2 (by rw [zQ7,h1]) fun p hp=>h4 p ((zEu X).subset hp)
 refine s_ite (fun hb=>?_) fun hb=>?_
 ·have hk2:t.kind = 2:=by simpa using hb
  have hr:runW n M t = ((moveW n M t.to t.writes []).1,[],(moveW n M t.to t.writes []).2):=by unfold runW; rw [if_pos hk2]
  refine s_ldN (b:=t3) (l':=txL t) ?_
  refine s_end (Δ:=runL rb st mb ⟨none,0,0⟩ [] [] (StoreR st n M::blk t4 (.cells [.int .i64 0,Sl.val ⟨none,0,0⟩].toArray zA3 (0,0))::Γ)) ?_
  refine zQB (by simp) htx (fun w hw=>(ht w hw.tail).2.1) fun X' h1 h2=>?_
  refine s_end (Δ:=blk t4 (.cells [.int .i64 0,Sl.val ⟨none,0,0⟩].toArray zA3 (0,0))::runL rb st mb ⟨none,0,0⟩ X' [] (StoreR st n M::Γ)) ?_
  exact fin _ X' [] _ (by rw [hr]; exact h1) (by rw [hr]; rfl) (by rw [hr]; rfl) h2
 ·have hk2:¬ t.kind = 2:=by simpa using hb
  have hr:runW n M t = opsW n M t.ops [] []:=by unfold runW; rw [if_neg hk2]
  refine s_ld (b:=t3) (x:=t.os) ?_
  refine s_end (Δ:=runL rb st mb ⟨none,0,0⟩ [] [] (StoreR st n M::blk t4 (.cells [.int .i64 0,Sl.val ⟨none,0,0⟩].toArray zA3 (0,0))::Γ)) ?_
  refine s_loop (α:=Int×Int) (ι:=Sl×WX×OX×Nat) (fun x i=>x.1 = 0∧x.2 = (i.2.2.2:Int)∧i.2.2.2 ≤ t.ops.length∧(∀ p ∈ i.2.1,p.2.1.ok)∧i.2.2.1.length ≤ i.2.2.2∧opsW n M (t.ops.drop i.2.2.2) (modW i.2.1) (i.2.2.1.map Prod.fst) = opsW n M t.ops [] [])
   (fun x i=>runL rb st mb i.1 i.2.1 i.2.2.1 (StoreR st n M::blk t4 (.cells [.int .i64 0,Sl.val ⟨none,0,0⟩].toArray zA3 (0,0))::Γ)) (fun x i=>t.ops.length - i.2.2.2) (⟨none,0,0⟩,[],[],0) ⟨rfl,rfl,Nat.zero_le _,by simp,Nat.le_refl _,rfl⟩ ?_
  rintro k' ⟨_,_⟩ ⟨os1,X1,O1,j⟩ ⟨rfl,rfl,hjl,hX1,hO1,he⟩ hk'
  simp only at hjl hX1 hO1 he hk' ⊢
  unfold zBq.b3
  refine s_ite (fun hb2=>?_) fun hb2=>?_
  ·have hjl2:j < t.ops.length:=by simp only [decide_eq_true_eq] at hb2; omega
   have hge:t.ops[j]? = some t.ops[j]:=List.getElem?_eq_getElem hjl2
   have hmem:t.ops[j] ∈ t.ops:=List.getElem_mem hjl2
   rw [List.drop_eq_getElem_cons hjl2] at he
   generalize t.ops[j] = x at hge hmem he
   obtain ⟨o,osl⟩:=x
   refine s_idxN opF zC4 (fun w hw=>(ht w hw.drops).2.2.1) hge ?_
   refine s_new fun o9=>?_
   refine s_stN (b:=o9) (l':=opF (o,osl)) ?_
   refine s_ldN (b:=o9) (l':=opF (o,osl)) ?_
   refine s_end (Δ:=runL rb st mb os1 X1 O1 (StoreR st n M::blk t4 (.cells [.int .i64 0,Sl.val ⟨none,0,0⟩].toArray zA3 (0,0))::Γ)) ?_
   have hol:=htx.2.2.1
   refine zQA (htx.2.1 _ hmem) hX1 (by omega) (fun w hw=>(ht w hw.tail).2.2.2 _ hmem) fun os2 X2 O2 h1 h2 h3=>?_
   rw [zGC] at he
   refine s_ite (fun hc=>?_) fun hc=>?_
   ·have hc':(stepW n M (modW X1) (O1.map Prod.fst) o).2.2 ≠ 0:=by simpa using hc
    rw [if_pos hc'] at he
    refine s_end (Δ:=blk t4 (.cells [.int .i64 0,Sl.val ⟨none,0,0⟩].toArray zA3 (0,0))::runL rb st mb os2 X2 O2 (StoreR st n M::Γ)) ?_
    exact fin os2 X2 O2 _ (by rw [hr,← he,h1]) (by rw [hr,← he,h2]) (by rw [hr,← he]) h3
   ·have hc':(stepW n M (modW X1) (O1.map Prod.fst) o).2.2 = 0:=by simpa using hc
    rw [if_neg (by simp [hc'])] at he
    refine s_ai ?_
    rw [hc']
    refine hk' (0,(j:Int) + 1) (os2,X2,O2,j + 1) ⟨rfl,by simp,hjl2,h3,?_,?_⟩ (by simp only; omega)
    ·have e1:=congrArg List.length h2
     have e2:=zSa (n:=n) (M:=M) (W:=modW X1) (O:=O1.map Prod.fst) (o:=o)
     simp only [List.length_map] at e1 e2
     simp only; omega
    ·simp only
     rw [h1,h2]; exact he
  ·have hjl2:j = t.ops.length:=by simp only [decide_eq_false_iff_not] at hb2; omega
   rw [hjl2,List.drop_length,zOL] at he
   refine s_end (Δ:=blk t4 (.cells [.int .i64 0,Sl.val ⟨none,0,0⟩].toArray zA3 (0,0))::runL rb st mb os1 X1 O1 (StoreR st n M::Γ)) ?_
   exact fin os1 X1 O1 _ (by rw [hr,← he]) (by rw [hr,← he]) (by rw [hr,← he]) hX1
end
end Go.Proofs.YtdemfamgieonbaaGreat
namespace Go.Sep
open Go Go.RowKit
namespace Bt
section
variable {κ:Type} {G:BtT κ} {c:κ→κ→Int} {B:World} {Γ Δ:List HProp}
def wv:List G.It→List (Kid G)→List G.It
 | its,[]=>its
 | [],q::_=>q.2
 | x::its,q::ks=>q.2++x::wv its ks
theorem wv_ps (q0:Kid G):∀ (ps:List (G.It×Kid G)),wv (ps.map Prod.fst) (q0::ps.map Prod.snd) = psL q0 ps
 | []=>by simp [wv,psL]
 | (x,q)::ps=>by
  have e:psL q0 ((x,q)::ps) = q0.2++x::psL q ps:=by simp [psL]
  rw [e,← wv_ps q ps]; rfl
def Fit (d:Nat) (its:List G.It) (ks:List (Kid G)):Prop:=match d with
 | 0=>ks = []
 | _ + 1=>ks.length = its.length + 1
def kidsD (G:BtT κ):Nat→List (Kid G)→HProp
 | 0,_=>Sep.stars []
 | d + 1,ks=>kidsR G d ks
abbrev rawL (G:BtT κ) (d b:Nat) (s kd:Sl) (its:List G.It) (ks:List (Kid G)) (Γ:List HProp):List HProp:=nodeB G b s kd::itsR G s its::kpsR G kd (ks.map ptr)::kidsD G d ks::Γ
theorem s_raw {d m b:Nat} {L:List G.It} {k:K} (h:∀ s kd its ks,Fit d its ks→its.length ≤ 5→(m = 2→its ≠ [])→L = wv its ks→HG B (rawL G d b s kd its ks Γ) k):HG B (NodeR G d m b L::Γ) k:=by
 cases d with
 | zero =>
  refine zHO fun s kd h1 h2=>?_
  refine fun w hw=>?_
  refine hg (show Holds B (kidsD G 0 []::_) w from Holds.flat.2 hw) ?_
  have:=h s kd L [] rfl h2 h1 (by cases L <;> rfl)
  refine s_end (Δ:=nodeB G b s kd::itsR G s L::kpsR G kd []::kidsD G 0 []::Γ) ?_
  exact this
 | succ d =>
  refine zJp fun s kd q0 ps h1 h2 h3=>?_
  exact h s kd (ps.map Prod.fst) (q0::ps.map Prod.snd) (by simp [Fit]) (by simpa using h2) (fun hm=>by simpa using h1 (by omega)) (by rw [h3,wv_ps])
theorem zip_ps {its:List G.It} {ks:List (Kid G)} (h:ks.length = its.length + 1):∃ (q0:Kid G) (ps:List (G.It×Kid G)),its = ps.map Prod.fst∧ks = q0::ps.map Prod.snd:=by
 cases ks with
 | nil=>simp at h
 | cons q0 ks =>
  refine ⟨q0,its.zip ks,?_,?_⟩
  ·rw [List.map_fst_zip (by simp at h; omega)]
  ·rw [List.map_snd_zip (by simp at h; omega)]
theorem zEM {d m b:Nat} {s kd:Sl} {its:List G.It} {ks:List (Kid G)} {k:K} (hf:Fit d its ks) (hl:its.length ≤ 5) (hm:1 ≤ m→(d = 0∧m = 1)∨its ≠ []) (h:HG B (NodeR G d m b (wv its ks)::Γ) k):HG B (rawL G d b s kd its ks Γ) k:=by
 cases d with
 | zero =>
  have hk:ks = []:=hf
  subst hk
  have e:wv its [] = its:=by cases its <;> rfl
  rw [e] at h
  show HG B (nodeB G b s kd::itsR G s its::kpsR G kd []::kidsD G 0 []::Γ) k
  refine s_end (Δ:=nodeB G b s kd::itsR G s its::kpsR G kd []::Γ) ?_
  exact s_mk0 (fun h2=>by
               rcases hm (by omega) with h3 | h3
               ·omega
               ·exact h3) hl h
 | succ d =>
  obtain ⟨q0,ps,rfl,rfl⟩:=zip_ps hf
  rw [wv_ps] at h
  exact s_mkS (fun h2=>by
               rcases hm h2 with h3 | h3
               ·omega
               ·simpa using h3) (by simpa using hl) h
end
end Bt
end Go.Sep
namespace Go.Sep
open Go Go.RowKit
namespace Bt
structure BtD (κ:Type) extends BtT κ where
 delIC:Sl→Int→Int→(Sl→K)→K
 delKC:Sl→Int→Int→(Sl→K)→K
 ntakeC:Option Addr→κ→(Array Value→Bool→K)→K
 nlastC:Option Addr→(Array Value→K)→K
 nmendC:Option Addr→Int→K→K
section
variable {κ:Type}
def zFw (G:BtD κ) (Q:K)  (n0_2:Addr) (i1_2:Int) (kid4_2:Addr) (t202_2:Bool):K :=
 Ite t202_2
  (Ld (n0_2.add 1) Sl.val fun t229 =>
  Ar (IntKind.wrap .i64 (i1_2 + 1)) fun t231 =>
  Idx t229 t231 1 fun t232 =>
  Ld t232 Value.pointer fun t233 =>
  Dr <| WithS fun S =>
  LdS S kid4_2 Sl.val fun t238 =>
  LdS S n0_2 Sl.val fun t242 =>
  Idx t242 i1_2 (G.nv + 1) fun t244 =>
  LdNS S t244 (G.nv + 1) fun t245 =>
  Bld (G.kz::G.vz).toArray (fun i=>some (i * (G.nv + 1),(G.nv + 1))) [(0,(.agg t245))] fun ct246 =>
  New G.tI ct246 fun t246 =>
  Sv S <|
  Do G.P (Builtin.append_ #[G.tSI,G.tSI] G.tSI #[(Sl.val t238),(Sl.val (Sl.mk (some t246) 1 1))]) Sl.val fun t247 =>
  St kid4_2 (Sl.val t247) <|
  Dr <|
  Nn t233 fun t256 =>
  Ld n0_2 Sl.val fun t253 =>
  Ld t256 Sl.val fun t258 =>
  Idx t258 0 (G.nv + 1) fun t259 =>
  LdN t259 (G.nv + 1) fun t260 =>
  Idx t253 i1_2 (G.nv + 1) fun t261 =>
  StN t261 (G.nv + 1) t260 <|
  Ld t256 Sl.val fun t266 =>
  G.delIC t266 0 1 fun t267 =>
  St t256 (Sl.val t267) <|
  Ld (t256.add 1) Sl.val fun t273 =>
  Ite (decide ((0:Int) < (t273.n:Int)))
   (Dr <| WithS fun S =>
   LdS S (kid4_2.add 1) Sl.val fun t280 =>
   LdS S (t256.add 1) Sl.val fun t284 =>
   Idx t284 0 1 fun t285 =>
   LdS S t285 Value.pointer fun t286 =>
   New G.tK #[(.pointer t286)] fun t287 =>
   Sv S <|
   Do G.P (Builtin.append_ #[G.tSK,G.tSK] G.tSK #[(Sl.val t280),(Sl.val (Sl.mk (some t287) 1 1))]) Sl.val fun t288 =>
   St (kid4_2.add 1) (Sl.val t288) <|
   Ld (t256.add 1) Sl.val fun t295 =>
   G.delKC t295 0 1 fun t296 =>
   St (t256.add 1) (Sl.val t296) <|
   Q)
   (Q))
  (Ar (if (1:Int) > i1_2 then 1 else i1_2) fun t18 =>
  Dr <|
  Ld (n0_2.add 1) Sl.val fun t22 =>
  Ar (IntKind.wrap .i64 (t18 - 1)) fun t24 =>
  Idx t22 t24 1 fun t25 =>
  Ld t25 Value.pointer fun t26 =>
  Ld (n0_2.add 1) Sl.val fun t30 =>
  Idx t30 t18 1 fun t32 =>
  Ld t32 Value.pointer fun t33 =>
  Dr <| WithS fun S =>
  Nn t26 fun t36 =>
  Ar (IntKind.wrap .i64 (t18 - 1)) fun t44 =>
  Nn t33 fun t50 =>
  LdS S t36 Sl.val fun t38 =>
  LdS S n0_2 Sl.val fun t42 =>
  Idx t42 t44 (G.nv + 1) fun t45 =>
  LdNS S t45 (G.nv + 1) fun t46 =>
  LdS S t50 Sl.val fun t52 =>
  Bld (G.kz::G.vz).toArray (fun i=>some (i * (G.nv + 1),(G.nv + 1))) [(0,(.agg t46))] fun ct47 =>
  New G.tI ct47 fun t47 =>
  Sv S <|
  Do G.P (Builtin.append_ #[G.tSI,G.tSI] G.tSI #[(Sl.val t38),(Sl.val (Sl.mk (some t47) 1 1))]) Sl.val fun t48 =>
  Sv S <|
  Do G.P (Builtin.append_ #[G.tSI,G.tSI] G.tSI #[(Sl.val t48),(Sl.val t52)]) Sl.val fun t53 =>
  St t36 (Sl.val t53) <|
  Dr <|
  Ld (t36.add 1) Sl.val fun t60 =>
  Ld (t50.add 1) Sl.val fun t64 =>
  Do G.P (Builtin.append_ #[G.tSK,G.tSK] G.tSK #[(Sl.val t60),(Sl.val t64)]) Sl.val fun t65 =>
  St (t36.add 1) (Sl.val t65) <|
  Ld n0_2 Sl.val fun t72 =>
  Ar (IntKind.wrap .i64 (t18 - 1)) fun t74 =>
  G.delIC t72 t74 t18 fun t76 =>
  St n0_2 (Sl.val t76) <|
  Ld (n0_2.add 1) Sl.val fun t83 =>
  Ar (IntKind.wrap .i64 (t18 + 1)) fun t86 =>
  G.delKC t83 t18 t86 fun t87 =>
  St (n0_2.add 1) (Sl.val t87) <|
  Q)
def zFx (G:BtD κ) (Q:K)  (n0_1:Addr) (i1_1:Int) (kid4_1:Addr) (t97_1:Bool):K :=
 Ite t97_1
  (Ld (n0_1.add 1) Sl.val fun t118 =>
  Ar (IntKind.wrap .i64 (i1_1 - 1)) fun t120 =>
  Idx t118 t120 1 fun t121 =>
  Ld t121 Value.pointer fun t122 =>
  Nn t122 fun t124 =>
  Ld t124 Sl.val fun t126 =>
  Ar (IntKind.wrap .i64 ((t126.n:Int) - 1)) fun t128 =>
  Dr <| WithS fun S =>
  Ar (IntKind.wrap .i64 (i1_1 - 1)) fun t139 =>
  LdS S kid4_1 Sl.val fun t133 =>
  LdS S n0_1 Sl.val fun t137 =>
  Idx t137 t139 (G.nv + 1) fun t140 =>
  LdNS S t140 (G.nv + 1) fun t141 =>
  Bld (G.kz::G.vz).toArray (fun i=>some (i * (G.nv + 1),(G.nv + 1))) [(0,(.agg t141))] fun ct142 =>
  New G.tI ct142 fun t142 =>
  Sv S <|
  G.insIC t133 0 (Sl.mk (some t142) 1 1) fun t143 =>
  St kid4_1 (Sl.val t143) <|
  Dr <|
  Ar (IntKind.wrap .i64 (i1_1 - 1)) fun t151 =>
  Ld n0_1 Sl.val fun t149 =>
  Ld t124 Sl.val fun t155 =>
  Idx t155 t128 (G.nv + 1) fun t157 =>
  LdN t157 (G.nv + 1) fun t158 =>
  Idx t149 t151 (G.nv + 1) fun t159 =>
  StN t159 (G.nv + 1) t158 <|
  Ld t124 Sl.val fun t164 =>
  Slc t164 0 t128 (t164.c:Int) (G.nv + 1) fun t166 =>
  St t124 (Sl.val t166) <|
  Ld (t124.add 1) Sl.val fun t172 =>
  Ite (decide ((0:Int) < (t172.n:Int)))
   (Dr <| WithS fun S =>
   Ar (IntKind.wrap .i64 (t128 + 1)) fun t185 =>
   LdS S (kid4_1.add 1) Sl.val fun t179 =>
   LdS S (t124.add 1) Sl.val fun t183 =>
   Idx t183 t185 1 fun t186 =>
   LdS S t186 Value.pointer fun t187 =>
   New G.tK #[(.pointer t187)] fun t188 =>
   Sv S <|
   G.insKC t179 0 (Sl.mk (some t188) 1 1) fun t189 =>
   St (kid4_1.add 1) (Sl.val t189) <|
   Ld (t124.add 1) Sl.val fun t196 =>
   Ar (IntKind.wrap .i64 (t128 + 1)) fun t198 =>
   Slc t196 0 t198 (t196.c:Int) 1 fun t199 =>
   St (t124.add 1) (Sl.val t199) <|
   Q)
   (Q))
  (Ar (IntKind.wrap .i64 (i1_1 + 1)) fun t204 =>
  Ld (n0_1.add 1) Sl.val fun t208 =>
  Ite (decide (t204 < (t208.n:Int)))
   (Ld (n0_1.add 1) Sl.val fun t215 =>
   Ar (IntKind.wrap .i64 (i1_1 + 1)) fun t217 =>
   Idx t215 t217 1 fun t218 =>
   Ld t218 Value.pointer fun t219 =>
   Nn t219 fun t220 =>
   Ld t220 Sl.val fun t222 =>
   zFw G Q n0_1 i1_1 kid4_1 (decide ((2:Int) < (t222.n:Int))))
   (zFw G Q n0_1 i1_1 kid4_1 false))
def nmend (G:BtD κ) (n0:(Option Addr)) (i1:Int) (Q:K):K :=
 Nn n0 fun t11 =>
 Ld (t11.add 1) Sl.val fun t13 =>
 Idx t13 i1 1 fun t15 =>
 Ld t15 Value.pointer fun t16 =>
 Nn t16 fun t92 =>
 Ld t92 Sl.val fun t94 =>
 Ite (decide ((2:Int) ≤ (t94.n:Int)))
  (Q)
  (Ite (decide ((0:Int) < i1))
   (Ld (t11.add 1) Sl.val fun t104 =>
   Ar (IntKind.wrap .i64 (i1 - 1)) fun t106 =>
   Idx t104 t106 1 fun t107 =>
   Ld t107 Value.pointer fun t108 =>
   Nn t108 fun t109 =>
   Ld t109 Sl.val fun t111 =>
   zFx G Q t11 i1 t92 (decide ((2:Int) < (t111.n:Int))))
   (zFx G Q t11 i1 t92 false))
def nlast (G:BtD κ) (n0:(Option Addr)) (Q:(Array Value)→K):K :=
 New G.tI (G.kz::G.vz).toArray fun t2 =>
 Nn n0 fun t7 =>
 Ld (t7.add 1) Sl.val fun t9 =>
 Ar (IntKind.wrap .i64 ((t9.n:Int) - 1)) fun t11 =>
 Ite (decide ((0:Int) ≤ t11))
  (Ld (t7.add 1) Sl.val fun t17 =>
  Idx t17 t11 1 fun t19 =>
  Ld t19 Value.pointer fun t20 =>
  G.nlastC t20 fun t21 =>
  New G.tI (G.kz::G.vz).toArray fun x4 =>
  StN x4 (G.nv + 1) t21 <|
  G.nmendC (some t7) t11 <|
  LdN x4 (G.nv + 1) fun t25 =>
  StN t2 (G.nv + 1) t25 <|
  LdN t2 (G.nv + 1) fun r0 =>
  Q r0)
  (Dr <| WithS fun S =>
  LdS S t7 Sl.val fun t29 =>
  LdS S t7 Sl.val fun t33 =>
  Ar (IntKind.wrap .i64 ((t33.n:Int) - 1)) fun t35 =>
  Idx t29 t35 (G.nv + 1) fun t36 =>
  LdNS S t36 (G.nv + 1) fun t37 =>
  New G.tI (G.kz::G.vz).toArray fun x5 =>
  Sv S <|
  StN x5 (G.nv + 1) t37 <|
  Dr <|
  Ld t7 Sl.val fun t42 =>
  Ld t7 Sl.val fun t46 =>
  Ar (IntKind.wrap .i64 ((t46.n:Int) - 1)) fun t48 =>
  Slc t42 0 t48 (t42.c:Int) (G.nv + 1) fun t49 =>
  St t7 (Sl.val t49) <|
  LdN x5 (G.nv + 1) fun t52 =>
  StN t2 (G.nv + 1) t52 <|
  LdN t2 (G.nv + 1) fun r0 =>
  Q r0)
def zIO (G:BtD κ) (Q:(Array Value)→Bool→K)  (value4_1:Addr) (ok5_1:Bool):K :=
 LdN value4_1 G.nv fun t94 =>
 StN value4_1 G.nv t94 <|
 LdN value4_1 G.nv fun r0 =>
 Q r0 ok5_1
def zFy (G:BtD κ) (Q:(Array Value)→Bool→K)  (n0_2:(Option Addr)) (key1_2:κ) (value4_2:Addr) (i6_2:Int) (found7_2:Bool) (t14_2:Bool):K :=
 Ite t14_2
  (Nn n0_2 fun t25 =>
  Ld t25 Sl.val fun t27 =>
  Idx t27 i6_2 (G.nv + 1) fun t29 =>
  LdN (t29.add 1) G.nv fun t31 =>
  StN value4_2 G.nv t31 <|
  Ld t25 Sl.val fun t36 =>
  Ar (IntKind.wrap .i64 (i6_2 + 1)) fun t39 =>
  G.delIC t36 i6_2 t39 fun t40 =>
  St t25 (Sl.val t40) <|
  LdN value4_2 G.nv fun t43 =>
  StN value4_2 G.nv t43 <|
  LdN value4_2 G.nv fun r0 =>
  Q r0 true)
  (Ite found7_2
   (Nn n0_2 fun t47 =>
   Ld t47 Sl.val fun t49 =>
   Idx t49 i6_2 (G.nv + 1) fun t51 =>
   LdN (t51.add 1) G.nv fun t53 =>
   StN value4_2 G.nv t53 <|
   Dr <| WithS fun S =>
   LdS S t47 Sl.val fun t57 =>
   LdS S (t47.add 1) Sl.val fun t62 =>
   Idx t62 i6_2 1 fun t64 =>
   LdS S t64 Value.pointer fun t65 =>
   G.nlastC t65 fun t66 =>
   Sv S <|
   Idx t57 i6_2 (G.nv + 1) fun t67 =>
   StN t67 (G.nv + 1) t66 <|
   G.nmendC (some t47) i6_2 <|
   LdN value4_2 G.nv fun t71 =>
   StN value4_2 G.nv t71 <|
   LdN value4_2 G.nv fun r0 =>
   Q r0 true)
   (Nn n0_2 fun t74 =>
   Ld (t74.add 1) Sl.val fun t76 =>
   Ite (decide ((0:Int) < (t76.n:Int)))
    (Ld (t74.add 1) Sl.val fun t83 =>
    Idx t83 i6_2 1 fun t85 =>
    Ld t85 Value.pointer fun t86 =>
    G.ntakeC t86 key1_2 fun t88x0 t88x1 =>
    StN value4_2 G.nv t88x0 <|
    G.nmendC (some t74) i6_2 <|
    zIO G Q value4_2 t88x1)
    (zIO G Q value4_2 false)))
def ntake (G:BtD κ) (n0:(Option Addr)) (key1:κ) (Q:(Array Value)→Bool→K):K :=
 New G.tV G.vz.toArray fun value4 =>
 G.nsearchC n0 key1 fun t11x0 t11x1 =>
 Ite t11x1
  (Nn n0 fun t18 =>
  Ld (t18.add 1) Sl.val fun t20 =>
  zFy G Q (some t18) key1 value4 t11x0 true (decide ((t20.n:Int) = 0)))
  (zFy G Q n0 key1 value4 t11x0 false false)
def zJu (G:BtD κ) (Q:(Array Value)→Bool→K)  (value4_2:Addr) (ok5_2:Bool):K :=
 LdN value4_2 G.nv fun t55 =>
 StN value4_2 G.nv t55 <|
 LdN value4_2 G.nv fun r0 =>
 Q r0 ok5_2
def zJv (G:BtD κ) (Q:(Array Value)→Bool→K)  (t0_1:Addr) (value4_1:Addr) (ok5_1:Bool):K :=
 Ite ok5_1
  (Ld (t0_1.add 1) (Value.int .i64) fun t51 =>
  Ar (IntKind.wrap .i64 (t51 - 1)) fun t52 =>
  St (t0_1.add 1) (.int .i64 t52) <|
  zJu G Q value4_1 ok5_1)
  (zJu G Q value4_1 ok5_1)
def zHg (G:BtD κ) (Q:(Array Value)→Bool→K)  (t0_3:Addr) (value4_3:Addr) (ok5_3:Bool) (t34_3:Bool):K :=
 Ite t34_3
  (Ld t0_3 Value.pointer fun t39 =>
  Nn t39 fun t40 =>
  Ld (t40.add 1) Sl.val fun t42 =>
  Idx t42 0 1 fun t43 =>
  Ld t43 Value.pointer fun t44 =>
  St t0_3 (.pointer t44) <|
  zJv G Q t0_3 value4_3 ok5_3)
  (zJv G Q t0_3 value4_3 ok5_3)
def tdel (G:BtD κ) (t0:(Option Addr)) (key1:κ) (Q:(Array Value)→Bool→K):K :=
 New G.tV G.vz.toArray fun value4 =>
 Nn t0 fun t8 =>
 Ld t8 Value.pointer fun t10 =>
 G.ntakeC t10 key1 fun t12x0 t12x1 =>
 StN value4 G.nv t12x0 <|
 Ld t8 Value.pointer fun t18 =>
 Nn t18 fun t19 =>
 Ld t19 Sl.val fun t21 =>
 Ite (decide ((t21.n:Int) = 0))
  (Ld t8 Value.pointer fun t28 =>
  Nn t28 fun t29 =>
  Ld (t29.add 1) Sl.val fun t31 =>
  zHg G Q t8 value4 t12x1 (decide ((t31.n:Int) = 1)))
  (zHg G Q t8 value4 t12x1 false)
end
structure BtDOk {κ:Type} (G:BtD κ) (c:κ→κ→Int):Prop extends BtOk G.toBtT c where
 delI:∃ Z,∀ s i j Q w,delK G.P G.tSI Z (G.nv + 1) s i j Q w→G.delIC s i j Q w
 delK:∃ Z,∀ s i j Q w,delK G.P G.tSK Z 1 s i j Q w→G.delKC s i j Q w
 take:∀ n k Q w,ntake G n k Q w→G.ntakeC n k Q w
 last:∀ n Q w,nlast G n Q w→G.nlastC n Q w
 mend:∀ n i Q w,nmend G n i Q w→G.nmendC n i Q w
end Bt
end Go.Sep
namespace Go.Sep
open Go Go.RowKit
namespace Bt
section
variable {κ:Type} {B:World} {Γ Γ0 Δ:List HProp}
theorem zJw {α:Type} {f:α→List Value} {esz E:Nat} {s:Sl} {L:List α} {i:Nat} {x:α} {k:Array Value→K} (hf:∀ x,(f x).length = esz) (hx:L[i]? = some x) (h:HG B Γ (k (f x).toArray)) [o:OwnS s Γ0 (SlC E esz s (L.flatMap f)) Δ]:HG B Γ (LdNS (Holds B Γ0) (elA s i esz) esz k):=fun w hw=>by
 refine ⟨(f x).toArray,by simp [hf],fun w' hw'=>?_,h w hw⟩
 obtain ⟨cs,hcs,hrd,hk⟩:=s_ldEl (s:=s) (i:=i) (k:=fun cs _=>cs = (f x).toArray) (E:=E) (Γ:=Γ0) (B:=B) hf hx (fun _ _=>rfl) w' hw'
 rw [← hk]; exact hrd
theorem zMA {α:Type} {c:α→Value} {E:Nat} {s:Sl} {L:List α} {i:Nat} {x:α} {k:α→K} (hx:L[i]? = some x) (h:HG B Γ (k x)) [o:OwnS s Γ0 (SlC E 1 s (L.map c)) Δ]:HG B Γ (LdS (Holds B Γ0) (elA s i 1) c k):=fun w hw=>by
 refine ⟨x,fun w' hw'=>?_,h w hw⟩
 obtain ⟨h0,h1,h2,h3,h4⟩:=own_rd hw' (p:=o)
 rw [← add0 (elA s i 1)]
 exact zLd (vs:=L.map c) (off:=0) h0 h3 (by simp [hx])
theorem s_stEl {α:Type} {f:α→List Value} {esz E:Nat} {s:Sl} {A C:List α} {x y:α} {k:K} (hf:∀ x,(f x).length = esz) (hfl:(f y).all flatV = true) (h:HG B (SlC E esz s ((A++y::C).flatMap f)::Δ) k) [o:OwnS s Γ (SlC E esz s ((A++x::C).flatMap f)) Δ]:HG B Γ (StN (elA s A.length esz) esz (f y).toArray k):=by
 rw [← add0 (elA s A.length esz)]
 refine s_stEN (s:=s) (us:=f y) ?_ (hf y) ?_ hfl
 ·have e:layAt ((A++x::C).flatMap f) (A.length * esz + 0) (f y) = (A++y::C).flatMap f:=by
   have e1:(A++x::C).flatMap f = A.flatMap f++(f x++C.flatMap f):=by simp
   have e2:(A++y::C).flatMap f = A.flatMap f++(f y++C.flatMap f):=by simp
   rw [e1,e2,zEX (by simp [zAL f esz hf]) (by rw [hf,hf])]
  rw [e]; exact h
 ·have e1:((A++x::C).flatMap f).length = (A.length + (C.length + 1)) * esz:=by rw [zAL f esz hf]; simp
  rw [e1,Nat.add_mul,Nat.add_mul]; omega
variable {G:BtT κ} {c:κ→κ→Int}
theorem wv_nil (its:List G.It):wv its ([]:List (Kid G)) = its:=by cases its <;> rfl
theorem wv_app {d:Nat} {i1 i2:List G.It} {k1 k2:List (Kid G)} {x:G.It} (h1:Fit d i1 k1) (h2:Fit d i2 k2):wv (i1++x::i2) (k1++k2) = wv i1 k1++x::wv i2 k2:=by
 cases d with
 | zero =>
  have e1:k1 = []:=h1
  have e2:k2 = []:=h2
  subst e1; subst e2
  simp only [List.append_nil,wv_nil]
 | succ d =>
  obtain ⟨q1,ps1,rfl,rfl⟩:=zip_ps h1
  obtain ⟨q2,ps2,rfl,rfl⟩:=zip_ps h2
  have e:wv (ps1.map Prod.fst++x::ps2.map Prod.fst) (q1::ps1.map Prod.snd++q2::ps2.map Prod.snd) = psL q1 (ps1++(x,q2)::ps2):=by
   rw [← wv_ps]; simp
  rw [e,wv_ps,wv_ps]
  simp [psL]
theorem zMB {d:Nat} {i1 i2:List G.It} {k1 k2:List (Kid G)} {x:G.It} (h1:Fit d i1 k1) (h2:Fit d i2 k2):Fit d (i1++x::i2) (k1++k2):=by
 cases d with
 | zero =>
  have e1:k1 = []:=h1
  have e2:k2 = []:=h2
  subst e1; subst e2; rfl
 | succ d =>
  simp only [Fit,List.length_append,List.length_cons] at h1 h2 ⊢
  omega
theorem zMp {d:Nat} {i1 i2:List G.It} {ks:List (Kid G)} {x:G.It} (h:Fit d (i1++x::i2) ks):∃ k1 k2,ks = k1++k2∧Fit d i1 k1∧Fit d i2 k2:=by
 cases d with
 | zero=>exact ⟨[],[],h,rfl,rfl⟩
 | succ d =>
  simp only [Fit,List.length_append,List.length_cons] at h
  exact ⟨ks.take (i1.length + 1),ks.drop (i1.length + 1),(List.take_append_drop _ _).symm,by simp [Fit]; omega,by simp [Fit]; omega⟩
theorem zMq {d:Nat} {A C:List (Kid G)}:∀ w,Holds B (kidsD G d A::kidsD G d C::Γ) w ↔ Holds B (kidsD G d (A++C)::Γ) w:=fun w=>by
 cases d with
 | zero =>
  show Holds B (Sep.stars []::Sep.stars []::Γ) w ↔ Holds B (Sep.stars []::Γ) w
  exact Holds.flat (Δ:=[])
 | succ d =>
  show Holds B (kidsR G d A::kidsR G d C::Γ) w ↔ Holds B (kidsR G d (A++C)::Γ) w
  constructor
  ·intro h
   have h1:=Holds.flat.1 h
   have h2:=Holds.flat.1 (h1.perm (List.perm_middle (a:=kidsR G d C) (l₁:=A.map fun q=>NodeR G d 2 q.1 q.2) (l₂:=Γ)))
   refine Holds.flat.2 (h2.perm ?_)
   rw [List.map_append,List.append_assoc]
   rw [← List.append_assoc,← List.append_assoc]
   exact List.perm_append_comm.append_right Γ
  ·intro h
   have:=zI4 (k:=fun w=>Holds B (kidsR G d A::kidsR G d C::Γ) w) (fun w h=>h) w h
   exact this
theorem s_join {d:Nat} {A C:List (Kid G)} {k:K} (h:HG B (kidsD G d (A++C)::Γ) k):HG B (kidsD G d A::kidsD G d C::Γ) k:=fun w hw=>h w ((zMq w).1 hw)
theorem s_part {d:Nat} {A C:List (Kid G)} {k:K} (h:HG B (kidsD G d A::kidsD G d C::Γ) k):HG B (kidsD G d (A++C)::Γ) k:=fun w hw=>h w ((zMq w).2 hw)
end
end Bt
end Go.Sep
namespace Go.Sep
open Go Go.RowKit
namespace Bt
section
variable {κ:Type} {G:BtD κ} {c:κ→κ→Int} {B:World} {Γ Δ:List HProp}
theorem its_n {s:Sl} {its:List G.It} (h:(its.flatMap G.f).length = s.n * (G.nv + 1)):s.n = its.length:=by
 rw [zAL G.f _ G.f_len] at h
 exact (Nat.eq_of_mul_eq_mul_right (by omega) h).symm
theorem kps_n {s:Sl} {kp:List (Option Addr)} (h:(kp.map Value.pointer).length = s.n * 1):s.n = kp.length:=by rw [kp_len] at h; omega
theorem flat_f (ok:BtOk G.toBtT c) (x:G.It):(G.f x).all flatV = true:=List.all_eq_true.2 (f_flat ok x)
theorem zRA {its:List G.It} {x:G.It}:(its.flatMap G.f).take (0 * (G.nv + 1))++G.f x++(its.flatMap G.f).drop (0 * (G.nv + 1)) = (x::its).flatMap G.f:=by simp
theorem zQD {kp:List (Option Addr)} {x:Option Addr}:(kp.map Value.pointer).take (0 * 1)++[Value.pointer x]++(kp.map Value.pointer).drop (0 * 1) = (x::kp).map Value.pointer:=by simp
theorem zMr {s:Sl} {its:List G.It} {m:Nat} {k:K} (hm:m ≤ s.n) (hc:s.n ≤ s.c) (h:HG B (itsR G.toBtT ⟨s.a,m,s.c⟩ (its.take m)::Δ) k) [p:OwnS s Γ (itsR G.toBtT s its) Δ]:HG B Γ k:=by
 refine zD6 (s:=s) (m:=m) (c':=s.c) hm (Nat.le_trans hm hc) (Nat.le_refl _) ?_
 rw [zEc G.f_len]
 exact h
theorem zRB {s:Sl} {kp:List (Option Addr)} {m:Nat} {k:K} (hm:m ≤ s.n) (hc:s.n ≤ s.c) (h:HG B (kpsR G.toBtT ⟨s.a,m,s.c⟩ (kp.take m)::Δ) k) [p:OwnS s Γ (kpsR G.toBtT s kp) Δ]:HG B Γ k:=by
 refine zD6 (s:=s) (m:=m) (c':=s.c) hm (Nat.le_trans hm hc) (Nat.le_refl _) ?_
 rw [show (kp.map Value.pointer).take (m * 1) = (kp.take m).map Value.pointer by simp]
 exact h
theorem zTr (ok:BtDOk G c) {d n:Nat} {s kd sp kp sq kq:Sl} {A C:List (Kid G.toBtT)} {p q:Kid G.toBtT} {IA IC ip iq:List G.It} {x y:G.It} {cp cq:List (Kid G.toBtT)} {i:Int} {Q:K}
  (hi:i = ((A.length + 1:Nat):Int)) (hA:IA.length = A.length) (hl:IA.length + IC.length ≤ 5) (hC:C.length = IC.length) (hp:2 ≤ ip.length∧ip.length ≤ 5) (hq:iq.length ≤ 1) (hfp:Fit d (ip++[y]) cp) (hfq:Fit d iq cq)
  (h:∀ P' Q',P'++y::Q' = wv (ip++[y]) cp++x::wv iq cq→∀ s' kd',HG B (nodeB G.toBtT n s' kd'::itsR G.toBtT s' (IA++y::IC)::kpsR G.toBtT kd' ((A++p::q::C).map ptr)::NodeR G.toBtT d 2 p.1 P'::NodeR G.toBtT d 2 q.1 Q'::Γ) Q) :
  HG B (nodeB G.toBtT n s kd::itsR G.toBtT s (IA++x::IC)::kpsR G.toBtT kd ((A++p::q::C).map ptr)::rawL G.toBtT d p.1 sp kp (ip++[y]) cp (rawL G.toBtT d q.1 sq kq iq cq Γ)) (zFx G Q ⟨n,0,none⟩ i ⟨q.1,0,none⟩ true):=by
 subst hi
 have okT:=ok.toBtOk
 obtain ⟨cp',kz,rfl,hf1,hfz⟩:=zMp (i1:=ip) (i2:=[]) hfp
 refine s_cap s fun a1 a2 a3 a4=>?_
 refine s_cap kd fun b1 b2 b3 b4=>?_
 refine s_cap sp fun c1 c2 c3 c4=>?_
 refine s_cap kp fun d1 d2 d3 d4=>?_
 refine s_cap sq fun e1 e2 e3 e4=>?_
 refine s_cap kq fun f1 f2 f3 f4=>?_
 have hsn:=its_n a1
 have hkn:=kps_n b1
 have hspn:=its_n c1
 have hkpn:=kps_n d1
 have hsqn:=its_n e1
 have hkqn:=kps_n f1
 simp only [List.length_append,List.length_cons,List.length_nil,List.length_map] at hsn hkn hspn hkpn hsqn hkqn
 unfold zFx
 refine s_t ?_
 refine s_ld (b:=n) (x:=kd) ?_
 refine s_ai ?_
 refine s_idx (s:=kd) (i:=A.length) ?_
 refine s_ldE0 (s:=kd) (x:=ptr p) (by simp) ?_
 refine s_nn ?_
 refine s_ld (b:=p.1) (x:=sp) ?_
 refine s_ai ?_
 refine s_dr ?_
 refine s_ws ?_
 refine s_ai ?_
 refine s_ldS (b:=q.1) (x:=sq) ?_
 refine s_ldS (b:=n) (x:=s) ?_
 refine s_idx (s:=s) (i:=A.length) ?_
 refine zJw (s:=s) (x:=x) G.f_len (by rw [← hA]; simp) ?_
 refine s_bld1 ?_ (by simp [okT.vz.1]) (G.f_len _)
 refine s_new fun t=>?_
 refine s_sv ?_
 obtain ⟨R,rot,hins⟩:=okT.insI
 refine fun w hw=>hins _ _ _ _ _ ?_
 refine hg hw ?_
 clear hw w
 refine s_ins (s:=sq) (i:=0) (t:=t) (by omega) (by omega) (G.f_len _) (by omega) (zEq okT _) (f_flat okT _) (fun sq' hsq'=>?_) okT.TI okT.ZI
 rw [zRA]
 refine s_st (b:=q.1) ?_
 refine s_dr ?_
 refine s_ai ?_
 refine s_ld (b:=n) (x:=s) ?_
 refine s_ld (b:=p.1) (x:=sp) ?_
 refine s_idx (s:=sp) (i:=ip.length) ?_
 refine s_ldEl (s:=sp) (x:=y) G.f_len (by simp) ?_
 refine s_idx (s:=s) (i:=IA.length) ?_
 refine s_stEl (s:=s) (A:=IA) (x:=x) (y:=y) G.f_len (flat_f okT y) ?_
 refine s_ld (b:=p.1) (x:=sp) ?_
 refine s_slc (lo:=0) (hi:=ip.length) (mx:=sp.c) ?_
 rw [cut0 c3]
 refine s_st (b:=p.1) ?_
 refine zMr (s:=sp) (m:=ip.length) (by omega) c2 ?_
 rw [List.take_left]
 refine s_ld (b:=p.1) (x:=kp) ?_
 have fin:∀ sp2 kp2 sq2 kq2,HG B (rawL G.toBtT d p.1 sp2 kp2 ip cp' (rawL G.toBtT d q.1 sq2 kq2 (x::iq) (kz++cq) (nodeB G.toBtT n s kd::itsR G.toBtT s (IA++y::IC)::kpsR G.toBtT kd ((A++p::q::C).map ptr)::Γ))) Q:=fun sp2 kp2 sq2 kq2=>by
  refine zEM (m:=2) hf1 hp.2 (fun _=>.inr fun h=>by rw [h] at hp; simp at hp) ?_
  refine s_end (Δ:=rawL G.toBtT d q.1 sq2 kq2 (x::iq) (kz++cq) (NodeR G.toBtT d 2 p.1 (wv ip cp')::nodeB G.toBtT n s kd::itsR G.toBtT s (IA++y::IC)::kpsR G.toBtT kd ((A++p::q::C).map ptr)::Γ)) ?_
  refine zEM (m:=2) (zMB (i1:=[]) hfz hfq) (by simp; omega) (fun _=>.inr (by simp)) ?_
  refine s_end (h (wv ip cp') (wv (x::iq) (kz++cq)) ?_ s kd)
  rw [wv_app hf1 hfz,show x::iq = []++x::iq from rfl,wv_app hfz hfq]
  simp
 cases d with
 | zero =>
  have e1:cp' = []:=hf1
  have e2:kz = []:=hfz
  have e3:cq = []:=hfq
  subst e1; subst e2; subst e3
  refine s_f ?_ (by simp at hkpn; simp [hkpn])
  simp only [List.append_nil] at fin ⊢
  exact s_end (fin ⟨sp.a,ip.length,sp.c⟩ kp sq' kq)
 | succ d =>
  obtain ⟨z,rfl⟩:∃ z,kz = [z]:=List.length_eq_one_iff.1 hfz
  have hcl:cp'.length = ip.length + 1:=hf1
  have hcql:cq.length = iq.length + 1:=hfq
  simp only [List.length_cons,List.length_nil] at hkpn
  refine s_t ?_ (by simp; omega)
  refine s_dr ?_
  refine s_ws ?_
  refine s_ai ?_
  refine s_ldS (b:=q.1) (x:=kq) ?_
  refine s_ldS (b:=p.1) (x:=kp) ?_
  refine s_idx (s:=kp) (i:=ip.length + 1) ?_
  refine zMA (s:=kp) (c:=Value.pointer) (L:=(cp'++[z]).map ptr) (x:=ptr z) (by rw [← hcl]; simp) ?_
  refine s_new fun t2=>?_
  refine s_sv ?_
  obtain ⟨R2,rot2,hins2⟩:=okT.insK
  refine fun w hw=>hins2 _ _ _ _ _ ?_
  refine hg hw ?_
  clear hw w
  refine s_ins (s:=kq) (i:=0) (t:=t2) (us:=[Value.pointer (ptr z)]) (by omega) (by omega) rfl (by omega) (zGV _) (by simp [flatV]) (fun kq' hkq'=>?_) okT.TK okT.ZK
  rw [zQD,show ptr z::cq.map ptr = ([z]++cq).map ptr from rfl]
  refine s_st (b:=q.1) ?_
  refine s_ld (b:=p.1) (x:=kp) ?_
  refine s_ai ?_
  refine s_slc (lo:=0) (hi:=ip.length + 1) (mx:=kp.c) ?_
  rw [cut0 d3]
  refine s_st (b:=p.1) ?_
  refine zRB (s:=kp) (m:=ip.length + 1) (by omega) d2 ?_
  rw [show ((cp'++[z]).map ptr).take (ip.length + 1) = cp'.map ptr by rw [List.map_append]; exact List.take_left' (by simp [hcl])]
  refine s_pick (kidsD G.toBtT (d + 1) (cp'++[z])) ?_
  refine s_part ?_
  refine s_end (Δ:=kidsD G.toBtT (d + 1) [z]::kidsD G.toBtT (d + 1) cq::kidsD G.toBtT (d + 1) cp'::nodeB G.toBtT p.1 ⟨sp.a,ip.length,sp.c⟩ ⟨kp.a,ip.length + 1,kp.c⟩::itsR G.toBtT ⟨sp.a,ip.length,sp.c⟩ ip::kpsR G.toBtT ⟨kp.a,ip.length + 1,kp.c⟩ (cp'.map ptr)::nodeB G.toBtT q.1 sq' kq'::itsR G.toBtT sq' (x::iq)::kpsR G.toBtT kq' (([z]++cq).map ptr)::nodeB G.toBtT n s kd::itsR G.toBtT s (IA++y::IC)::kpsR G.toBtT kd ((A++p::q::C).map ptr)::Γ) ?_
  refine s_join ?_
  exact s_end (fin ⟨sp.a,ip.length,sp.c⟩ ⟨kp.a,ip.length + 1,kp.c⟩ sq' kq')
end
end Bt
end Go.Sep
namespace Go.Sep
open Go Go.RowKit
namespace Bt
section
variable {κ:Type} {G:BtD κ} {c:κ→κ→Int} {B:World} {Γ Δ:List HProp}
theorem kp_at {L:List (Kid G.toBtT)} {i:Nat} {q:Kid G.toBtT} (h:L[i]? = some q):((L.map ptr).map Value.pointer)[i * 1]? = some (Value.pointer (ptr q)):=by simp [h]
theorem zJx {α:Type} {A C:List α} {x y:α}:(A++x::y::C)[A.length + 1]? = some y:=by
 rw [List.getElem?_append_right (by omega),show A.length + 1 - A.length = 1 by omega]; rfl
theorem zRC {x:G.It} {its:List G.It}:((x::its).flatMap G.f).take (0 * (G.nv + 1))++((x::its).flatMap G.f).drop (1 * (G.nv + 1)) = its.flatMap G.f:=by
 rw [zEb G.f_len]; simp
theorem zQE {p:Kid G.toBtT} {kp:List (Kid G.toBtT)}:(((p::kp).map ptr).map Value.pointer).take (0 * 1)++(((p::kp).map ptr).map Value.pointer).drop (1 * 1) = (kp.map ptr).map Value.pointer:=by simp
theorem zPd {A C:List G.It} {x:G.It}:((A++x::C).flatMap G.f).take (A.length * (G.nv + 1))++((A++x::C).flatMap G.f).drop ((A.length + 1) * (G.nv + 1)) = (A++C).flatMap G.f:=by
 rw [zEc G.f_len,zEb G.f_len,List.take_left,show A++x::C = (A++[x])++C by simp,List.drop_left' (by simp)]; simp
theorem zSd {A C:List (Kid G.toBtT)} {p q:Kid G.toBtT}:(((A++p::q::C).map ptr).map Value.pointer).take ((A.length + 1) * 1)++(((A++p::q::C).map ptr).map Value.pointer).drop ((A.length + 2) * 1) = ((A++p::C).map ptr).map Value.pointer:=by
 rw [Nat.mul_one,Nat.mul_one,← List.map_take,← List.map_take,← List.map_drop,← List.map_drop]
 rw [show A++p::q::C = (A++[p])++q::C by simp,List.take_left' (by simp),show (A++[p])++q::C = (A++[p,q])++C by simp,List.drop_left' (by simp)]
 simp
theorem zPe (ok:BtDOk G c) {d n:Nat} {s kd sr kr sq kq:Sl} {A C:List (Kid G.toBtT)} {q r:Kid G.toBtT} {IA IC ir iq:List G.It} {x y:G.It} {cr cq:List (Kid G.toBtT)} {i:Int} {Q:K}
  (hi:i = (A.length:Int)) (hA:IA.length = A.length) (hl:IA.length + IC.length ≤ 5) (hC:C.length = IC.length) (hr:1 ≤ ir.length∧ir.length ≤ 5) (hq:iq.length ≤ 1) (hfr:Fit d (y::ir) cr) (hfq:Fit d iq cq)
  (h:∀ Q' R',Q'++y::R' = wv iq cq++x::wv (y::ir) cr→∀ s' kd',HG B (nodeB G.toBtT n s' kd'::itsR G.toBtT s' (IA++y::IC)::kpsR G.toBtT kd' ((A++q::r::C).map ptr)::NodeR G.toBtT d 2 q.1 Q'::NodeR G.toBtT d 2 r.1 R'::Γ) Q) :
  HG B (nodeB G.toBtT n s kd::itsR G.toBtT s (IA++x::IC)::kpsR G.toBtT kd ((A++q::r::C).map ptr)::rawL G.toBtT d q.1 sq kq iq cq (rawL G.toBtT d r.1 sr kr (y::ir) cr Γ)) (zFw G Q ⟨n,0,none⟩ i ⟨q.1,0,none⟩ true):=by
 subst hi
 have okT:=ok.toBtOk
 obtain ⟨cz,cr',rfl,hfz,hf2⟩:=zMp (i1:=[]) (x:=y) (i2:=ir) hfr
 refine s_cap s fun a1 a2 a3 a4=>?_
 refine s_cap kd fun b1 b2 b3 b4=>?_
 refine s_cap sr fun c1 c2 c3 c4=>?_
 refine s_cap kr fun d1 d2 d3 d4=>?_
 refine s_cap sq fun e1 e2 e3 e4=>?_
 refine s_cap kq fun f1 f2 f3 f4=>?_
 have hsn:=its_n a1
 have hkn:=kps_n b1
 have hsrn:=its_n c1
 have hkrn:=kps_n d1
 have hsqn:=its_n e1
 have hkqn:=kps_n f1
 simp only [List.length_append,List.length_cons,List.length_nil,List.length_map] at hsn hkn hsrn hkrn hsqn hkqn
 unfold zFw
 repeat first | refine s_nx ?_ | refine s_ai ?_
 refine s_idx (s:=kd) (i:=A.length + 1) ?_
 refine s_ldE0 (s:=kd) (x:=ptr r) (kp_at zJx) ?_
 repeat first | refine s_nx ?_ | refine s_ai ?_
 refine s_idx (s:=s) (i:=A.length) ?_
 refine zJw (s:=s) (x:=x) G.f_len (by rw [← hA]; simp) ?_
 refine s_bld1 ?_ (by simp [okT.vz.1]) (G.f_len _)
 refine s_new fun t=>?_
 repeat refine s_nx ?_
 refine zBJ (s:=sq) (us:=G.f x) (blk_rd (G.f_len x)) (f_flat okT x) (by simp only; omega) (hT:=okT.TI) fun sq' hsq'=>?_
 rw [show iq.flatMap G.f++G.f x = (iq++[x]).flatMap G.f by simp]
 repeat refine s_nx ?_
 refine s_nn ?_
 repeat refine s_nx ?_
 refine s_idx (s:=sr) (i:=0) ?_
 refine s_ldEl (s:=sr) (x:=y) G.f_len rfl ?_
 refine s_idx (s:=s) (i:=IA.length) ?_
 refine s_stEl (s:=s) (A:=IA) (x:=x) (y:=y) G.f_len (flat_f okT y) ?_
 repeat refine s_nx ?_
 obtain ⟨Z,hdel⟩:=ok.delI
 refine fun w hw=>hdel _ _ _ _ _ ?_
 refine hg hw ?_
 clear hw w
 refine s_del (s:=sr) (i:=0) (j:=1) (by omega) (by omega) (by omega) (zEq okT _) (fun sr' hsr'=>?_) okT.TI
 rw [zRC]
 repeat refine s_nx ?_
 have fin:∀ sr2 kr2 sq2 kq2,HG B (rawL G.toBtT d q.1 sq2 kq2 (iq++[x]) (cq++cz) (rawL G.toBtT d r.1 sr2 kr2 ir cr' (nodeB G.toBtT n s kd::itsR G.toBtT s (IA++y::IC)::kpsR G.toBtT kd ((A++q::r::C).map ptr)::Γ))) Q:=fun sr2 kr2 sq2 kq2=>by
  refine zEM (m:=2) (zMB (i2:=[]) hfq hfz) (by simp; omega) (fun _=>.inr (by simp)) ?_
  refine s_pick (kidsD G.toBtT d cr') ?_
  refine s_ownS kr2 ?_
  refine s_ownS sr2 ?_
  refine s_own r.1 ?_
  refine zEM (m:=2) hf2 hr.2 (fun _=>.inr fun h=>by rw [h] at hr; simp at hr) ?_
  refine s_end (h (wv (iq++[x]) (cq++cz)) (wv ir cr') ?_ s kd)
  rw [wv_app (i2:=[]) hfq hfz,show y::ir = []++y::ir from rfl,wv_app hfz hf2]
  simp
 cases d with
 | zero =>
  have e1:cr' = []:=hf2
  have e2:cz = []:=hfz
  have e3:cq = []:=hfq
  subst e1; subst e2; subst e3
  refine s_f ?_ (by simp at hkrn; simp [hkrn])
  simp only [List.append_nil] at fin ⊢
  exact s_end (fin sr' kr sq' kq)
 | succ d =>
  obtain ⟨z,rfl⟩:∃ z,cz = [z]:=List.length_eq_one_iff.1 hfz
  have hcl:cr'.length = ir.length + 1:=hf2
  have hcql:cq.length = iq.length + 1:=hfq
  simp only [List.length_cons,List.length_nil] at hkrn
  refine s_t ?_ (by simp; omega)
  repeat refine s_nx ?_
  refine s_idx (s:=kr) (i:=0) ?_
  refine zMA (s:=kr) (c:=Value.pointer) (L:=([z]++cr').map ptr) (x:=ptr z) (by simp) ?_
  refine s_new fun t2=>?_
  repeat refine s_nx ?_
  refine zBJ (s:=kq) (us:=[Value.pointer (ptr z)]) (blk_rd rfl) (by simp [flatV]) (by simp only; omega) (hT:=okT.TK) fun kq' hkq'=>?_
  rw [show (cq.map ptr).map Value.pointer++[Value.pointer (ptr z)] = ((cq++[z]).map ptr).map Value.pointer by simp]
  repeat refine s_nx ?_
  obtain ⟨Z2,hdel2⟩:=ok.delK
  refine fun w hw=>hdel2 _ _ _ _ _ ?_
  refine hg hw ?_
  clear hw w
  refine s_del (s:=kr) (i:=0) (j:=1) (by omega) (by omega) (by omega) (zGV _) (fun kr' hkr'=>?_) okT.TK
  rw [show (([z]++cr').map ptr) = ((z::cr').map ptr) from rfl,zQE]
  repeat refine s_nx ?_
  refine s_pick (kidsD G.toBtT (d + 1) ([z]++cr')) ?_
  refine s_part ?_
  refine s_pick (kidsD G.toBtT (d + 1) [z]) ?_
  refine s_pick (kidsD G.toBtT (d + 1) cq) ?_
  refine s_join ?_
  exact s_end (fin sr' kr' sq' kq')
theorem zMC (ok:BtDOk G c) {d n:Nat} {s kd sp kp sq kq:Sl} {A C:List (Kid G.toBtT)} {p q:Kid G.toBtT} {IA IC ip iq:List G.It} {x:G.It} {cp cq:List (Kid G.toBtT)} {i:Int} {k4:Addr} {Q:K}
  (hi:(if (1:Int) > i then 1 else i) = ((A.length + 1:Nat):Int)) (hA:IA.length = A.length) (hl:IA.length + IC.length ≤ 5) (hC:C.length = IC.length) (hp:ip.length + iq.length ≤ 4) (hfp:Fit d ip cp) (hfq:Fit d iq cq)
  (h:∀ s' kd',HG B (nodeB G.toBtT n s' kd'::itsR G.toBtT s' (IA++IC)::kpsR G.toBtT kd' ((A++p::C).map ptr)::NodeR G.toBtT d 2 p.1 (wv ip cp++x::wv iq cq)::Γ) Q) :
  HG B (nodeB G.toBtT n s kd::itsR G.toBtT s (IA++x::IC)::kpsR G.toBtT kd ((A++p::q::C).map ptr)::rawL G.toBtT d p.1 sp kp ip cp (rawL G.toBtT d q.1 sq kq iq cq Γ)) (zFw G Q ⟨n,0,none⟩ i k4 false):=by
 have okT:=ok.toBtOk
 refine s_cap s fun a1 a2 a3 a4=>?_
 refine s_cap kd fun b1 b2 b3 b4=>?_
 refine s_cap sp fun c1 c2 c3 c4=>?_
 refine s_cap kp fun d1 d2 d3 d4=>?_
 refine s_cap sq fun e1 e2 e3 e4=>?_
 refine s_cap kq fun f1 f2 f3 f4=>?_
 have hsn:=its_n a1
 have hkn:=kps_n b1
 have hspn:=its_n c1
 have hkpn:=kps_n d1
 have hsqn:=its_n e1
 have hkqn:=kps_n f1
 simp only [List.length_append,List.length_cons,List.length_nil,List.length_map] at hsn hkn hspn hkpn hsqn hkqn
 have hks:cp.length ≤ 6∧cq.length ≤ 6:=by
  cases d with
  | zero =>
   have e1:cp = []:=hfp
   have e2:cq = []:=hfq
   subst e1; subst e2; exact ⟨by simp,by simp⟩
  | succ d =>
   have e1:cp.length = ip.length + 1:=hfp
   have e2:cq.length = iq.length + 1:=hfq
   omega
 unfold zFw
 repeat refine s_nx ?_
 refine s_ar hi ?_
 repeat first | refine s_nx ?_ | refine s_ai ?_
 refine s_idx (s:=kd) (i:=A.length) ?_
 refine s_ldE0 (s:=kd) (x:=ptr p) (kp_at at_mid) ?_
 repeat refine s_nx ?_
 refine s_idx (s:=kd) (i:=A.length + 1) ?_
 refine s_ldE0 (s:=kd) (x:=ptr q) (kp_at zJx) ?_
 refine s_dr ?_
 refine s_wsD [nodeB G.toBtT n s kd,itsR G.toBtT s (IA++x::IC),nodeB G.toBtT p.1 sp kp,nodeB G.toBtT q.1 sq kq] ?_
 refine s_nn ?_
 refine s_ai ?_
 refine s_nn ?_
 repeat refine s_nx ?_
 refine s_idx (s:=s) (i:=A.length) ?_
 refine zJw (s:=s) (x:=x) G.f_len (by rw [← hA]; simp) ?_
 repeat refine s_nx ?_
 refine s_bld1 ?_ (by simp [okT.vz.1]) (G.f_len _)
 refine s_new fun t=>?_
 repeat refine s_nx ?_
 refine zBJ (s:=sp) (us:=G.f x) (blk_rd (G.f_len x)) (f_flat okT x) (by simp only; omega) (hT:=okT.TI) fun sp1 hsp1=>?_
 rw [show ip.flatMap G.f++G.f x = (ip++[x]).flatMap G.f by simp]
 repeat refine s_nx ?_
 refine zBJ (s:=sp1) (us:=iq.flatMap G.f) (fun w hw=>(own_rd (s:=sq) hw).1) (zEq okT _) (by simp only at hsp1 ⊢; omega) (hT:=okT.TI) fun sp2 hsp2=>?_
 rw [show (ip++[x]).flatMap G.f++iq.flatMap G.f = (ip++x::iq).flatMap G.f by simp]
 repeat refine s_nx ?_
 refine zBJ (s:=kp) (us:=(cq.map ptr).map Value.pointer) (fun w hw=>(own_rd (s:=kq) hw).1) (zGV _) (by omega) (hT:=okT.TK) fun kp' hkp'=>?_
 rw [← List.map_append,← List.map_append]
 repeat first | refine s_nx ?_ | refine s_ai ?_
 obtain ⟨Z,hdel⟩:=ok.delI
 refine fun w hw=>hdel _ _ _ _ _ ?_
 refine hg hw ?_
 clear hw w
 rw [show ((A.length + 1:Nat):Int) - 1 = ((A.length:Nat):Int) by omega]
 refine s_del (s:=s) (i:=A.length) (j:=A.length + 1) (by omega) (by omega) (by omega) (zEq okT _) (fun s' hs'=>?_) okT.TI
 rw [← hA,zPd,hA]
 repeat first | refine s_nx ?_ | refine s_ai ?_
 obtain ⟨Z2,hdel2⟩:=ok.delK
 refine fun w hw=>hdel2 _ _ _ _ _ ?_
 refine hg hw ?_
 clear hw w
 rw [show ((A.length + 1:Nat):Int) + 1 = ((A.length + 2:Nat):Int) by omega]
 refine s_del (s:=kd) (i:=A.length + 1) (j:=A.length + 2) (by omega) (by omega) (by omega) (zGV _) (fun kd' hkd'=>?_) okT.TK
 rw [zSd]
 repeat refine s_nx ?_
 refine s_pick (kidsD G.toBtT d cq) ?_
 refine s_pick (kidsD G.toBtT d cp) ?_
 refine s_join ?_
 refine s_pick (kidsD G.toBtT d (cp++cq)) ?_
 refine s_ownS kp' ?_
 refine s_ownS sp2 ?_
 refine s_own p.1 ?_
 refine zEM (m:=2) (zMB hfp hfq) (by simp; omega) (fun _=>.inr (by simp)) ?_
 rw [wv_app hfp hfq]
 exact s_end (h s' kd')
end
end Bt
end Go.Sep
namespace Go.Sep
open Go Go.RowKit
namespace Bt
section
variable {κ:Type} {G:BtD κ} {c:κ→κ→Int} {B:World} {Γ Δ:List HProp}
theorem wv_two:∀ {IA IC:List G.It} {A C:List (Kid G.toBtT)},IA.length = A.length→C.length = IC.length→∃ U V:List G.It,(∀ p:Kid G.toBtT,wv (IA++IC) (A++p::C) = U++p.2++V)∧∀ (p:Kid G.toBtT) (x:G.It) (q:Kid G.toBtT),wv (IA++x::IC) (A++p::q::C) = U++p.2++x::(q.2++V)
 | [],[],[],C,_,hC=>⟨[],[],fun p=>by simp [wv],fun p x q=>by simp [wv]⟩
 | [],z::IC,[],C,_,hC=>⟨[],z::wv IC C,fun p=>by simp [wv],fun p x q=>by simp [wv]⟩
 | a::IA,IC,r::A,C,hA,hC=>by
  obtain ⟨U,V,h1,h2⟩:=wv_two (IA:=IA) (IC:=IC) (A:=A) (C:=C) (by simpa using hA) hC
  exact ⟨r.2++a::U,V,fun p=>by simp [wv,h1],fun p x q=>by simp [wv,h2]⟩
 | [],_,_::_,_,hA,_=>by simp at hA
 | _::_,_,[],_,hA,_=>by simp at hA
theorem zOM {α:Type} {L:List α} {a c:Nat} (h:L.length = a + 1 + c):∃ A x C,L = A++x::C∧A.length = a∧C.length = c :=
 ⟨L.take a,L[a],L.drop (a + 1),by rw [← List.drop_eq_getElem_cons,List.take_append_drop],by simp; omega,by simp; omega⟩
theorem s_asm1 {d n:Nat} {s kd:Sl} {its:List G.It} {ks:List (Kid G.toBtT)} {k:K} (hf:ks.length = its.length + 1) (hl:its.length ≤ 5) (h:HG B (NodeR G.toBtT (d + 1) 0 n (wv its ks)::Γ) k) :
  HG B (nodeB G.toBtT n s kd::itsR G.toBtT s its::kpsR G.toBtT kd (ks.map ptr)::kidsR G.toBtT d ks::Γ) k:=zEM (d:=d + 1) (m:=0) hf hl (fun h=>by omega) h
theorem s_asmK {d n:Nat} {s kd:Sl} {its:List G.It} {A C:List (Kid G.toBtT)} {p:Kid G.toBtT} {P':List G.It} {k:K} (hf:(A++p::C).length = its.length + 1) (hl:its.length ≤ 5) (h:HG B (NodeR G.toBtT (d + 1) 0 n (wv its (A++(p.1,P')::C))::Γ) k) :
  HG B (nodeB G.toBtT n s kd::itsR G.toBtT s its::kpsR G.toBtT kd ((A++p::C).map ptr)::NodeR G.toBtT d 2 p.1 P'::kidsR G.toBtT d (A++C)::Γ) k:=by
 rw [show (A++p::C).map ptr = (A++(p.1,P')::C).map ptr by simp [ptr]]
 refine s_pick (kidsR G.toBtT d (A++C)) ?_
 refine s_pick (NodeR G.toBtT d 2 p.1 P') ?_
 refine zEL (q:=(p.1,P')) ?_
 refine s_pick (kidsR G.toBtT d (A++(p.1,P')::C)) ?_
 refine s_ownS kd ?_
 refine s_ownS s ?_
 refine s_own n ?_
 exact s_asm1 (by simpa using hf) hl h
theorem s_asm2 {d n:Nat} {s kd:Sl} {its:List G.It} {A C:List (Kid G.toBtT)} {p q:Kid G.toBtT} {P' Q':List G.It} {k:K} (hf:(A++p::q::C).length = its.length + 1) (hl:its.length ≤ 5) (h:HG B (NodeR G.toBtT (d + 1) 0 n (wv its (A++(p.1,P')::(q.1,Q')::C))::Γ) k) :
  HG B (nodeB G.toBtT n s kd::itsR G.toBtT s its::kpsR G.toBtT kd ((A++p::q::C).map ptr)::NodeR G.toBtT d 2 p.1 P'::NodeR G.toBtT d 2 q.1 Q'::kidsR G.toBtT d (A++C)::Γ) k:=by
 rw [show (A++p::q::C).map ptr = (A++p::(q.1,Q')::C).map ptr by simp [ptr]]
 refine s_pick (kidsR G.toBtT d (A++C)) ?_
 refine s_pick (NodeR G.toBtT d 2 q.1 Q') ?_
 refine zEL (q:=(q.1,Q')) ?_
 refine s_pick (kidsR G.toBtT d (A++(q.1,Q')::C)) ?_
 refine s_pick (NodeR G.toBtT d 2 p.1 P') ?_
 refine s_ownS kd ?_
 refine s_ownS s ?_
 refine s_own n ?_
 exact s_asmK (by simpa using hf) hl h
theorem zJG (ok:BtDOk G c) {d n:Nat} {s kd:Sl} {its:List G.It} {A C:List (Kid G.toBtT)} {q:Kid G.toBtT} {Q:K} (hl:its.length ≤ 5) (hne:its ≠ []) (hf:(A++q::C).length = its.length + 1)
  (h:HG B (NodeR G.toBtT (d + 1) 0 n (wv its (A++q::C))::Γ) Q) :
  HG B (nodeB G.toBtT n s kd::itsR G.toBtT s its::kpsR G.toBtT kd ((A++q::C).map ptr)::NodeR G.toBtT d 0 q.1 q.2::kidsR G.toBtT d (A++C)::Γ) (G.nmendC (some ⟨n,0,none⟩) (A.length:Int) Q):=by
 refine fun w hw=>ok.mend _ _ _ _ ?_
 refine hg hw ?_
 clear hw w
 have okT:=ok.toBtOk
 have hnl:1 ≤ its.length:=List.length_pos_iff.2 hne
 refine s_cap s fun a1 a2 a3 a4=>?_
 refine s_cap kd fun b1 b2 b3 b4=>?_
 have hsn:=its_n a1
 have hkn:=kps_n b1
 have hf':A.length + (C.length + 1) = its.length + 1:=by simpa using hf
 simp only [List.length_append,List.length_cons,List.length_map] at hkn
 unfold nmend
 repeat refine s_nx ?_
 refine s_idx (s:=kd) (i:=A.length) ?_
 refine s_ldE0 (s:=kd) (x:=ptr q) (kp_at at_mid) ?_
 refine s_nn ?_
 refine s_own q.1 ?_
 refine s_raw fun sq kq iq cq hfq hlq _ hqL=>?_
 refine s_cap sq fun e1 e2 e3 e4=>?_
 have hsqn:=its_n e1
 repeat refine s_nx ?_
 refine s_ite (fun hb=>?_) fun hb=>?_
 ·have hb':2 ≤ iq.length:=by simp only [decide_eq_true_eq] at hb; omega
  refine zEM (m:=2) hfq hlq (fun _=>.inr fun h=>by rw [h] at hb'; simp at hb') ?_
  rw [← hqL]
  refine s_pick (kidsR G.toBtT d (A++C)) ?_
  refine s_pick (NodeR G.toBtT d 2 q.1 q.2) ?_
  refine s_ownS kd ?_
  refine s_ownS s ?_
  refine s_own n ?_
  exact s_asmK hf hl h
 have hq1:iq.length ≤ 1:=by simp only [decide_eq_false_iff_not] at hb; omega
 rcases List.eq_nil_or_concat A with rfl | ⟨A,p,rfl⟩
 ·
  obtain ⟨r,C,rfl⟩:∃ r C',C = r::C':=by
   cases C with
   | nil=>simp only [List.length_nil] at hf'; omega
   | cons r C=>exact ⟨r,C,rfl⟩
  simp only [List.length_cons,List.length_nil,List.nil_append] at hf' hkn hf h ⊢
  obtain ⟨IA,x,IC,rfl,hIA,hIC⟩:=zOM (L:=its) (a:=0) (c:=C.length) (by omega)
  obtain rfl:IA = []:=List.length_eq_zero_iff.1 hIA
  obtain ⟨U,V,hU1,hU2⟩:=wv_two (IA:=[]) (IC:=IC) (A:=[]) (C:=C) rfl hIC.symm
  simp only [List.nil_append] at hU1 hU2 hl hf' h ⊢
  rw [hU2] at h
  simp only [List.length_cons] at hl hf'
  refine s_f ?_
  unfold zFx
  repeat first | refine s_nx ?_ | refine s_ai ?_
  refine s_t ?_ (by simp; omega)
  repeat first | refine s_nx ?_ | refine s_ai ?_
  refine s_idx (s:=kd) (i:=1) ?_
  refine s_ldE0 (s:=kd) (x:=ptr r) (kp_at (zJx (A:=[]))) ?_
  refine s_nn ?_
  refine s_pick (kidsR G.toBtT d (r::C)) ?_
  refine s_kid (A:=[]) ?_
  refine s_raw fun sr kr ir cr hfr hlr hrne hrL=>?_
  refine s_cap sr fun c1 c2 c3 c4=>?_
  have hsrn:=its_n c1
  repeat refine s_nx ?_
  by_cases hb3:2 < ir.length
  ·rw [show decide ((2:Int) < (sr.n:Int)) = true by simp; omega]
   obtain ⟨y,ir,rfl⟩:∃ y ir',ir = y::ir':=by
    cases ir with
    | nil=>simp at hb3
    | cons y ir=>exact ⟨y,ir,rfl⟩
   simp only [List.length_cons] at hb3 hlr
   refine s_pick (kidsD G.toBtT d cr) ?_
   refine s_ownS kr ?_
   refine s_ownS sr ?_
   refine s_own r.1 ?_
   refine s_pick (kidsD G.toBtT d cq) ?_
   refine s_ownS kq ?_
   refine s_ownS sq ?_
   refine s_own q.1 ?_
   refine s_ownS kd ?_
   refine s_ownS s ?_
   refine s_own n ?_
   refine zPe ok (A:=[]) (IA:=[]) rfl rfl (by simp only [List.length_nil]; omega) hIC.symm (by omega) hq1 hfr hfq fun Q' R' e s' kd'=>?_
   refine s_pick (kidsR G.toBtT d ([]++C)) ?_
   refine s_pick (NodeR G.toBtT d 2 r.1 R') ?_
   refine s_pick (NodeR G.toBtT d 2 q.1 Q') ?_
   refine s_ownS kd' ?_
   refine s_ownS s' ?_
   refine s_own n ?_
   refine s_asm2 (A:=[]) (by simp; omega) (by simp; omega) ?_
   simp only [List.nil_append]
   rw [hU2,show U++(q.1,Q').2++y::((r.1,R').2++V) = U++(Q'++y::R')++V by simp,e,← hqL,← hrL]
   simpa using h
  ·rw [show decide ((2:Int) < (sr.n:Int)) = false by simp; omega]
   refine s_pick (kidsD G.toBtT d cr) ?_
   refine s_ownS kr ?_
   refine s_ownS sr ?_
   refine s_own r.1 ?_
   refine s_pick (kidsD G.toBtT d cq) ?_
   refine s_ownS kq ?_
   refine s_ownS sq ?_
   refine s_own q.1 ?_
   refine s_ownS kd ?_
   refine s_ownS s ?_
   refine s_own n ?_
   refine zMC ok (A:=[]) (IA:=[]) (by simp) rfl (by simp only [List.length_nil]; omega) hIC.symm (by omega) hfq hfr fun s' kd'=>?_
   refine s_pick (kidsR G.toBtT d ([]++C)) ?_
   refine s_pick (NodeR G.toBtT d 2 q.1 (wv iq cq++x::wv ir cr)) ?_
   refine s_ownS kd' ?_
   refine s_ownS s' ?_
   refine s_own n ?_
   refine s_asmK (A:=[]) (by simp; omega) (by simp; omega) ?_
   simp only [List.nil_append]
   have h2:=hU1 (q.1,wv iq cq++x::wv ir cr)
   rw [h2,← hqL,← hrL]
   simpa using h
 ·
  simp only [List.concat_eq_append,List.append_assoc,List.singleton_append] at hf' hkn hf h ⊢
  have hAl:(A++[p]).length = A.length + 1:=by simp
  rw [hAl] at hf' hkn ⊢
  obtain ⟨IA,x,IC,rfl,hIA,hIC⟩:=zOM (L:=its) (a:=A.length) (c:=C.length) (by omega)
  obtain ⟨U,V,hU1,hU2⟩:=wv_two (IA:=IA) (IC:=IC) (A:=A) (C:=C) hIA hIC.symm
  have hil:(IA++x::IC).length = IA.length + (IC.length + 1):=by simp
  rw [hU2] at h
  rw [hil] at hl
  refine s_t ?_
  repeat first | refine s_nx ?_ | refine s_ai ?_
  refine s_idx (s:=kd) (i:=A.length) ?_
  refine s_ldE0 (s:=kd) (x:=ptr p) (kp_at at_mid) ?_
  refine s_nn ?_
  refine s_pick (kidsR G.toBtT d (A++p::C)) ?_
  refine s_kid ?_
  refine s_raw fun sp kp ip cp hfp hlp hpne hpL=>?_
  refine s_cap sp fun c1 c2 c3 c4=>?_
  have hspn:=its_n c1
  repeat refine s_nx ?_
  by_cases hb3:2 < ip.length
  ·rw [show decide ((2:Int) < (sp.n:Int)) = true by simp; omega]
   rcases List.eq_nil_or_concat ip with rfl | ⟨ip,y,rfl⟩
   ·simp at hb3
   simp only [List.concat_eq_append] at hb3 hlp hfp hpL ⊢
   have hipl:(ip++[y]).length = ip.length + 1:=by simp
   rw [hipl] at hb3 hlp
   refine s_pick (kidsD G.toBtT d cq) ?_
   refine s_ownS kq ?_
   refine s_ownS sq ?_
   refine s_own q.1 ?_
   refine s_pick (kidsD G.toBtT d cp) ?_
   refine s_ownS kp ?_
   refine s_ownS sp ?_
   refine s_own p.1 ?_
   refine s_ownS kd ?_
   refine s_ownS s ?_
   refine s_own n ?_
   refine zTr ok (A:=A) (by omega) hIA (by omega) hIC.symm (by omega) hq1 hfp hfq fun P' Q' e s' kd'=>?_
   refine s_pick (kidsR G.toBtT d (A++C)) ?_
   refine s_pick (NodeR G.toBtT d 2 q.1 Q') ?_
   refine s_pick (NodeR G.toBtT d 2 p.1 P') ?_
   refine s_ownS kd' ?_
   refine s_ownS s' ?_
   refine s_own n ?_
   refine s_asm2 (by simp; omega) (by simp; omega) ?_
   rw [hU2,show U++(p.1,P').2++y::((q.1,Q').2++V) = U++(P'++y::Q')++V by simp,e,← hqL,← hpL]
   simpa using h
  rw [show decide ((2:Int) < (sp.n:Int)) = false by simp; omega]
  unfold zFx
  repeat first | refine s_nx ?_ | refine s_ai ?_
  cases C with
  | nil =>
   refine s_f ?_ (by simp only [List.length_nil] at hkn; simp; omega)
   refine s_pick (kidsD G.toBtT d cq) ?_
   refine s_ownS kq ?_
   refine s_ownS sq ?_
   refine s_own q.1 ?_
   refine s_pick (kidsD G.toBtT d cp) ?_
   refine s_ownS kp ?_
   refine s_ownS sp ?_
   refine s_own p.1 ?_
   refine s_ownS kd ?_
   refine s_ownS s ?_
   refine s_own n ?_
   refine zMC ok (by simp only [gt_iff_lt]; split <;> omega) hIA (by omega) hIC.symm (by omega) hfp hfq fun s' kd'=>?_
   refine s_pick (kidsR G.toBtT d (A++[])) ?_
   refine s_pick (NodeR G.toBtT d 2 p.1 (wv ip cp++x::wv iq cq)) ?_
   refine s_ownS kd' ?_
   refine s_ownS s' ?_
   refine s_own n ?_
   refine s_asmK (by simp only [List.length_append,List.length_cons]; omega) (by simp only [List.length_append]; omega) ?_
   rw [hU1,← hqL,← hpL]
   simpa using h
  | cons r C =>
   simp only [List.length_cons] at hf' hkn hIC
   obtain ⟨x2,IC,rfl⟩:∃ x2 IC',IC = x2::IC':=by
    cases IC with
    | nil=>simp at hIC
    | cons x2 IC=>exact ⟨x2,IC,rfl⟩
   simp only [List.length_cons] at hIC hl
   refine s_t ?_ (by simp; omega)
   repeat first | refine s_nx ?_ | refine s_ai ?_
   refine s_idx (s:=kd) (i:=A.length + 2) ?_
   refine s_ldE0 (s:=kd) (x:=ptr r) (kp_at (by rw [show A++p::q::r::C = (A++[p])++q::r::C by simp,show A.length + 2 = (A++[p]).length + 1 by simp]; exact zJx)) ?_
   refine s_nn ?_
   refine s_pick (kidsR G.toBtT d (A++r::C)) ?_
   refine s_kid ?_
   refine s_raw fun sr kr ir cr hfr hlr hrne hrL=>?_
   refine s_cap sr fun g1 g2 g3 g4=>?_
   have hsrn:=its_n g1
   repeat refine s_nx ?_
   by_cases hb4:2 < ir.length
   ·rw [show decide ((2:Int) < (sr.n:Int)) = true by simp; omega]
    obtain ⟨y,ir,rfl⟩:∃ y ir',ir = y::ir':=by
     cases ir with
     | nil=>simp at hb4
     | cons y ir=>exact ⟨y,ir,rfl⟩
    simp only [List.length_cons] at hb4 hlr
    refine s_pick (kidsD G.toBtT d cp) ?_
    refine s_ownS kp ?_
    refine s_ownS sp ?_
    refine s_own p.1 ?_
    refine zEM (m:=2) hfp hlp (fun _=>.inr (hpne rfl)) ?_
    rw [← hpL]
    rw [show A++p::q::r::C = (A++[p])++q::r::C by simp,show IA++x::x2::IC = (IA++[x])++x2::IC by simp]
    refine s_pick (kidsD G.toBtT d cr) ?_
    refine s_ownS kr ?_
    refine s_ownS sr ?_
    refine s_own r.1 ?_
    refine s_pick (kidsD G.toBtT d cq) ?_
    refine s_ownS kq ?_
    refine s_ownS sq ?_
    refine s_own q.1 ?_
    refine s_ownS kd ?_
    refine s_ownS s ?_
    refine s_own n ?_
    refine zPe ok (A:=A++[p]) (IA:=IA++[x]) (by rw [hAl]) (by simp [hIA]) (by simp; omega) (by omega) (by omega) hq1 hfr hfq fun Q' R' e s' kd'=>?_
    refine s_pick (kidsR G.toBtT d (A++C)) ?_
    refine s_pick (NodeR G.toBtT d 2 p.1 p.2) ?_
    refine zEL ?_
    rw [show A++p::C = (A++[p])++C by simp]
    refine s_pick (kidsR G.toBtT d ((A++[p])++C)) ?_
    refine s_pick (NodeR G.toBtT d 2 r.1 R') ?_
    refine s_pick (NodeR G.toBtT d 2 q.1 Q') ?_
    refine s_ownS kd' ?_
    refine s_ownS s' ?_
    refine s_own n ?_
    refine s_asm2 (by simp; omega) (by simp; omega) ?_
    obtain ⟨U',V',hV1,hV2⟩:=wv_two (IA:=IA++[x]) (IC:=IC) (A:=A++[p]) (C:=C) (by simp [hIA]) (by omega)
    have h3:=hV2 q x2 r
    have h4:=hU2 p x q
    rw [show (IA++[x])++x2::IC = IA++x::x2::IC by simp,show (A++[p])++q::r::C = A++p::q::r::C by simp,h4] at h3
    rw [hV2,show U'++(q.1,Q').2++y::((r.1,R').2++V') = U'++(Q'++y::R')++V' by simp,e,← hqL,← hrL]
    rw [h3] at h
    simpa using h
   ·rw [show decide ((2:Int) < (sr.n:Int)) = false by simp; omega]
    refine s_pick (kidsD G.toBtT d cr) ?_
    refine s_ownS kr ?_
    refine s_ownS sr ?_
    refine s_own r.1 ?_
    refine zEM (m:=2) hfr hlr (fun _=>.inr (hrne rfl)) ?_
    rw [← hrL]
    refine s_pick (kidsR G.toBtT d (A++C)) ?_
    refine s_pick (NodeR G.toBtT d 2 r.1 r.2) ?_
    refine zEL ?_
    refine s_pick (kidsD G.toBtT d cq) ?_
    refine s_ownS kq ?_
    refine s_ownS sq ?_
    refine s_own q.1 ?_
    refine s_pick (kidsD G.toBtT d cp) ?_
    refine s_ownS kp ?_
    refine s_ownS sp ?_
    refine s_own p.1 ?_
    refine s_ownS kd ?_
    refine s_ownS s ?_
    refine s_own n ?_
    refine zMC ok (by simp only [gt_iff_lt]; split <;> omega) hIA (by simp; omega) (by simp; omega) (by omega) hfp hfq fun s' kd'=>?_
    refine s_pick (kidsR G.toBtT d (A++r::C)) ?_
    refine s_pick (NodeR G.toBtT d 2 p.1 (wv ip cp++x::wv iq cq)) ?_
    refine s_ownS kd' ?_
    refine s_ownS s' ?_
    refine s_own n ?_
    refine s_asmK (by simp only [List.length_append,List.length_cons]; omega) (by simp only [List.length_append,List.length_cons]; omega) ?_
    rw [hU1,← hqL,← hpL]
    simpa using h
end
end Bt
end Go.Sep
namespace Go.Sep
open Go Go.RowKit
namespace Bt
section
variable {κ:Type} {G:BtD κ} {c:κ→κ→Int} {B:World} {Γ Δ:List HProp}
theorem wv_end:∀ {its:List G.It} {A:List (Kid G.toBtT)},its.length = A.length→∃ U:List G.It,∀ p:Kid G.toBtT,wv its (A++[p]) = U++p.2
 | [],[],_=>⟨[],fun p=>by simp [wv]⟩
 | a::its,r::A,h=>by
  obtain ⟨U,h1⟩:=wv_end (its:=its) (A:=A) (by simpa using h)
  exact ⟨r.2++a::U,fun p=>by simp [wv,h1]⟩
 | [],_::_,h=>by simp at h
 | _::_,[],h=>by simp at h
theorem zQF (ok:BtDOk G c):∀ (d:Nat) {b:Nat} {L:List G.It} {Γ:List HProp} {Q:Array Value→K},
  (∀ L0 x,L = L0++[x]→HG B (NodeR G.toBtT d 0 b L0::Γ) (Q (G.f x).toArray))→HG B (NodeR G.toBtT d 2 b L::Γ) (G.nlastC (some ⟨b,0,none⟩) Q):=by
 have okT:=ok.toBtOk
 intro d
 induction d with
 | zero =>
  intro b L Γ Q h
  refine fun w hw=>ok.last _ _ _ ?_
  refine hg hw ?_
  clear hw w
  refine zHO fun s kd hne hl=>?_
  rcases List.eq_nil_or_concat L with rfl | ⟨L0,x,rfl⟩
  ·exact absurd rfl (hne rfl)
  simp only [List.concat_eq_append] at h hl ⊢
  have hll:(L0++[x]).length = L0.length + 1:=by simp
  rw [hll] at hl
  refine s_cap s fun a1 a2 a3 a4=>?_
  refine s_cap kd fun b1 b2 b3 b4=>?_
  have hsn:=its_n a1
  have hkn:=kps_n b1
  rw [hll] at hsn
  simp only [List.length_nil] at hkn
  unfold nlast
  refine s_new fun t2=>?_
  repeat first | refine s_nx ?_ | refine s_ai ?_
  refine s_f ?_ (by simp; omega)
  repeat first | refine s_nx ?_ | refine s_ai ?_
  refine s_idx (s:=s) (i:=L0.length) ?_
  refine zJw (s:=s) (x:=x) G.f_len (by simp) ?_
  refine s_new fun x5=>?_
  repeat refine s_nx ?_
  refine s_stN (b:=x5) ?_ (by simp [okT.vz.1]) (G.f_len x) (flat_f okT x)
  repeat first | refine s_nx ?_ | refine s_ai ?_
  refine s_slc (lo:=0) (hi:=L0.length) (mx:=s.c) ?_
  rw [cut0 a3]
  repeat refine s_nx ?_
  refine zMr (s:=s) (m:=L0.length) (by omega) a2 ?_
  rw [List.take_left]
  refine s_ldN (b:=x5) (l':=G.f x) ?_ (List.take_of_length_le (by simp [G.f_len])) (G.f_len _)
  refine s_stN (b:=t2) ?_ (by simp [okT.vz.1]) (G.f_len x) (flat_f okT x)
  refine s_ldN (b:=t2) (l':=G.f x) ?_ (List.take_of_length_le (by simp [G.f_len])) (G.f_len _)
  refine s_ownS kd ?_
  refine s_ownS ⟨s.a,L0.length,s.c⟩ ?_
  refine s_own b ?_
  refine s_mk0 (m:=0) (by simp) (by omega) ?_
  exact s_end (h L0 x rfl)
 | succ d ih =>
  intro b L Γ Q h
  refine fun w hw=>ok.last _ _ _ ?_
  refine hg hw ?_
  clear hw w
  refine s_raw fun s kd its ks hf hl hne hL=>?_
  subst hL
  have hf':ks.length = its.length + 1:=hf
  rcases List.eq_nil_or_concat ks with rfl | ⟨A,q,rfl⟩
  ·simp at hf'
  simp only [List.concat_eq_append] at h hf hf' ⊢
  have hkl:(A++[q]).length = A.length + 1:=by simp
  rw [hkl] at hf'
  refine s_pick (kidsD G.toBtT (d + 1) (A++[q])) ?_
  refine s_conv (A':=kidsR G.toBtT d (A++[q])) (fun _ h=>h) ?_
  refine s_kid (A:=A) (C:=[]) ?_
  refine s_cap s fun a1 a2 a3 a4=>?_
  refine s_cap kd fun b1 b2 b3 b4=>?_
  have hsn:=its_n a1
  have hkn:=kps_n b1
  rw [List.length_map,hkl] at hkn
  unfold nlast
  refine s_new fun t2=>?_
  repeat first | refine s_nx ?_ | refine s_ai ?_
  rw [show ((kd.n:Nat):Int) - 1 = ((A.length:Nat):Int) by omega]
  refine s_t ?_ (by simp)
  repeat refine s_nx ?_
  refine s_idx (s:=kd) (i:=A.length) ?_
  refine s_ldE0 (s:=kd) (x:=ptr q) (kp_at at_mid) ?_
  refine s_pick (NodeR G.toBtT d 2 q.1 q.2) ?_
  refine ih (b:=q.1) (L:=q.2) fun L0 x e=>?_
  refine s_new fun x4=>?_
  refine s_stN (b:=x4) ?_ (by simp [okT.vz.1]) (G.f_len x) (flat_f okT x)
  rw [show (A++[q]).map ptr = (A++[(q.1,L0)]).map ptr by simp [ptr]]
  refine s_pick (kidsR G.toBtT d (A++[])) ?_
  refine s_pick (NodeR G.toBtT d 0 q.1 L0) ?_
  refine s_ownS kd ?_
  refine s_ownS s ?_
  refine s_own b ?_
  refine zJG ok (q:=(q.1,L0)) (C:=[]) hl (hne rfl) (by simp; omega) ?_
  refine s_ldN (b:=x4) (l':=G.f x) ?_ (List.take_of_length_le (by simp [G.f_len])) (G.f_len _)
  refine s_stN (b:=t2) ?_ (by simp [okT.vz.1]) (G.f_len x) (flat_f okT x)
  refine s_ldN (b:=t2) (l':=G.f x) ?_ (List.take_of_length_le (by simp [G.f_len])) (G.f_len _)
  refine s_end (h (wv its (A++[(q.1,L0)])) x ?_)
  obtain ⟨U,hU⟩:=wv_end (its:=its) (A:=A) (by omega)
  rw [hU,hU,e,List.append_assoc]
def DelR (c:κ→κ→Int) {ν:Type} (z:ν) (L:List (κ×ν)) (k:κ) (L':List (κ×ν)) (old:ν) (had:Bool):Prop :=
 (∃ A C,L = A++(k,old)::C∧L' = A++C∧had = true)∨((∃ A C,L = A++C∧(∀ x ∈ A,c x.1 k < 0)∧(∀ x ∈ C,c k x.1 < 0))∧L' = L∧old = z∧had = false)
theorem DelR.mid {ν:Type} {z old:ν} {A C L L':List (κ×ν)} {k:κ} {had:Bool} (hA:∀ x ∈ A,c x.1 k < 0) (hC:∀ x ∈ C,c k x.1 < 0) (h:DelR c z L k L' old had):DelR c z (A++L++C) k (A++L'++C) old had:=by
 rcases h with ⟨A',C',rfl,rfl,rfl⟩ | ⟨⟨A',C',rfl,h1,h2⟩,rfl,rfl,rfl⟩
 ·exact .inl ⟨A++A',C'++C,by simp,by simp,rfl⟩
 ·refine .inr ⟨⟨A++A',C'++C,by simp,fun x hx=>?_,fun x hx=>?_⟩,rfl,rfl,rfl⟩
  ·rcases List.mem_append.1 hx with hx | hx
   ·exact hA x hx
   ·exact h1 x hx
  ·rcases List.mem_append.1 hx with hx | hx
   ·exact h2 x hx
   ·exact hC x hx
theorem DelR.srt {ν:Type} {z old:ν} {L L':List (κ×ν)} {k:κ} {had:Bool} (h:DelR c z L k L' old had) (hs:Srt c L):Srt c L':=by
 rcases h with ⟨A',C',rfl,rfl,rfl⟩ | ⟨_,rfl,rfl,rfl⟩
 ·exact hs.sub ((List.Sublist.refl A').append (List.sublist_cons_self _ _))
 ·exact hs
theorem DelR.len {ν:Type} {z old:ν} {L L':List (κ×ν)} {k:κ} {had:Bool} (h:DelR c z L k L' old had):L.length = L'.length + (if had then 1 else 0):=by
 rcases h with ⟨A',C',rfl,rfl,rfl⟩ | ⟨_,rfl,rfl,rfl⟩
 ·simp; omega
 ·simp
theorem zQG (ok:BtDOk G c):∀ (d:Nat) {m b:Nat} {M:List G.It} {k:κ} {Γ:List HProp} {Q:Array Value→Bool→K},1 ≤ m→Srt c M →
  (∀ M' old had,DelR c (G.z0 ok.vz) M k M' old had→HG B (NodeR G.toBtT d 0 b M'::Γ) (Q old.1.toArray had)) →
  HG B (NodeR G.toBtT d m b M::Γ) (G.ntakeC (some ⟨b,0,none⟩) k Q):=by
 have okT:=ok.toBtOk
 intro d
 induction d with
 | zero =>
  intro m b M k Γ Q hm hs h
  refine fun w hw=>ok.take _ _ _ _ ?_
  refine hg hw ?_
  clear hw w
  refine zHO fun s kd _ hl=>?_
  refine s_cap s fun a1 a2 a3 a4=>?_
  refine s_cap kd fun b1 b2 b3 b4=>?_
  have hsn:=its_n a1
  have hkn:=kps_n b1
  simp only [List.length_nil] at hkn
  unfold ntake
  refine s_new fun v4=>?_
  refine zFt okT (s:=s) (kd:=kd) hs (by omega) (fun A v0 C e=>?_) fun A C e hA hC=>?_
  ·subst e
   have hlen:(A++(k,v0)::C).length = A.length + (C.length + 1):=List.length_append
   repeat refine s_nx ?_
   rw [show decide ((kd.n:Int) = 0) = true by simp; omega]
   unfold zFy
   repeat refine s_nx ?_
   refine s_idx (s:=s) (i:=A.length) ?_
   refine s_ldEN (s:=s) (l':=v0.1) zFu v0.2.1 ?_
   refine s_stN (b:=v4) ?_ okT.vz.1 v0.2.1 v0.2.2
   repeat first | refine s_nx ?_ | refine s_ai ?_
   obtain ⟨Z,hdel⟩:=ok.delI
   refine fun w hw=>hdel _ _ _ _ _ ?_
   refine hg hw ?_
   clear hw w
   rw [show ((A.length:Nat):Int) + 1 = ((A.length + 1:Nat):Int) by omega]
   refine s_del (s:=s) (i:=A.length) (j:=A.length + 1) (by omega) (by omega) (by omega) (zEq okT _) (fun s' hs'=>?_) okT.TI
   rw [zPd]
   repeat refine s_nx ?_
   refine s_ret3 (v:=v0) ?_
   refine s_ownS kd ?_
   refine s_ownS s' ?_
   refine s_own b ?_
   refine s_mk0 (m:=0) (by simp) (by simp; omega) ?_
   exact s_end (h _ _ _ (.inl ⟨A,C,rfl,rfl,rfl⟩))
  ·subst e
   repeat refine s_nx ?_
   unfold zFy
   repeat refine s_nx ?_
   refine s_f ?_ (by simp; omega)
   unfold zIO
   refine s_ret3 (v:=G.z0 okT.vz) ?_
   refine s_ownS kd ?_
   refine s_ownS s ?_
   refine s_own b ?_
   refine s_mk0 (m:=0) (by simp) hl ?_
   exact s_end (h _ _ _ (.inr ⟨⟨A,C,rfl,hA,hC⟩,rfl,rfl,rfl⟩))
 | succ d ih =>
  intro m b M k Γ Q hm hs h
  refine fun w hw=>ok.take _ _ _ _ ?_
  refine hg hw ?_
  clear hw w
  refine zJp fun s kd q0 ps hne hl hM=>?_
  subst hM
  have hne:=hne hm
  refine s_cap s fun a1 a2 a3 a4=>?_
  refine s_cap kd fun b1 b2 b3 b4=>?_
  have hsn:=its_n a1
  have hkn:=kps_n b1
  simp only [List.length_map,List.length_cons] at hsn hkn
  unfold ntake
  refine s_new fun v4=>?_
  refine zFt okT (s:=s) (kd:=kd) (hs.sub (zHN q0 ps)) (by simp; omega) (fun A v0 C e=>?_) fun A C e hA hC=>?_
  ·obtain ⟨l,q,r,hA,hC,hK,hL,hlen⟩:=zip_of (q0:=q0) e
   rw [e,hK]
   rw [hL] at hs h
   obtain ⟨⟨xx,q1⟩,r,rfl,hxx,hC'⟩:=List.map_eq_cons_iff.1 hC.symm
   simp only at hxx
   subst hxx
   subst hA
   subst hC'
   simp only [List.length_cons] at hlen
   have hll:(l.map Prod.snd).length = l.length:=by simp
   have hlf:(l.map Prod.fst).length = l.length:=by simp
   repeat refine s_nx ?_
   rw [show decide ((kd.n:Int) = 0) = false by simp; omega]
   unfold zFy
   repeat refine s_nx ?_
   refine s_idx (s:=s) (i:=(l.map Prod.snd).length) ?_
   refine s_ldEN (s:=s) (l':=v0.1) zFu v0.2.1 ?_
   refine s_stN (b:=v4) ?_ okT.vz.1 v0.2.1 v0.2.2
   refine s_dr ?_
   refine s_wsD [nodeB G.toBtT b s kd,itsR G.toBtT s (l.map Prod.snd++(k,v0)::r.map Prod.fst),kpsR G.toBtT kd ((l.map Prod.fst++q::(((k,v0),q1)::r).map Prod.snd).map ptr)] ?_
   repeat refine s_nx ?_
   refine s_idx (s:=kd) (i:=(l.map Prod.fst).length) ?_ (by omega)
   refine zMA (s:=kd) (c:=Value.pointer) (L:=(l.map Prod.fst++q::(((k,v0),q1)::r).map Prod.snd).map ptr) (x:=ptr q) (by simp) ?_
   refine s_pick (kidsR G.toBtT d (l.map Prod.fst++q::(((k,v0),q1)::r).map Prod.snd)) ?_
   refine s_kid ?_
   refine zQF ok d (b:=q.1) (L:=q.2) fun L0 x e2=>?_
   repeat refine s_nx ?_
   refine s_idx (s:=s) (i:=(l.map Prod.snd).length) ?_
   refine s_stEl (s:=s) (A:=l.map Prod.snd) (x:=(k,v0)) (y:=x) G.f_len (flat_f okT x) ?_
   rw [show (l.map Prod.fst++q::(((k,v0),q1)::r).map Prod.snd).map ptr = (l.map Prod.fst++(q.1,L0)::(((k,v0),q1)::r).map Prod.snd).map ptr by simp [ptr]]
   rw [show ((l.map Prod.snd).length:Int) = ((l.map Prod.fst).length:Int) by rw [hll,hlf]]
   refine s_pick (kidsR G.toBtT d (l.map Prod.fst++(((k,v0),q1)::r).map Prod.snd)) ?_
   refine s_pick (NodeR G.toBtT d 0 q.1 L0) ?_
   refine s_ownS kd ?_
   refine s_ownS s ?_
   refine s_own b ?_
   refine zJG ok (q:=(q.1,L0)) (by simp; omega) (by simp) (by simp; omega) ?_
   refine s_ret3 (v:=v0) ?_
   refine s_end (h (wv (l.map Prod.snd++x::r.map Prod.fst) (l.map Prod.fst++(q.1,L0)::(((k,v0),q1)::r).map Prod.snd)) v0 true (.inl ⟨preL l++q.2,q1.2++postL r,?_,?_,rfl⟩))
   ·simp [postL]
   ·obtain ⟨q0',ps',e3,e4,e5,e6⟩:=zback l (q.1,L0) ((x,q1)::r)
    rw [show l.map Prod.snd++x::r.map Prod.fst = ps'.map Prod.fst from e4.symm,show l.map Prod.fst++(q.1,L0)::(((k,v0),q1)::r).map Prod.snd = q0'::ps'.map Prod.snd from e5.symm,wv_ps,e6,e2]
    simp [postL]
  ·obtain ⟨l,q,r,rfl,rfl,hK,hL,hlen⟩:=zip_of (q0:=q0) e
   rw [e,hK]
   rw [hL] at hs h
   have hll:(l.map Prod.snd).length = l.length:=by simp
   have hlf:(l.map Prod.fst).length = l.length:=by simp
   have hs1:=List.pairwise_append.1 hs
   have hs2:=List.pairwise_append.1 hs1.1
   have hpre:=pre_lt okT l hs2.1 hA
   have hpost:=zJo okT r hs1.2.1 hC
   repeat refine s_nx ?_
   unfold zFy
   repeat refine s_nx ?_
   refine s_t ?_ (by simp; omega)
   repeat refine s_nx ?_
   refine s_idx (s:=kd) (i:=(l.map Prod.fst).length) ?_ (by omega)
   refine s_ldE0 (s:=kd) (x:=ptr q) (kp_at at_mid) ?_
   refine s_pick (kidsR G.toBtT d (l.map Prod.fst++q::r.map Prod.snd)) ?_
   refine s_kid ?_
   refine ih (m:=2) (b:=q.1) (M:=q.2) (by omega) hs2.2.1 fun M' old had hp=>?_
   refine s_stN (b:=v4) ?_ okT.vz.1 old.2.1 old.2.2
   rw [show (l.map Prod.fst++q::r.map Prod.snd).map ptr = (l.map Prod.fst++(q.1,M')::r.map Prod.snd).map ptr by simp [ptr]]
   rw [show ((l.map Prod.snd).length:Int) = ((l.map Prod.fst).length:Int) by rw [hll,hlf]]
   refine s_pick (kidsR G.toBtT d (l.map Prod.fst++r.map Prod.snd)) ?_
   refine s_pick (NodeR G.toBtT d 0 q.1 M') ?_
   refine s_ownS kd ?_
   refine s_ownS s ?_
   refine s_own b ?_
   refine zJG ok (q:=(q.1,M')) (by simp; omega) (fun h0=>hne ?_) (by simp; omega) ?_
   ·have:=congrArg List.length h0
    simp only [List.length_append,List.length_map,List.length_nil] at this
    exact List.length_eq_zero_iff.1 (by omega)
   unfold zIO
   refine s_ret3 (v:=old) ?_
   obtain ⟨q0',ps',e3,e4,e5,e6⟩:=zback l (q.1,M') r
   rw [← e4,← e5,wv_ps,e6]
   exact s_end (h _ _ _ (hp.mid hpre hpost))
theorem zPf (ok:BtDOk G c) {t v4 d b:Nat} {L L':List G.It} {k:κ} {old:Cel G.nv} {had:Bool} {Q:Array Value→Bool→K} (hs:Srt c L) (hL:L.length < 1000000000) (hp:DelR c (G.z0 ok.vz) L k L' old had) (h:HG B (TreeR G.toBtT c t L'::Γ) (Q old.1.toArray had)) :
  HG B (valB G.toBtT v4 old::blk t (.cells [.pointer (some ⟨b,0,none⟩),.int .i64 L.length].toArray G.tT (0,0))::NodeR G.toBtT d 1 b L'::Γ) (zJv G Q ⟨t,0,none⟩ ⟨v4,0,none⟩ had):=by
 have hlen:=hp.len
 unfold zJv
 refine s_ite (fun hb=>?_) fun hb=>?_
 ·rw [hb,if_pos rfl] at hlen
  repeat first | refine s_nx ?_ | refine s_ai ?_
  unfold zJu
  rw [show ((L.length:Nat):Int) - 1 = ((L'.length:Nat):Int) by omega]
  refine s_ret3 (v:=old) ?_
  refine s_own b ?_
  refine s_own t ?_
  exact zFC (hp.srt hs) (s_end h)
 ·rw [hb,if_neg (by simp)] at hlen
  unfold zJu
  rw [show ((L.length:Nat):Int) = ((L'.length:Nat):Int) by omega]
  refine s_ret3 (v:=old) ?_
  refine s_own b ?_
  refine s_own t ?_
  exact zFC (hp.srt hs) (s_end h)
theorem zRD (ok:BtDOk G c) {t:Nat} {L:List G.It} {k:κ} {Q:Array Value→Bool→K} (hL:L.length < 1000000000) (h:∀ L' old had,DelR c (G.z0 ok.vz) L k L' old had→HG B (TreeR G.toBtT c t L'::Γ) (Q old.1.toArray had)) :
  HG B (TreeR G.toBtT c t L::Γ) (tdel G (some ⟨t,0,none⟩) k Q):=by
 have okT:=ok.toBtOk
 refine s_tree fun d b hs=>?_
 unfold tdel
 refine s_new fun v4=>?_
 repeat refine s_nx ?_
 refine s_pick (NodeR G.toBtT d 1 b L) ?_
 refine zQG ok d (m:=1) (Nat.le_refl _) hs fun M' old had hp=>?_
 have h:=h M' old had hp
 refine s_stN (b:=v4) ?_ okT.vz.1 old.2.1 old.2.2
 repeat refine s_nx ?_
 refine s_own b ?_
 refine s_raw fun s kd its ks hf hl _ hM=>?_
 refine s_cap s fun a1 a2 a3 a4=>?_
 refine s_cap kd fun b1 b2 b3 b4=>?_
 have hsn:=its_n a1
 have hkn:=kps_n b1
 rw [List.length_map] at hkn
 repeat refine s_nx ?_
 have back:((d = 0∧1 = 1)∨its ≠ [])→HG B (rawL G.toBtT d b s kd its ks (valB G.toBtT v4 old::blk t (.cells [.pointer (some ⟨b,0,none⟩),.int .i64 L.length].toArray G.tT (0,0))::Γ)) (zHg G Q ⟨t,0,none⟩ ⟨v4,0,none⟩ had false):=fun hb=>by
  refine zEM (m:=1) hf hl (fun _=>hb) ?_
  rw [← hM]
  unfold zHg
  repeat refine s_nx ?_
  refine s_own b ?_
  refine s_own t ?_
  refine s_pick (valB G.toBtT v4 old) ?_
  exact zPf ok hs hL hp h
 refine s_ite (fun hb=>?_) fun hb=>?_
 ·have hn:its = []:=List.length_eq_zero_iff.1 (by simp only [decide_eq_true_eq] at hb; omega)
  subst hn
  repeat refine s_nx ?_
  cases d with
  | zero =>
   have hk:ks = []:=hf
   subst hk
   rw [show decide ((kd.n:Int) = 1) = false by simp only [List.length_nil] at hkn; simp; omega]
   exact s_end (back (.inl ⟨rfl,rfl⟩))
  | succ d =>
   obtain ⟨q,rfl⟩:∃ q,ks = [q]:=List.length_eq_one_iff.1 hf
   simp only [List.length_cons,List.length_nil] at hkn
   rw [show decide ((kd.n:Int) = 1) = true by simp; omega]
   unfold zHg
   repeat refine s_nx ?_
   refine s_idx (s:=kd) (i:=0) ?_
   refine s_ldE0 (s:=kd) (x:=ptr q) (by simp) ?_
   refine s_st (b:=t) (v:=.pointer (some ⟨q.1,0,none⟩)) ?_
   refine s_pick (kidsD G.toBtT (d + 1) [q]) ?_
   refine s_conv (A':=kidsR G.toBtT d [q]) (fun _ h=>h) ?_
   refine s_kid (A:=[]) (C:=[]) (q:=q) ?_
   refine s_conv (NodeR.weak (m':=1) (by simp) (by simp)) ?_
   have e:q.2 = M':=hM.symm
   rw [e]
   refine s_pick (NodeR G.toBtT d 1 q.1 M') ?_
   refine s_own t ?_
   refine s_pick (valB G.toBtT v4 old) ?_
   refine zPf ok hs hL hp ?_
   exact s_end h
 ·have hn:its ≠ []:=fun h0=>by
   rw [h0,List.length_nil] at hsn
   simp only [decide_eq_false_iff_not] at hb; omega
  exact s_end (back (.inr hn))
end
end Bt
end Go.Sep
namespace Go.Proofs.YtdemfamgieonbaaGreat
open Go Go.Sep Go.Sep.Bt
set_option maxRecDepth 100000
noncomputable def btSD:BtD ByteArray where
 toBtT:=btS
 delIC:=zAH.call
 delKC:=zAT.call
 ntakeC:=zAV.call
 nlastC:=zBW.call
 nmendC:=zAP.call
theorem zTs:BtDOk btSD cmpS where
 toBtOk:=btS_ok
 delI:=⟨_,fun s i j Q w h=>zCG _ _ _ _ _ h⟩
 delK:=⟨_,fun s i j Q w h=>zCJ _ _ _ _ _ h⟩
 take:=fun n k Q w h=>zEd _ _ _ _ h
 last:=fun n Q w h=>zEe _ _ _ h
 mend:=fun n i Q w h=>zEf _ _ _ _ h
def delM (M:Recs) (k:ByteArray):Recs:=M.filter fun x=>!decide (x.1 = k)
def setM (M:Recs) (k:ByteArray) (r:Rec):Recs:=if r.has = false∧r.cnt = 0 then delM M k else putM M k r
theorem zJH {M:Recs} {k:ByteArray} (h:∀ x ∈ M,x.1 ≠ k):delM M k = M:=List.filter_eq_self.2 fun x hx=>by simpa using h x hx
theorem zSe {A C:Recs} {k:ByteArray} {r:Rec} (hA:∀ x ∈ A,x.1 ≠ k) (hC:∀ x ∈ C,x.1 ≠ k):delM (A++(k,r)::C) k = A++C:=by
 unfold delM
 rw [List.filter_append,List.filter_cons_of_neg (by simp)]
 exact congr (congrArg _ (zJH hA)) (zJH hC)
theorem zON (M:Recs) (k:ByteArray) (r:Rec):(setM M k r).length ≤ M.length + 1:=by
 unfold setM
 split
 ·have:=List.length_filter_le (fun x=>!decide (x.1 = k)) M
  unfold delM; omega
 ·exact zN1 _ _ _
section
variable {B:World} {Γ Δ:List HProp}
theorem zQH {t:Nat} {L:List btS.It} {k:ByteArray} {Q:Array Value→Bool→K} (hL:L.length < 1000000000) (h:∀ L' old had,DelR cmpS (btS.z0 btS_ok.vz) L k L' old had→HG B (TreeR btS cmpS t L'::Γ) (Q old.1.toArray had)) :
  HG B (TreeR btS cmpS t L::Γ) (zAD.call (some ⟨t,0,none⟩) k Q):=fun w hw =>
 zER _ _ _ _ (show tdel btSD (some ⟨t,0,none⟩) k Q w from hg hw (zRD zTs hL h))
theorem zRE {X Y:List RecX} {k:ByteArray} {r:Rec×Sl} (h:Srt cmpS ((X++(k,r)::Y).map recI)):∀ x ∈ Y,cmpS k x.1 < 0:=fun x hx=>by
 rw [List.map_append,List.map_cons] at h
 exact (List.pairwise_cons.1 (List.pairwise_append.1 h).2.1).1 (recI x) (List.mem_map.2 ⟨x,hx,rfl⟩)
theorem zOo {st t n:Nat} {X:List RecX} {k:ByteArray} {q:Array Value→Bool→K} (hok:∀ x ∈ X.map recM,x.2.ok) (h1:1 ≤ n) (h3:n ≤ 3) (hL:X.length < 1000000000)
  (h:∀ a b,HG B (StoreR st n (delM (X.map recM) k)::Γ) (q a b)) :
  HG B (blk st (.cells [.int .i64 n,.pointer (some ⟨t,0,none⟩)].toArray zBP (0,0))::TreeR btS cmpS t (X.map recI)::Sep.stars (X.map recB)::Γ) (zAD.call (some ⟨t,0,none⟩) k q):=by
 refine s_own t ?_
 refine zKW fun hs=>?_
 refine zQH (by simpa using hL) fun L' old had hp=>?_
 rcases hp with ⟨A,C,e,rfl,rfl⟩ | ⟨⟨A,C,e,hA,hC⟩,rfl,rfl,rfl⟩
 ·obtain ⟨XA,r0,XC,rfl,rfl,rfl,rfl⟩:=zI7 e
  have e2:delM ((XA++(k,r0)::XC).map recM) k = (XA++XC).map recM:=by
   rw [List.map_append,List.map_cons,List.map_append]
   refine zSe (fun x hx=>?_) fun x hx=>?_
   ·obtain ⟨y,hy,rfl⟩:=List.mem_map.1 hx
    exact ne_of_lt (zI8 hs y hy)
   ·obtain ⟨y,hy,rfl⟩:=List.mem_map.1 hx
    exact Ne.symm (ne_of_lt (zRE hs y hy))
  rw [e2] at h
  refine s_pick (Sep.stars ((XA++(k,r0)::XC).map recB)) ?_
  refine s_mid ?_
  rw [show XA.map recI++XC.map recI = (XA++XC).map recI by simp]
  refine s_pick (Sep.stars ((XA++XC).map recB)) ?_
  refine s_own t ?_
  refine s_own st ?_
  refine zD5 (fun x hx=>hok x ?_) h1 h3 (s_end (h _ _))
  rw [List.map_append] at hx ⊢
  rcases List.mem_append.1 hx with hx | hx
  ·exact List.mem_append_left _ hx
  ·exact List.mem_append_right _ (List.mem_cons_of_mem _ hx)
 ·have e2:delM (X.map recM) k = X.map recM:=zJH fun x hx=>by
   obtain ⟨y,hy,rfl⟩:=List.mem_map.1 hx
   have hy2:recI y ∈ A++C:=by rw [← e]; exact List.mem_map.2 ⟨y,hy,rfl⟩
   rcases List.mem_append.1 hy2 with h4 | h4
   ·exact ne_of_lt (hA _ h4)
   ·exact Ne.symm (ne_of_lt (hC _ h4))
  rw [e2] at h
  refine s_pick (Sep.stars (X.map recB)) ?_
  refine s_own t ?_
  refine s_own st ?_
  exact zD5 hok h1 h3 (s_end (h _ _))
theorem zHh {st n:Nat} {M:Recs} {k:ByteArray} {r:Rec} {s:Sl} {q:K} (hr:r.ok) (hL:M.length < 1000000000) (h:HG B (StoreR st n (setM M k r)::Γ) q):HG B (StoreR st n M::Bytes zAd s r.val::Γ) (zBH.call (some ⟨st,0,none⟩) k (recA r s) q):=by
 unfold setM at h
 split at h
 ·rename_i h0
  refine fun w hw=>zGB _ _ _ _ _ ?_
  refine hg hw ?_
  clear hw w
  refine zHR fun t X hM hok h1 h3=>?_
  subst hM
  unfold zBH
  refine s_new fun r5=>?_
  repeat refine s_nx ?_
  refine s_t ?_ (by simp [h0.1])
  repeat refine s_nx ?_
  rw [show decide (r.cnt = 0) = true by simpa using h0.2]
  unfold zBH.s1
  repeat refine s_nx ?_
  refine s_pick (Sep.stars (X.map recB)) ?_
  refine s_own t ?_
  refine s_own st ?_
  exact zOo hok h1 h3 (by simpa using hL) fun _ _=>s_end h
 ·rename_i h0
  refine zIY hr ?_ hL h
  by_cases h1:r.has = true
  ·exact .inl h1
  ·exact .inr fun h2=>h0 ⟨by simpa using h1,h2⟩
theorem zMD {st n:Nat} {M:Recs} {k:ByteArray} {v:Sl} {xs:List UInt8} {q:K} (hk:k.size < 1000000000000) (hL:M.length < 1000000000) (hr:∀ w,Holds B Γ w→RdB w v xs) (hx:xs.length ≤ 1000000000)
  (h:HG B (StoreR st n (setM M k { sGet n M k with has:=true,val:=xs })::Γ) q):HG B (StoreR st n M::Γ) (zDg.call (some ⟨st,0,none⟩) k v q):=by
 refine fun w hw=>zI6 _ _ _ _ _ ?_
 refine hg hw ?_
 clear hw w
 unfold zDg
 refine zDP hk fun s hok=>?_
 generalize sGet n M k = r at *
 refine s_new fun r6=>?_
 refine s_stN (b:=r6) (l':=recL r s) ?_
 refine zEK (fun w hw=>hr w hw.drops) hx fun s' _=>?_
 repeat refine s_nx ?_
 refine s_ownS s' ?_
 refine s_own st ?_
 obtain ⟨o1,o2,o3⟩:=hok
 refine zHh (r:={ r with has:=true,val:=xs }) ⟨o1,o2,hx⟩ hL ?_
 exact s_end h
theorem zKi {st n:Nat} {M:Recs} {k:ByteArray} {q:K} (hk:k.size < 1000000000000) (hL:M.length < 1000000000)
  (h:HG B (StoreR st n (setM M k { sGet n M k with has:=false,val:=[] })::Γ) q):HG B (StoreR st n M::Γ) (zC6.call (some ⟨st,0,none⟩) k q):=by
 refine fun w hw=>zHQ _ _ _ _ ?_
 refine hg hw ?_
 clear hw w
 unfold zC6
 refine zDP hk fun s hok=>?_
 generalize sGet n M k = r at *
 refine s_new fun r6=>?_
 refine s_stN (b:=r6) (l':=recL r s) ?_
 repeat refine s_nx ?_
 refine fun w hw=>?_
 refine hg (show Holds B (Bytes zAd ⟨none,0,0⟩ []::_) w from hw.nilSl zAd 1) ?_
 clear hw w
 refine s_ownS ⟨none,0,0⟩ ?_
 refine s_own st ?_
 obtain ⟨o1,o2,o3⟩:=hok
 refine zHh (r:={ r with has:=false,val:=[] }) ⟨o1,o2,by simp⟩ hL ?_
 exact s_end h
end
end Go.Proofs.YtdemfamgieonbaaGreat
namespace Go.Proofs.YtdemfamgieonbaaGreat
open Go Go.Sep Go.Sep.Bt
set_option maxRecDepth 100000
def sPut (n:Nat) (M:Recs) (k:ByteArray) (xs:List UInt8):Recs:=setM M k { sGet n M k with has:=true,val:=xs }
def sDel (n:Nat) (M:Recs) (k:ByteArray):Recs:=setM M k { sGet n M k with has:=false,val:=[] }
def apply0 (n:Nat) (M:Recs) (x:List UInt8×Rec):Recs:=if (sGet n M (bs x.1)).cnt ≠ x.2.cnt then (sMove n M (bs x.1) x.2.home).1 else M
def apply1 (n:Nat) (M:Recs) (x:List UInt8×Rec):Recs:=if x.2.has then sPut n (apply0 n M x) (bs x.1) x.2.val else sDel n (apply0 n M x) (bs x.1)
def applyM (n:Nat) (M:Recs) (W:WM):Recs:=W.foldl (apply1 n) M
theorem zQI (n:Nat) (M:Recs) (k:ByteArray) (to:Int):(sMove n M k to).1.length ≤ M.length + 1:=by
 unfold sMove
 split
 ·simp
 split
 ·simp
 exact zN1 _ _ _
theorem zLN (n:Nat) (M:Recs) (x:List UInt8×Rec):(apply0 n M x).length ≤ M.length + 1:=by
 unfold apply0
 split
 ·exact zQI _ _ _ _
 ·omega
theorem zLO (n:Nat) (M:Recs) (x:List UInt8×Rec):(apply1 n M x).length ≤ M.length + 2:=by
 have h:=zLN n M x
 unfold apply1 sPut sDel
 split
 ·exact Nat.le_trans (zON _ _ _) (by omega)
 ·exact Nat.le_trans (zON _ _ _) (by omega)
section
variable {B:World} {Γ Δ:List HProp} {st n:Nat} {M:Recs}
instance (priority:=high) zUR {b n m:Nat}:AdrIs (((⟨b,0,none⟩:Addr).add n).add m) b (n + m):=⟨by rw [add_mk,add_mk,Nat.zero_add]⟩
abbrev rowL (x:List UInt8×(Rec×Sl)):List Value:=[strV x.1,.bool x.2.1.has,x.2.2.val,.int .i64 x.2.1.home,.int .u64 x.2.1.cnt]
theorem zSf {s:Sl} {R:WX} {Q:K} (hr:∀ w,Holds B Γ w→RdC w s 5 (R.flatMap rowF)) (hv:∀ x ∈ R,∀ w,Holds B Γ w→RdB w x.2.2 x.2.1.val) (hR:∀ x ∈ R,x.1.length < 1000000000∧x.2.1.ok) (hL:M.length + 2 * R.length < 100000000)
  (h:HG B (StoreR st n (applyM n M (modW R))::Γ) Q):HG B (StoreR st n M::Γ) (zBX.call (some ⟨st,0,none⟩) s Q):=fun w hw=>by
 refine zNA _ _ _ _ ?_
 have hsn:s.n = R.length:=rd_len zKf (by omega) (hr w hw.tail)
 refine hg hw ?_
 clear hw w
 unfold zBX
 refine s_loop (α:=Int) (ι:=Nat×Recs) (fun x i=>x = (i.1:Int)∧i.1 ≤ R.length∧i.2 = applyM n M (modW (R.take i.1))∧i.2.length ≤ M.length + 2 * i.1) (fun x i=>StoreR st n i.2::Γ) (fun x i=>R.length - i.1) (0,M) ⟨rfl,Nat.zero_le _,rfl,Nat.le_refl _⟩ ?_
 rintro k' _ ⟨i,N⟩ ⟨rfl,hi,hN,hNl⟩ hk'
 simp only at hi hN hNl hk' ⊢
 unfold zBX.b1
 refine s_ite (fun hb=>?_) fun hb=>?_
 ·have hil:i < R.length:=by simp only [decide_eq_true_eq] at hb; omega
  have hge:R[i]? = some R[i]:=List.getElem?_eq_getElem hil
  have hmem:R[i] ∈ R:=List.getElem_mem hil
  have htk:R.take (i + 1) = R.take i++[R[i]]:=List.take_succ_eq_append_getElem hil
  generalize R[i] = x at hge hmem htk
  obtain ⟨hxk,hxo⟩:=hR x hmem
  have hsz:(bs x.1).size = x.1.length:=rfl
  refine s_idxN rowF zKf (fun w hw=>hr w hw.tail) hge ?_
  refine s_new fun w5=>?_
  refine s_stN (b:=w5) (l':=rowL x) ?_
  repeat refine s_nx ?_
  refine s_own st ?_
  refine zDP (by omega) fun sl hok=>?_
  repeat refine s_nx ?_
  have next:∀ N2,N2 = apply0 n N (x.1,x.2.1)→HG B (blk w5 (.cells (rowL x).toArray zC0 (0,0))::StoreR st n N2::Γ) (zBX.s3 Q k' (some ⟨st,0,none⟩) ⟨w5,0,none⟩ s (s.n:Int) (i:Int)):=fun N2 hN2=>by
   have hl0:=zLN n N (x.1,x.2.1)
   have hl1:=zLO n N (x.1,x.2.1)
   have fin:HG B (StoreR st n (apply1 n N (x.1,x.2.1))::Γ) (zBX.s2 Q k' (some ⟨st,0,none⟩) s (s.n:Int) (i:Int)):=by
    unfold zBX.s2
    refine s_ai ?_
    refine hk' ((i:Int) + 1) (i + 1,apply1 n N (x.1,x.2.1)) ⟨by simp,hil,?_,by simp only; omega⟩ (by simp only; omega)
    simp only [htk,modW,List.map_append,List.map_cons,List.map_nil,applyM,List.foldl_append,List.foldl_cons,List.foldl_nil]
    rw [hN]; rfl
   unfold zBX.s3
   repeat refine s_nx ?_
   refine s_ite (fun hc=>?_) fun hc=>?_
   ·repeat refine s_nx ?_
    refine s_own st ?_
    refine zMD (by omega) (by rw [hN2]; omega) (fun w hw=>hv x hmem w hw.drops) hxo.2.2 ?_
    have e:setM N2 (bs x.1) { sGet n N2 (bs x.1) with has:=true,val:=x.2.1.val } = apply1 n N (x.1,x.2.1):=by
     unfold apply1 sPut; rw [if_pos hc,← hN2]
    rw [e]
    exact s_end fin
   ·repeat refine s_nx ?_
    refine s_own st ?_
    refine zKi (by omega) (by rw [hN2]; omega) ?_
    have e:setM N2 (bs x.1) { sGet n N2 (bs x.1) with has:=false,val:=[] } = apply1 n N (x.1,x.2.1):=by
     unfold apply1 sDel; rw [if_neg (by simp [hc]),← hN2]
    rw [e]
    exact s_end fin
  refine s_ite (fun hc=>?_) fun hc=>?_
  ·have hc':(sGet n N (bs x.1)).cnt ≠ x.2.1.cnt:=by simpa using hc
   repeat refine s_nx ?_
   refine s_own st ?_
   refine zL5 (M:=N) (by omega) (by omega) ?_
   exact s_end (next _ (by unfold apply0; rw [if_pos hc']))
  ·have hc':¬ (sGet n N (bs x.1)).cnt ≠ x.2.1.cnt:=by simpa using hc
   exact s_end (next _ (by unfold apply0; rw [if_neg hc']))
 ·have hil:i = R.length:=by simp only [decide_eq_false_iff_not] at hb; omega
  rw [hil,List.take_length] at hN
  rw [hN]
  exact h
end
end Go.Proofs.YtdemfamgieonbaaGreat
namespace Go.Proofs.YtdemfamgieonbaaGreat
open Go Go.Sep
set_option maxRecDepth 100000
set_option maxHeartbeats 4000000
attribute [local irreducible] G Gp Cx Tx Ex Sx Dx Ox Ax Lx Rx Fx Bx Bj Al Do Ld LdN St StN New CallF Ar DoU Rd Rd2 Pu Cd Ite Fv CallV CallY Ans0 Ans1 Ans2 Ans3 Ans4 Ans5 Ext Dead Dr WithS Sv LdS LdNS RdS Rd2S Nn Idx IdxA IdxS Fld Bld Slc SlcS Cat All LoopK RangeF RangeJ TakeD
namespace F_IRRef06
instance at_173:AT Tryz.prog 173 5:=⟨by kernel_rfl⟩
instance at_87:AT Tryz.prog 87 4:=⟨by kernel_rfl⟩
instance cb_29:CB Tryz.prog 29:=⟨by kernel_rfl⟩
instance cb_70:CB Tryz.prog 70:=⟨by kernel_rfl⟩
instance cb_74:CB Tryz.prog 74:=⟨by kernel_rfl⟩
instance cb_75:CB Tryz.prog 75:=⟨by kernel_rfl⟩
instance ct_3:CT Tryz.prog 3:=⟨by kernel_rfl⟩
instance ct_33:CT Tryz.prog 33:=⟨by kernel_rfl⟩
instance ct_4:CT Tryz.prog 4:=⟨by kernel_rfl⟩
instance ct_56:CT Tryz.prog 56:=⟨by kernel_rfl⟩
instance ct_85:CT Tryz.prog 85:=⟨by kernel_rfl⟩
instance ct_9:CT Tryz.prog 9:=⟨by kernel_rfl⟩
instance zOI:FT Tryz.prog 173 0 0 1:=⟨by kernel_rfl⟩
instance zOJ:FT Tryz.prog 173 1 1 4:=⟨by kernel_rfl⟩
instance zLq:FT Tryz.prog 87 0 0 1:=⟨by kernel_rfl⟩
instance zLr:FT Tryz.prog 87 1 1 1:=⟨by kernel_rfl⟩
instance zLs:FT Tryz.prog 87 2 2 1:=⟨by kernel_rfl⟩
instance zLt:FT Tryz.prog 87 3 3 1:=⟨by kernel_rfl⟩
instance zVX:FT Tryz.prog 95 0 0 1:=⟨by kernel_rfl⟩
instance zVY:FT Tryz.prog 95 1 1 1:=⟨by kernel_rfl⟩
instance in_3:INT Tryz.prog 3 .i64:=⟨by kernel_rfl⟩
instance in_33:INT Tryz.prog 33 .u64:=⟨by kernel_rfl⟩
instance in_5:INT Tryz.prog 5 .u8:=⟨by kernel_rfl⟩
instance mx:MX Tryz.prog:=⟨mixed⟩
instance pl_173:PLT Tryz.prog 173 [(0,1),(1,4)]:=⟨_,Tryz.underlying173,by kernel_rfl⟩
instance pl_87:PLT Tryz.prog 87 [(0,1),(1,1),(2,1),(3,1)]:=⟨_,Tryz.underlying87,by kernel_rfl⟩
instance pl_95:PLT Tryz.prog 95 [(0,1),(1,1)]:=⟨_,Tryz.underlying95,by kernel_rfl⟩
instance sl_56:SLT Tryz.prog 56 173 5:=⟨by kernel_rfl⟩
instance sl_85:SLT Tryz.prog 85 5 1:=⟨by kernel_rfl⟩
instance st_9:STT Tryz.prog 9:=⟨by kernel_rfl⟩
instance sz_3:SZ Tryz.prog 3 1:=⟨by kernel_rfl⟩
instance sz_33:SZ Tryz.prog 33 1:=⟨by kernel_rfl⟩
instance sz_56:SZ Tryz.prog 56 1:=⟨by kernel_rfl⟩
instance sz_87:SZ Tryz.prog 87 4:=⟨by kernel_rfl⟩
instance un_4:UN Tryz.prog 4 .bool:=⟨Tryz.underlying4⟩
instance zt_173:ZT Tryz.prog 173 (.agg #[(.string ⟨#[]⟩),(.bool false),(Sl.val ⟨none,0,0⟩),(.int .i64 0),(.int .u64 0)]):=⟨Tryz.t173,by kernel_rfl,by kernel_rfl⟩
instance zt_5:ZT Tryz.prog 5 (.int .u8 0):=⟨Tryz.t5,by kernel_rfl,by kernel_rfl⟩
instance zt_87:ZT Tryz.prog 87 (.agg #[(.bool false),(Sl.val ⟨none,0,0⟩),(.int .i64 0),(.int .u64 0)]):=⟨Tryz.t87,by kernel_rfl,by kernel_rfl⟩
instance zt_95:ZT Tryz.prog 95 (.agg #[(.int .i64 0),(Sl.val ⟨none,0,0⟩)]):=⟨Tryz.t95,by kernel_rfl,by kernel_rfl⟩
end F_IRRef06
def zQc (regions0:Int) (Q:(Option Addr)→K):K :=
 New 95 #[(.int .i64 regions0),(Sl.val ⟨none,0,0⟩)] fun t5 =>
 Q (some t5)
def zCM.b1 (Q:(Array Value)→K)  (X1:Int→K) (s0_1:(Option Addr)) (key1_1:ByteArray) (t4_1:Addr) (i5_1:Int):K :=
 Nn s0_1 fun t8 =>
 Ld (t8.add 1) Sl.val fun t10 =>
 Ite (decide (i5_1 < (t10.n:Int)))
  (Ld (t8.add 1) Sl.val fun t18 =>
  Idx t18 i5_1 5 fun t20 =>
  Ld t20 Value.string fun t22 =>
  Ite (t22.toList == key1_1.toList)
   (Ld (t8.add 1) Sl.val fun t28 =>
   Idx t28 i5_1 5 fun t30 =>
   LdN (t30.add 1) 4 fun t32 =>
   StN t4_1 4 t32 <|
   LdN t4_1 4 fun r0 =>
   Q r0)
   (Ar (IntKind.wrap .i64 (i5_1 + 1)) fun t14 =>
   X1 t14))
  (Ld t8 (Value.int .i64) fun t37 =>
  zE5.call key1_1 t37 fun t38 =>
  StN t4_1 4 #[(.bool false),(Sl.val ⟨none,0,0⟩),(.int .i64 t38),(.int .u64 0)] <|
  LdN t4_1 4 fun r0 =>
  Q r0)
def zCM (s0:(Option Addr)) (key1:ByteArray) (Q:(Array Value)→K):K :=
 New 87 #[(.bool false),(Sl.val ⟨none,0,0⟩),(.int .i64 0),(.int .u64 0)] fun t4 =>
 LoopK (α:=Int) (fun X x=>zCM.b1 Q X s0 key1 t4 x) 0
def zEl.s2 (Q:Bool→K) (X1:Int→K) (a0_2:Sl) (b1_2:Sl) (i5_2:Int) (t41_2:Bool):K :=
 Ite t41_2
  (Q false)
  (Ar (IntKind.wrap .i64 (i5_2 + 1)) fun t16 =>
  X1 t16)
def zEl.b1 (Q:Bool→K)  (X1:Int→K) (a0_1:Sl) (b1_1:Sl) (i5_1:Int):K :=
 Ite (decide (i5_1 < (a0_1.n:Int)))
  (Dr <|
  Idx a0_1 i5_1 5 fun t19 =>
  Idx b1_1 i5_1 5 fun t24 =>
  Ld t19 Value.string fun t21 =>
  Ld t24 Value.string fun t26 =>
  Ite (!(t21.toList == t26.toList))
   (zEl.s2 Q X1 a0_1 b1_1 i5_1 true)
   (Idx a0_1 i5_1 5 fun t31 =>
   Idx b1_1 i5_1 5 fun t36 =>
   LdN (t31.add 1) 4 fun t33 =>
   LdN (t36.add 1) 4 fun t38 =>
   zC2.call t33 t38 fun t39 =>
   zEl.s2 Q X1 a0_1 b1_1 i5_1 (!t39)))
  (Q true)
def zEl (a0:Sl) (b1:Sl) (Q:Bool→K):K :=
 Ite (decide ((a0.n:Int) ≠ (b1.n:Int)))
  (Q false)
  (LoopK (α:=Int) (fun X x=>zEl.b1 Q X a0 b1 x) 0)
def zE5.b1 (Q:Int→K)  (X1:Int→Int→K) (key0_1:ByteArray) (regions1_1:Int) (sum5_1:Int) (i6_1:Int):K :=
 Ite (decide (i6_1 < (key0_1.size:Int)))
  (IdxS key0_1 i6_1 fun t18 =>
  Ar (IntKind.wrap .u64 t18) fun t19 =>
  Ar (IntKind.wrap .u64 (sum5_1 + t19)) fun t20 =>
  Ar (IntKind.wrap .i64 (i6_1 + 1)) fun t14 =>
  X1 t20 t14)
  (Ar (IntKind.wrap .u64 regions1_1) fun t23 =>
  Cd (t23 ≠ 0) <|
  Ar (Int.tmod sum5_1 t23) fun t24 =>
  Ar (IntKind.wrap .i64 t24) fun t25 =>
  Q t25)
def zE5 (key0:ByteArray) (regions1:Int) (Q:Int→K):K :=
 Ite (decide (regions1 < 1))
  (Q 0)
  (LoopK (α:=Int×Int) (fun X x=>zE5.b1 Q (fun sum5_1 i6_1=>X (sum5_1,i6_1)) key0 regions1 x.1 x.2) (0,0))
def zGd (s0:(Option Addr)) (Q:(Option Addr)→K):K :=
 Dr <| WithS fun S =>
 Nn s0 fun t4 =>
 LdS S t4 (Value.int .i64) fun t6 =>
 LdS S (t4.add 1) Sl.val fun t11 =>
 New 173 #[] fun t7 =>
 Sv S <|
 Do Tryz.prog (Builtin.append_ #[56,56] 56 #[(Sl.val (Sl.mk (some t7) 0 0)),(Sl.val t11)]) Sl.val fun t12 =>
 Sv S <|
 New 95 #[(.int .i64 t6),(Sl.val t12)] fun t14 =>
 Q (some t14)
def zDm.s1 (Q:Int→K)  (s0_1:(Option Addr)) (key1_1:ByteArray) (home2_1:Int) (t17_1:Bool):K :=
 Ite t17_1
  (Q 1)
  (zCM.call s0_1 key1_1 fun t20 =>
  New 87 #[(.bool false),(Sl.val ⟨none,0,0⟩),(.int .i64 0),(.int .u64 0)] fun r7 =>
  StN r7 4 t20 <|
  Ld (r7.add 3) (Value.int .u64) fun t22 =>
  Ite (decide (t22 = 18446744073709551615))
   (Q 111)
   (St (r7.add 2) (.int .i64 home2_1) <|
   Ld (r7.add 3) (Value.int .u64) fun t27 =>
   Ar (IntKind.wrap .u64 (t27 + 1)) fun t28 =>
   St (r7.add 3) (.int .u64 t28) <|
   LdN r7 4 fun t32 =>
   zAu.call s0_1 key1_1 t32 <|
   Q 0))
def zDm (s0:(Option Addr)) (key1:ByteArray) (home2:Int) (Q:Int→K):K :=
 Ite (decide (home2 < 0))
  (zDm.s1 Q s0 key1 home2 true)
  (Nn s0 fun t13 =>
  Ld t13 (Value.int .i64) fun t15 =>
  zDm.s1 Q (some t13) key1 home2 (decide (t15 ≤ home2)))
def zAu.s3 (Q:K) (X2:Sl→Bool→Int→K) (s0_3:Addr) (key1_3:ByteArray) (r5_3:Addr) (out6_3:Sl) (keep7_3:Bool) (i8_3:Int):K :=
 Ar (IntKind.wrap .i64 (i8_3 + 1)) fun t25 =>
 X2 out6_3 keep7_3 t25
def zAu.s4 (Q:K) (X2:Sl→Bool→Int→K) (s0_4:Addr) (key1_4:ByteArray) (r5_4:Addr) (out6_4:Sl) (keep7_4:Bool) (i8_4:Int):K :=
 Ld (s0_4.add 1) Sl.val fun t48 =>
 Idx t48 i8_4 5 fun t50 =>
 Ld t50 Value.string fun t52 =>
 Ite (!(t52.toList == key1_4.toList))
  (Ld (s0_4.add 1) Sl.val fun t59 =>
  Idx t59 i8_4 5 fun t61 =>
  LdN t61 5 fun t62 =>
  Bld #[(.string ⟨#[]⟩),(.bool false),(Sl.val ⟨none,0,0⟩),(.int .i64 0),(.int .u64 0)] (fun i=>some (i * 5,5)) [(0,(.agg t62))] fun ct63 =>
  New 173 ct63 fun t63 =>
  Do Tryz.prog (Builtin.append_ #[56,56] 56 #[(Sl.val out6_4),(Sl.val (Sl.mk (some t63) 1 1))]) Sl.val fun t64 =>
  zAu.s3 Q X2 s0_4 key1_4 r5_4 t64 keep7_4 i8_4)
  (zAu.s3 Q X2 s0_4 key1_4 r5_4 out6_4 keep7_4 i8_4)
def zAu.s5 (Q:K) (X2:Sl→Bool→Int→K) (s0_5:Addr) (key1_5:ByteArray) (r5_5:Addr) (out6_5:Sl) (keep7_5:Bool) (i8_5:Int) (t38_5:Bool):K :=
 Ite t38_5
  (LdN r5_5 4 fun t41 =>
  Bld #[(.string ⟨#[]⟩),(.bool false),(Sl.val ⟨none,0,0⟩),(.int .i64 0),(.int .u64 0)] ([(0,1),(1,4)][·]?) [(0,(.string key1_5)),(1,(.agg t41))] fun t42 =>
  Bld #[(.string ⟨#[]⟩),(.bool false),(Sl.val ⟨none,0,0⟩),(.int .i64 0),(.int .u64 0)] (fun i=>some (i * 5,5)) [(0,(.agg t42))] fun ct43 =>
  New 173 ct43 fun t43 =>
  Do Tryz.prog (Builtin.append_ #[56,56] 56 #[(Sl.val out6_5),(Sl.val (Sl.mk (some t43) 1 1))]) Sl.val fun t44 =>
  zAu.s4 Q X2 s0_5 key1_5 r5_5 t44 false i8_5)
  (zAu.s4 Q X2 s0_5 key1_5 r5_5 out6_5 keep7_5 i8_5)
def zAu.s6 (Q:K) (X2:Sl→Bool→Int→K) (s0_6:Addr) (out6_6:Sl):K :=
 St (s0_6.add 1) (Sl.val out6_6) <|
 Q
def zAu.b2 (Q:K)  (X2:Sl→Bool→Int→K) (s0_2:(Option Addr)) (key1_2:ByteArray) (r5_2:Addr) (out6_2:Sl) (keep7_2:Bool) (i8_2:Int):K :=
 Nn s0_2 fun t19 =>
 Ld (t19.add 1) Sl.val fun t21 =>
 Ite (decide (i8_2 < (t21.n:Int)))
  (Ite keep7_2
   (Ld (t19.add 1) Sl.val fun t31 =>
   Idx t31 i8_2 5 fun t33 =>
   Ld t33 Value.string fun t35 =>
   zAu.s5 Q X2 t19 key1_2 r5_2 out6_2 true i8_2 (!(Op.bytesLess t35.toList key1_2.toList || t35.toList == key1_2.toList)))
   (zAu.s5 Q X2 t19 key1_2 r5_2 out6_2 false i8_2 false))
  (Ite keep7_2
   (LdN r5_2 4 fun t68 =>
   Bld #[(.string ⟨#[]⟩),(.bool false),(Sl.val ⟨none,0,0⟩),(.int .i64 0),(.int .u64 0)] ([(0,1),(1,4)][·]?) [(0,(.string key1_2)),(1,(.agg t68))] fun t69 =>
   Bld #[(.string ⟨#[]⟩),(.bool false),(Sl.val ⟨none,0,0⟩),(.int .i64 0),(.int .u64 0)] (fun i=>some (i * 5,5)) [(0,(.agg t69))] fun ct70 =>
   New 173 ct70 fun t70 =>
   Do Tryz.prog (Builtin.append_ #[56,56] 56 #[(Sl.val out6_2),(Sl.val (Sl.mk (some t70) 1 1))]) Sl.val fun t71 =>
   zAu.s6 Q X2 t19 t71)
   (zAu.s6 Q X2 t19 out6_2))
def zAu.s1 (Q:K)  (s0_1:(Option Addr)) (key1_1:ByteArray) (r5_1:Addr) (out6_1:Sl) (keep7_1:Bool):K :=
 LoopK (α:=Sl×Bool×Int) (fun X x=>zAu.b2 Q (fun out6_2 keep7_2 i8_2=>X (out6_2,keep7_2,i8_2)) s0_1 key1_1 r5_1 x.1 x.2.1 x.2.2) (out6_1,keep7_1,0)
def zAu (s0:(Option Addr)) (key1:ByteArray) (r2:(Array Value)) (Q:K):K :=
 New 87 r2 fun r5 =>
 Dr <| WithS fun S =>
 LdS S r5 Value.bool fun t11 =>
 Ite t11
  (New 173 #[] fun t9 =>
  Sv S <|
  zAu.s1 Q s0 key1 r5 (Sl.mk (some t9) 0 0) true)
  (LdS S (r5.add 3) (Value.int .u64) fun t14 =>
  New 173 #[] fun t9 =>
  Sv S <|
  zAu.s1 Q s0 key1 r5 (Sl.mk (some t9) 0 0) (decide ((0:Int) < t14)))
def zC2.s1 (Q:Bool→K)  (t4_1:Bool):K :=
 Q t4_1
def zC2 (a0:(Array Value)) (b1:(Array Value)) (Q:Bool→K):K :=
 New 87 a0 fun a2 =>
 New 87 b1 fun b3 =>
 Ld a2 Value.bool fun t6 =>
 Ld b3 Value.bool fun t8 =>
 Ite (t6 == t8)
  (Ld (a2.add 1) Sl.val fun t12 =>
  Rd Tryz.prog (convert 85 9 (Sl.val t12)) Value.string fun t13 =>
  Ld (b3.add 1) Sl.val fun t15 =>
  Rd Tryz.prog (convert 85 9 (Sl.val t15)) Value.string fun t16 =>
  Ite (t13.toList == t16.toList)
   (Ld (a2.add 2) (Value.int .i64) fun t21 =>
   Ld (b3.add 2) (Value.int .i64) fun t23 =>
   Ite (decide (t21 = t23))
    (Ld (a2.add 3) (Value.int .u64) fun t28 =>
    Ld (b3.add 3) (Value.int .u64) fun t30 =>
    zC2.s1 Q (decide (t28 = t30)))
    (zC2.s1 Q false))
   (zC2.s1 Q false))
  (zC2.s1 Q false)
def zFZ (s0:(Option Addr)) (key1:ByteArray) (value2:Sl) (Q:K):K :=
 zCM.call s0 key1 fun t9 =>
 New 87 #[(.bool false),(Sl.val ⟨none,0,0⟩),(.int .i64 0),(.int .u64 0)] fun r6 =>
 StN r6 4 t9 <|
 Dr <| WithS fun S =>
 LdS S (r6.add 2) (Value.int .i64) fun t16 =>
 LdS S (r6.add 3) (Value.int .u64) fun t18 =>
 New 5 #[] fun t12 =>
 Sv S <|
 Do Tryz.prog (Builtin.append_ #[85,85] 85 #[(Sl.val (Sl.mk (some t12) 0 0)),(Sl.val value2)]) Sl.val fun t14 =>
 Sv S <|
 zAu.call s0 key1 #[(.bool true),(Sl.val t14),(.int .i64 t16),(.int .u64 t18)] <|
 Q
def zF8 (s0:(Option Addr)) (key1:ByteArray) (Q:K):K :=
 zCM.call s0 key1 fun t7 =>
 New 87 #[(.bool false),(Sl.val ⟨none,0,0⟩),(.int .i64 0),(.int .u64 0)] fun r4 =>
 StN r4 4 t7 <|
 Ld (r4.add 2) (Value.int .i64) fun t11 =>
 Ld (r4.add 3) (Value.int .u64) fun t13 =>
 zAu.call s0 key1 #[(.bool false),(Sl.val ⟨none,0,0⟩),(.int .i64 t11),(.int .u64 t13)] <|
 Q
end Go.Proofs.YtdemfamgieonbaaGreat
namespace Go.Proofs.YtdemfamgieonbaaGreat
open Go Go.Sep Go.Sep.Bt
set_option maxRecDepth 100000
abbrev rowF6 (x:RecX):List Value:=[.string x.1,.bool x.2.1.has,x.2.2.val,.int .i64 x.2.1.home,.int .u64 x.2.1.cnt]
abbrev Pool:=List (Sl×List UInt8)
abbrev poolR (P:Pool):HProp:=Sep.stars (P.map fun p=>Bytes zAd p.1 p.2)
def inP (P:Pool) (s:Sl) (xs:List UInt8):Prop:=(xs = []∧s.n = 0)∨(s,xs) ∈ P
theorem inP.mono {P P':Pool} {s:Sl} {xs:List UInt8} (h:inP P s xs) (hP:∀ x ∈ P,x ∈ P'):inP P' s xs:=h.imp id (hP _)
theorem zSg {w:World} {s:Sl} (h:s.n = 0):RdB w s []:=⟨by simp [h],fun _=>h,fun a _ i hi=>by simp at hi⟩
theorem zQJ {B w:World} {Γ:List HProp} {α:Type} {F:α→HProp} {l:List α} {x:α} (hx:x ∈ l) (h:Holds B (Sep.stars (l.map F)::Γ) w):∃ Δ,Holds B (F x::Δ) w:=by
 obtain ⟨A,C,rfl⟩:=List.append_of_mem hx
 exact ⟨_,((Holds.flat.1 h).perm zGZ).perm List.perm_middle⟩
theorem inP.rd {B w:World} {Γ:List HProp} {P:Pool} {s:Sl} {xs:List UInt8} (h:inP P s xs) (hw:Holds B (poolR P::Γ) w):RdB w s xs:=by
 rcases h with ⟨rfl,h⟩ | h
 ·exact zSg h
 ·obtain ⟨Δ,h2⟩:=zQJ h hw
  exact h2.rdC List.mem_cons_self
structure R6 (n:Nat) (M:Recs) (P:Pool) (X:List RecX):Prop where
 mod:M = X.map recM
 ok:∀ x ∈ X,x.2.1.ok∧inP P x.2.2 x.2.1.val
 n1:1 ≤ n
 n3:n ≤ 3
 srt:Srt cmpS M
abbrev ref6L (st n:Nat) (rs:Sl) (X:List RecX) (Γ:List HProp):List HProp:=blk st (.cells [.int .i64 n,rs.val].toArray zH4 (0,0))::SlC zC0 5 rs (X.flatMap rowF6)::Γ
def Ref6 (st n:Nat) (M:Recs) (P:Pool):HProp:=ex fun rs=>ex fun X:List RecX=>Sep.stars (pur (R6 n M P X)::ref6L st n rs X [])
section
variable {B:World} {Γ Δ:List HProp} {k:K} {st n:Nat} {M:Recs} {P:Pool}
instance (priority:=high) zVG:Sep.Own st (Ref6 st n M P::Γ) (Ref6 st n M P) Γ:=⟨.refl _⟩
end
end Go.Proofs.YtdemfamgieonbaaGreat
namespace Go.Proofs.YtdemfamgieonbaaGreat
open Go Go.Sep Go.Sep.Bt
set_option maxRecDepth 100000
section
variable {B:World} {Γ Δ:List HProp}
end
end Go.Proofs.YtdemfamgieonbaaGreat
namespace Go.Proofs.YtdemfamgieonbaaGreat
open Go Go.Sep Go.Sep.Bt
set_option maxRecDepth 100000
section
variable {B:World} {Γ Δ:List HProp} {k:K} {st sd n:Nat} {M:Recs} {P:Pool}
end
end Go.Proofs.YtdemfamgieonbaaGreat
namespace Go.Proofs.YtdemfamgieonbaaGreat
open Go Go.Sep Go.RowKit
end Go.Proofs.YtdemfamgieonbaaGreat
namespace Go.Proofs.YtdemfamgieonbaaGreat
open Go Go.Sep Go.RowKit
theorem flatMap1 {α β:Type} (f:α→β) (L:List α):L.flatMap (fun x=>[f x]) = L.map f:=by induction L <;> simp_all
theorem rdy_op {w:World} {cs:List Value} (hc:cs.length = 4) (y:Rdy w (.fld 0 1 (.int .i64) (.fld 1 1 .str (.fld 2 1 (.sl (.int .u8) 1) (.fld 3 1 (.int .i64) .nil)))) cs) :
  ∃ x:OpX,cs = opF x∧RdB w x.2 x.1.val∧-9223372036854775808 ≤ x.1.n∧x.1.n ≤ 9223372036854775807:=by
 match cs,hc with
 | [a,b,c,d],_ =>
  obtain ⟨⟨x0,e0,_⟩,⟨x1,e1,_⟩,⟨s,e2,_,_,h1,h2⟩,⟨x3,e3,w3⟩,_⟩:=y
  cases e0; cases e1; cases e2; cases e3
  simp [Lit.wf,IntKind.min,IntKind.max,IntKind.signed,IntKind.bits] at w3
  obtain ⟨xs,_,h3⟩:=zRk h1 h2
  obtain ⟨l,rfl⟩:=bs_of x1
  exact ⟨(⟨x0,l,xs,x3⟩,s),rfl,h3,by simp only; omega⟩
theorem zJI {w:World} {s:Sl} (h1:s.a = none→s.n = 0∧s.c = 0) (h2:∀ a i,s.a = some a→i < s.n→∃ cs',cs'.length = 1∧(∀ j,j < 1→w.cell? (a.add (i * 1 + j)) = cs'[j]?)∧Rdy w .str cs'):∃ L:List (List UInt8),RdC w s 1 (L.map strV):=by
 obtain ⟨L,_,hL,_⟩:=zJM (fun x:List UInt8=>[strV x]) (fun _=>True) (fun _=>rfl) h1 h2 fun cs hc hr=>by
  obtain ⟨b,rfl,_⟩:=hr
  obtain ⟨x,rfl⟩:=bs_of b
  exact ⟨x,rfl,trivial⟩
 exact ⟨L,by rw [flatMap1] at hL; exact hL⟩
theorem zTt {w:World} {cs:Array Value} (hc:cs.size = 5) (y:Rdy w zM9 (Value.agg cs).cells.toList):∃ t:TxX,cs = (txL t).toArray∧txRd w t∧∀ x ∈ t.ops,-9223372036854775808 ≤ x.1.n∧x.1.n ≤ 9223372036854775807:=by
 obtain ⟨l⟩:=cs
 match l,hc with
 | [a,b,c,d,e],_ =>
  obtain ⟨⟨x0,e0,_⟩,⟨rs,e1,_,_,r1,r2⟩,⟨ws,e2,_,_,w1,w2⟩,⟨os,e3,_,_,o1,o2⟩,⟨x4,e4,_⟩,_⟩:=y
  cases e0; cases e1; cases e2; cases e3; cases e4
  obtain ⟨R,hR⟩:=zJI r1 r2
  obtain ⟨S,hS⟩:=zJI w1 w2
  obtain ⟨O,_,hO,hd⟩:=zJM opF (fun x=>RdB w x.2 x.1.val∧-9223372036854775808 ≤ x.1.n∧x.1.n ≤ 9223372036854775807) zC4 o1 o2 fun cs hc hr=>rdy_op hc hr
  exact ⟨⟨x0,R,S,O,x4,rs,ws,os⟩,rfl,⟨hR,hS,hO,fun x hx=>(hd x hx).1⟩,fun x hx=>(hd x hx).2⟩
theorem zOO {B w:World} {Γ:List HProp} {t:TxX} (h:txRd B t) (hw:Holds B Γ w):txRd w t:=⟨h.1.old hw,h.2.1.old hw,h.2.2.1.old hw,fun x hx=>(h.2.2.2 x hx).old hw⟩
end Go.Proofs.YtdemfamgieonbaaGreat
namespace Go.Proofs.YtdemfamgieonbaaGreat
open Go Go.Sep Go.Sep.Bt
set_option maxRecDepth 100000
abbrev StayW (n:Nat) (M:Recs) (ks:List (List UInt8)) (W:WM):Prop:=∀ p ∈ W,p.1 ∈ ks∧p.2.home = (sGet n M (bs p.1)).home∧p.2.cnt = (sGet n M (bs p.1)).cnt
theorem StayW.now {n:Nat} {M:Recs} {ks:List (List UInt8)} {W:WM} (h:StayW n M ks W) (k:List UInt8):(nowM n M W k).home = (sGet n M (bs k)).home∧(nowM n M W k).cnt = (sGet n M (bs k)).cnt:=by
 unfold nowM
 cases hm:mget k W with
 | none=>exact ⟨rfl,rfl⟩
 | some r=>exact (h _ (zF6 hm)).2
theorem zPg {ν:Type} {W:List (List UInt8×ν)} {k:List UInt8} {v:ν} {p:List UInt8×ν} (h:p ∈ mset k v W):p = (k,v)∨p ∈ W:=by
 rcases mfind k W with ⟨_,h2,_,_⟩ | ⟨j,x,hj,h0,_,_,h2,_⟩
 ·rw [h2] at h
  rcases List.mem_append.1 h with h | h
  ·exact .inr h
  ·exact .inl (List.mem_singleton.1 h)
 ·rw [h2] at h
  rcases List.mem_or_eq_of_mem_set h with h | h
  ·exact .inr h
  ·exact .inl h
theorem StayW.set {n:Nat} {M:Recs} {ks:List (List UInt8)} {W:WM} (h:StayW n M ks W) {k:List UInt8} (hk:k ∈ ks) (has:Bool) (val:List UInt8):StayW n M ks (setW n M W k has val):=fun p hp=>by
 rcases zPg hp with rfl | hp
 ·exact ⟨hk,(h.now k).1,(h.now k).2⟩
 ·exact h p hp
theorem zSh {n:Nat} {M:Recs} {W:WM} {k:List UInt8} {d:Int}:(addW n M W k d).2 = 0∨(addW n M W k d).2 = 110∨(addW n M W k d).2 = 111:=by
 unfold addW
 repeat' split
 all_goals simp
theorem zRF {n:Nat} {M:Recs} {W:WM} {O:OM} {o:OpM}:(stepW n M W O o).2.2 = 0∨(stepW n M W O o).2.2 = 110∨(stepW n M W O o).2.2 = 111:=by
 unfold stepW
 repeat' split
 all_goals first | exact zSh | simp
theorem zJJ {t:TxX} {o:OpM} (h:opRight t o = true) (hk:o.kind = 2∨o.kind = 3∨o.kind = 6):o.key ∈ t.writes:=by
 by_cases hw:o.key ∈ t.writes
 ·exact hw
 ·exfalso
  unfold opRight at h
  split at h
  ·cases h
  split at h
  ·omega
  split at h
  ·cases h
  ·rename_i h3
   exact h3 ⟨hw,.inr hk⟩
theorem zSi {n:Nat} {M:Recs} {ks:List (List UInt8)} {W:WM} {k:List UInt8} {d:Int} (h:StayW n M ks W) (hk:k ∈ ks):StayW n M ks (addW n M W k d).1:=by
 unfold addW
 by_cases h1:(nowM n M W k).has = true∧(nowM n M W k).val.length ≠ 8
 ·rw [if_pos h1]; exact h
 rw [if_neg h1]
 generalize (if (nowM n M W k).has then numOf (nowM n M W k).val else 0) = a
 cases overS a d
 ·rw [if_neg (by simp)]; exact h.set hk _ _
 ·rw [if_pos rfl]; exact h
theorem zMs {n:Nat} {M:Recs} {t:TxX} {W:WM} {O:OM} {o:OpM} (h:StayW n M t.writes W) (ho:opRight t o = true):StayW n M t.writes (stepW n M W O o).1:=by
 unfold stepW
 split
 ·exact h
 split
 ·exact h
 split
 ·exact h.set (zJJ ho (.inl (by assumption))) _ _
 split
 ·exact h.set (zJJ ho (.inr (.inl (by assumption)))) _ _
 split
 ·exact h
 split
 ·exact h
 split
 ·exact zSi h (zJJ ho (.inr (.inr (by assumption))))
 ·exact h
abbrev isOut (x:OpX):Bool:=decide (x.1.kind = 1∨x.1.kind = 7)
theorem zRG {n:Nat} {M:Recs} {W:WM} {O:OM} {x:OpX}:(stepW n M W O x.1).2.1.length = O.length + if isOut x then 1 else 0:=by
 unfold stepW isOut
 by_cases h1:x.1.kind = 1
 ·simp [h1]
 by_cases h7:x.1.kind = 7
 ·simp [h7]
 rw [if_neg h1,if_neg h7]
 repeat' split
 all_goals first | (simp only [h1,h7,or_self,decide_false,Bool.false_eq_true,if_false]; done) | (simp [h1,h7] at *)
theorem zPh {n:Nat} {M:Recs} {t:TxX}:∀ {xs:List OpX} {W:WM} {O:OM},(∀ x ∈ xs,opRight t x.1 = true)→StayW n M t.writes W →
  ((opsW n M xs W O).2.2 = 0∨(opsW n M xs W O).2.2 = 110∨(opsW n M xs W O).2.2 = 111)∧StayW n M t.writes (opsW n M xs W O).1∧((opsW n M xs W O).2.2 = 0→(opsW n M xs W O).2.1.length = O.length + (xs.filter isOut).length)
 | [],W,O,_,h=>⟨.inl rfl,h,fun _=>by simp [zOL]⟩
 | x::xs,W,O,hr,h=>by
  have hx:=hr x List.mem_cons_self
  rw [zGC]
  split
  ·rename_i h0
   exact ⟨zRF,zMs h hx,fun h1=>absurd h1 h0⟩
  ·have ih:=zPh (n:=n) (M:=M) (t:=t) (xs:=xs) (W:=(stepW n M W O x.1).1) (O:=(stepW n M W O x.1).2.1) (fun y hy=>hr y (List.mem_cons_of_mem _ hy)) (zMs h hx)
   refine ⟨ih.1,ih.2.1,fun h1=>?_⟩
   rw [ih.2.2 h1,zRG,List.filter_cons]
   split <;> simp <;> omega
abbrev RowOk (n:Nat) (M:Recs) (t:TxX) (p:List UInt8×Rec):Prop:=p.1 ∈ t.writes∧(if t.kind = 2 then p.2.home = t.to∧p.2.cnt = (sGet n M (bs p.1)).cnt + 1 else p.2.home = (sGet n M (bs p.1)).home∧p.2.cnt = (sGet n M (bs p.1)).cnt)
theorem zIP {n:Int} {t:TxX} (h:rightT n t = true) (hk:t.kind = 2):t.ops = []∧∃ k,t.writes = [k]:=by
 unfold rightT at h
 split at h
 ·cases h
 split at h
 ·cases h
 simp only [Bool.and_eq_true,decide_eq_true_eq] at h
 refine ⟨List.length_eq_zero_iff.1 h.2.1,?_⟩
 obtain ⟨k,hk⟩:=List.length_eq_one_iff.1 h.2.2.1
 exact ⟨k,hk⟩
theorem zMt {n:Int} {t:TxX} (h:rightT n t = true) (hk:t.kind ≠ 2):∀ x ∈ t.ops,opRight t x.1 = true:=by
 unfold rightT at h
 split at h
 ·cases h
 split at h
 ·cases h
 split at h
 ·cases h
 ·exact List.all_eq_true.1 h
theorem zTu {n:Nat} {M:Recs} {t:TxX} {g:Int} (h:rightT g t = true) :
  ((runW n M t).2.2 = 0∨(runW n M t).2.2 = 110∨(runW n M t).2.2 = 111)∧((runW n M t).2.2 = 0→(∀ p ∈ (runW n M t).1,RowOk n M t p)∧(runW n M t).2.1.length = (t.ops.filter isOut).length):=by
 unfold runW
 split
 ·rename_i hk
  obtain ⟨ho,k,hw⟩:=zIP h hk
  rw [hw,zGL,ho]
  split
  ·exact ⟨.inr (.inr rfl),fun h1=>by simp at h1⟩
  ·rw [zMm]
   refine ⟨.inl rfl,fun _=>⟨fun p hp=>?_,rfl⟩⟩
   have hn:nowM n M [] k = sGet n M (bs k):=rfl
   rcases zPg hp with rfl | hp
   ·refine ⟨by rw [hw]; simp,?_⟩
    rw [if_pos hk,hn]
    exact ⟨rfl,rfl⟩
   ·cases hp
 ·rename_i hk
  obtain ⟨h1,h2,h3⟩:=zPh (n:=n) (M:=M) (t:=t) (xs:=t.ops) (W:=[]) (O:=[]) (zMt h hk) (by simp)
  refine ⟨h1,fun h0=>⟨fun p hp=>?_,by rw [h3 h0]; simp⟩⟩
  refine ⟨(h2 p hp).1,?_⟩
  rw [if_neg hk]
  exact (h2 p hp).2
section
variable {B:World} {Γ Δ:List HProp} {st:Nat} {M:Recs} {q:Bool→K}
end
end Go.Proofs.YtdemfamgieonbaaGreat
namespace Go.Proofs.YtdemfamgieonbaaGreat
open Go Go.Sep Go.RowKit
end Go.Proofs.YtdemfamgieonbaaGreat
namespace Go.Proofs.YtdemfamgieonbaaGreat
open Go Go.Sep Go.Sep.Bt
set_option maxRecDepth 100000
theorem zOP {n:Nat} {M:Recs}:∀ {xs ys:List OpX} {W:WM} {O:OM},xs.map Prod.fst = ys.map Prod.fst→opsW n M xs W O = opsW n M ys W O
 | [],[],_,_,_=>rfl
 | [],y::ys,_,_,h=>by cases h
 | x::xs,[],_,_,h=>by cases h
 | x::xs,y::ys,W,O,h=>by
  simp only [List.map_cons,List.cons.injEq] at h
  rw [zGC,zGC,h.1]
  split
  ·rfl
  ·exact zOP h.2
theorem zRH {n:Nat} {M:Recs} {a b:TxX} (h:SameP a b):runW n M a = runW n M b:=by
 obtain ⟨h1,h2,h3,h4,h5⟩:=h
 unfold runW
 rw [h1,h2,h4,zOP h5]
section
variable {B:World} {Γ Δ:List HProp} {st n:Nat} {M:Recs}
theorem zOQ {Q:Array Value→Sl→K} {t:TxX} (htx:txOk t) (ht:∀ w,Holds B Γ w→txRd w t)
  (h:∀ (e:Int) (os:Sl) (O:OX) (rows:Sl) (R:WX),e = (runW n M t).2.2→(e ≠ 0→O = []∧R = [])→(e = 0→O.map Prod.fst = (runW n M t).2.1∧modW R = sortW (runW n M t).1)→(∀ p ∈ R,p.2.1.ok)→HG B (SlC zAx 2 os (O.flatMap oF)::Sep.stars (O.map oB)::SlC zC0 5 rows (R.flatMap rowF)::Sep.stars (R.map wB)::StoreR st n M::Γ) (Q #[.int .i64 e,os.val] rows)) :
  HG B (StoreR st n M::Γ) (zBq.call (some ⟨st,0,none⟩) (txL t).toArray Q):=by
 refine zOn (t:=t) htx ht (fun hb=>?_) fun hz os O rows R hO hR hRok=>?_
 ·refine fun w hw=>?_
  have h1:Holds B (SlC zAx 2 ⟨none,0,0⟩ (([]:OX).flatMap oF)::Sep.stars (([]:OX).map oB)::SlC zC0 5 ⟨none,0,0⟩ (([]:WX).flatMap rowF)::Sep.stars (([]:WX).map wB)::_) w:=((hw.starsNil.nilSl zC0 5).starsNil).nilSl zAx 2
  exact h _ _ [] _ [] rfl (fun _=>⟨rfl,rfl⟩) (fun h0=>absurd h0 hb) (by simp) w h1
 ·exact h 0 os O rows R hz.symm (fun h0=>absurd rfl h0) (fun _=>⟨hO,hR⟩) hRok
theorem zRI {k:K} (h:(∀ x ∈ M,x.2.ok)→HG B (StoreR st n M::Γ) k):HG B (StoreR st n M::Γ) k:=zHR fun t X hM hok h1 h3=>by
 subst hM
 exact zD5 hok h1 h3 (h hok)
end
end Go.Proofs.YtdemfamgieonbaaGreat
namespace Go.Proofs.YtdemfamgieonbaaGreat
open Go Go.Sep
set_option maxRecDepth 100000
def numL (n:Nat):List UInt8:=if h:n < 128 then [u8 n] else u8 (n % 128 + 128)::numL (n / 128)
termination_by n
decreasing_by omega
theorem zIQ {n:Nat} (h:n < 128):numL n = [u8 n]:=by rw [numL,dif_pos h]
theorem zOR {n:Nat} (h:¬ n < 128):numL n = u8 (n % 128 + 128)::numL (n / 128):=by rw [numL,dif_neg h]
theorem zGj:∀ (k n:Nat),n < 128 ^ (k + 1)→(numL n).length ≤ k + 1
 | 0,n,h=>by rw [zIQ (by omega)]; simp
 | k + 1,n,h=>by
  by_cases hn:n < 128
  ·rw [zIQ hn]; simp
  ·rw [zOR hn]
   have:n / 128 < 128 ^ (k + 1):=Nat.div_lt_of_lt_mul (by rw [Nat.pow_succ] at h; omega)
   have:=zGj k _ this
   simp only [List.length_cons]; omega
theorem or128 (n:Nat):bitsOf .or .u8 (IntKind.wrap .u8 (n:Int)) 128 = ((u8 (n % 128 + 128)).toNat:Int):=by
 rw [wrapB]
 unfold bitsOf
 simp only
 have key:∀ x:BitVec 8,(x ||| 128#8).toNat = x.toNat % 128 + 128:=by decide
 have h2:(BitVec.ofInt (IntKind.bits .u8) ((u8 n).toNat:Int) ||| BitVec.ofInt (IntKind.bits .u8) 128).toNat = (BitVec.ofInt (IntKind.bits .u8) ((u8 n).toNat:Int)).toNat % 128 + 128:=key (BitVec.ofInt 8 ((u8 n).toNat:Int))
 have h3:(BitVec.ofInt (IntKind.bits .u8) ((u8 n).toNat:Int)).toNat = (u8 n).toNat:=by
  show (BitVec.ofInt 8 ((u8 n).toNat:Int)).toNat = _
  rw [BitVec.ofInt_natCast,BitVec.toNat_ofNat,Nat.mod_eq_of_lt (by have:=(u8 n).toNat_lt; omega)]
 rw [h2,h3,wrapB]
 simp only [u8N]
 omega
theorem shrU64 (n:Nat) (k:Nat) (hk:k < 64):shrOf .u64 (n:Int) (k:Int) = ((n / 2 ^ k:Nat):Int):=by
 unfold shrOf
 have:min ((k:Int).toNat) (IntKind.bits .u64) = k:=by simp [IntKind.bits]; omega
 rw [this,Int.fdiv_eq_ediv_of_nonneg _ (Int.le_of_lt (Int.pow_pos (by decide))),Int.natCast_ediv,Int.natCast_pow]
 rfl
end Go.Proofs.YtdemfamgieonbaaGreat
namespace Go.Proofs.YtdemfamgieonbaaGreat
open Go Go.Sep
set_option maxRecDepth 100000
set_option maxHeartbeats 4000000
attribute [local irreducible] G Gp Cx Tx Ex Sx Dx Ox Ax Lx Rx Fx Bx Bj Al Do Ld LdN St StN New CallF Ar DoU Rd Rd2 Pu Cd Ite Fv CallV CallY Ans0 Ans1 Ans2 Ans3 Ans4 Ans5 Ext Dead Dr WithS Sv LdS LdNS RdS Rd2S Nn Idx IdxA IdxS Fld Bld Slc SlcS Cat All LoopK RangeF RangeJ TakeD
namespace F_IRCode
instance cb_146:CB Tryz.prog 146:=⟨by kernel_rfl⟩
instance cb_150:CB Tryz.prog 150:=⟨by kernel_rfl⟩
instance ct_85:CT Tryz.prog 85:=⟨by kernel_rfl⟩
instance zVH:FT Tryz.prog 207 0 0 1:=⟨by kernel_rfl⟩
instance in_3:INT Tryz.prog 3 .i64:=⟨by kernel_rfl⟩
instance in_33:INT Tryz.prog 33 .u64:=⟨by kernel_rfl⟩
instance in_5:INT Tryz.prog 5 .u8:=⟨by kernel_rfl⟩
instance mx:MX Tryz.prog:=⟨mixed⟩
instance sl_85:SLT Tryz.prog 85 5 1:=⟨by kernel_rfl⟩
instance sz_85:SZ Tryz.prog 85 1:=⟨by kernel_rfl⟩
instance zt_5:ZT Tryz.prog 5 (.int .u8 0):=⟨Tryz.t5,by kernel_rfl,by kernel_rfl⟩
end F_IRCode
def zD0 (p0:(Option Addr)) (Q:Sl→K):K :=
 Nn p0 fun t4 =>
 Ld t4 Sl.val fun t6 =>
 zCh.call t6 fun t7 =>
 Q t7
theorem zKj (p0:(Option Addr)) (Q:Sl→K) (w:World) (h:zD0 p0 Q w):zD0.call p0 Q w:=by
 exact g_walk 8 h Tryz.func91
def zBY.b1 (Q:K)  (X1:Int→K) (p0_1:(Option Addr)) (n1_1:Int):K :=
 Ite (decide ((128:Int) ≤ n1_1))
  (Nn p0_1 fun t10 =>
  Ld t10 Sl.val fun t12 =>
  Ar (IntKind.wrap .u8 n1_1) fun t14 =>
  Ar (bitsOf .or .u8 t14 128) fun t15 =>
  New 5 #[(.int .u8 t15)] fun t16 =>
  Do Tryz.prog (Builtin.append_ #[85,85] 85 #[(Sl.val t12),(Sl.val (Sl.mk (some t16) 1 1))]) Sl.val fun t17 =>
  St t10 (Sl.val t17) <|
  Cd (0 ≤ (7:Int)) <|
  Ar (shrOf .u64 n1_1 7) fun t7 =>
  X1 t7)
  (Nn p0_1 fun t22 =>
  Ld t22 Sl.val fun t24 =>
  Ar (IntKind.wrap .u8 n1_1) fun t26 =>
  New 5 #[(.int .u8 t26)] fun t27 =>
  Do Tryz.prog (Builtin.append_ #[85,85] 85 #[(Sl.val t24),(Sl.val (Sl.mk (some t27) 1 1))]) Sl.val fun t28 =>
  St t22 (Sl.val t28) <|
  Q)
def zBY (p0:(Option Addr)) (n1:Int) (Q:K):K :=
 LoopK (α:=Int) (fun X x=>zBY.b1 Q X p0 x) n1
theorem zLP (p0:(Option Addr)) (n1:Int) (Q:K) (w:World) (h:zBY p0 n1 Q w):zBY.call p0 n1 Q w:=by
 have hL0:∀ (p0_1:(Option Addr)),LH 0 (fun x:Int=>[(0,(.pointer p0_1)),(1,(.int .u64 x))]) (fun X x=>zBY.b1 Q X p0_1 x):=by intros; exact ⟨⟩
 exact g_walk 31 h Tryz.func146
def zC1 (p0:(Option Addr)) (b1:Sl) (Q:K):K :=
 Ar (IntKind.wrap .u64 (b1.n:Int)) fun t7 =>
 zBY.call p0 t7 <|
 Nn p0 fun t11 =>
 Ld t11 Sl.val fun t13 =>
 Do Tryz.prog (Builtin.append_ #[85,85] 85 #[(Sl.val t13),(Sl.val b1)]) Sl.val fun t15 =>
 St t11 (Sl.val t15) <|
 Q
theorem zKk (p0:(Option Addr)) (b1:Sl) (Q:K) (w:World) (h:zC1 p0 b1 Q w):zC1.call p0 b1 Q w:=by
 exact g_walk 18 h Tryz.func148
end Go.Proofs.YtdemfamgieonbaaGreat
namespace Go.Proofs.YtdemfamgieonbaaGreat
open Go Go.Sep
set_option maxRecDepth 100000
def PenR (p:Nat) (xs:List UInt8):HProp:=ex fun s:Sl=>Sep.stars [blk p (.cells [s.val].toArray zEx (0,0)),SlC zAd 1 s (xs.map byteV)]
section
variable {B:World} {Γ Δ:List HProp} {p:Nat} {xs:List UInt8} {k Q:K}
theorem s_pen (h:∀ s,HG B (blk p (.cells [s.val].toArray zEx (0,0))::SlC zAd 1 s (xs.map byteV)::Γ) k):HG B (PenR p xs::Γ) k:=s_ex fun s=>s_flat (h s)
theorem zHi {s:Sl} (h:HG B (PenR p xs::Γ) k):HG B (blk p (.cells [s.val].toArray zEx (0,0))::SlC zAd 1 s (xs.map byteV)::Γ) k:=fun w hw=>by
 refine h w ?_
 have h3:Holds B (Sep.stars [blk p (.cells [s.val].toArray zEx (0,0)),SlC zAd 1 s (xs.map byteV)]::Γ) w:=Holds.flat.2 hw
 exact h3.imp fun g hg=>⟨s,hg⟩
instance (priority:=high) zVZ:Sep.Own p (PenR p xs::Γ) (PenR p xs) Γ:=⟨.refl _⟩
theorem zRJ {q0:Addr→K} (h:∀ p,HG B (PenR p []::Γ) (q0 ⟨p,0,none⟩)):HG B Γ (New zEx #[Sl.val ⟨none,0,0⟩] q0):=by
 refine s_new fun p=>?_
 refine fun w hw=>?_
 refine hg (show Holds B (SlC zAd 1 ⟨none,0,0⟩ (([]:List UInt8).map byteV)::_) w from hw.nilSl _ _) ?_
 refine s_swap ?_
 exact zHi (h p)
theorem num_hg {n:Nat} (hn:n < 1180591620717411303424) (hx:xs.length ≤ 50000000) (h:HG B (PenR p (xs++numL n)::Γ) Q):HG B (PenR p xs::Γ) (zBY.call (some ⟨p,0,none⟩) (n:Int) Q):=by
 refine fun w hw=>zLP _ _ _ _ ?_
 refine hg hw ?_
 clear hw w
 have hnl:=zGj 9 n (by simpa using hn)
 unfold zBY
 refine s_loop (α:=Int) (ι:=Nat×List UInt8) (fun x i=>x = (i.1:Int)∧i.2++numL i.1 = xs++numL n) (fun x i=>PenR p i.2::Γ) (fun x i=>i.1) (n,xs) ⟨rfl,rfl⟩ ?_
 rintro k' _ ⟨m,ys⟩ ⟨rfl,he⟩ hk'
 simp only at he hk' ⊢
 have hyl:ys.length ≤ 50000010:=by have:=congrArg List.length he; simp only [List.length_append] at this; omega
 unfold zBY.b1
 refine s_ite (fun hb=>?_) fun hb=>?_
 ·have hm:¬ m < 128:=by simp only [decide_eq_true_eq] at hb; omega
  refine s_nn ?_
  refine s_pen fun s=>?_
  refine s_cap s fun a1 a2 a3 a4=>?_
  simp only [List.length_map] at a1
  repeat refine s_nx ?_
  refine s_ar rfl ?_
  refine s_ar (or128 m) ?_
  refine s_new fun t16=>?_
  refine zBJ (s:=s) (esz:=1) (us:=[byteV (u8 (m % 128 + 128))]) (blk_rd rfl) (by simp [byteV,flatV]) (by simp only; omega) fun s2 _=>?_
  rw [show ys.map byteV++[byteV (u8 (m % 128 + 128))] = (ys++[u8 (m % 128 + 128)]).map byteV by simp]
  repeat refine s_nx ?_
  refine s_cd (by decide) ?_
  refine s_ar (shrU64 m 7 (by decide)) ?_
  refine s_ownS s2 ?_
  refine s_own p ?_
  refine zHi ?_
  refine s_end (hk' ((m / 2 ^ 7:Nat):Int) (m / 2 ^ 7,ys++[u8 (m % 128 + 128)]) ⟨rfl,?_⟩ (by simp only; omega))
  simp only
  rw [← he,zOR hm]; simp
 ·have hm:m < 128:=by simp only [decide_eq_false_iff_not] at hb; omega
  refine s_nn ?_
  refine s_pen fun s=>?_
  refine s_cap s fun a1 a2 a3 a4=>?_
  simp only [List.length_map] at a1
  repeat refine s_nx ?_
  refine s_ar (wrapB m) ?_
  refine s_new fun t16=>?_
  refine zBJ (s:=s) (esz:=1) (us:=[byteV (u8 m)]) (blk_rd rfl) (by simp [byteV,flatV]) (by simp only; omega) fun s2 _=>?_
  rw [show ys.map byteV++[byteV (u8 m)] = (ys++[u8 m]).map byteV by simp]
  repeat refine s_nx ?_
  refine s_ownS s2 ?_
  refine s_own p ?_
  refine zHi ?_
  rw [← zIQ hm,he]
  exact s_end h
theorem zTv {b:Sl} {ys:List UInt8} (hr:∀ w,Holds B Γ w→RdB w b ys) (hy:ys.length ≤ 10000000) (hx:xs.length ≤ 10000000) (h:HG B (PenR p (xs++numL ys.length++ys)::Γ) Q):HG B (PenR p xs::Γ) (zC1.call (some ⟨p,0,none⟩) b Q):=by
 refine fun w hw=>zKk _ _ _ _ ?_
 have hbn:b.n = ys.length:=by have:=(hr w hw.drops).len; simpa using this.symm
 refine hg hw ?_
 clear hw w
 have hnl:=zGj 9 ys.length (by simp; omega)
 unfold zC1
 refine s_ar (wrapU64 (by omega) (by omega)) ?_
 rw [hbn]
 refine num_hg (by omega) (by omega) ?_
 refine s_nn ?_
 refine s_pen fun s=>?_
 refine s_cap s fun a1 a2 a3 a4=>?_
 simp only [List.length_map,List.length_append] at a1
 repeat refine s_nx ?_
 refine zBJ (s:=s) (esz:=1) (us:=ys.map byteV) (fun w hw=>hr w hw.drops) (zFV _) (by omega) fun s2 _=>?_
 rw [← List.map_append]
 repeat refine s_nx ?_
 refine s_ownS s2 ?_
 refine s_own p ?_
 refine zHi ?_
 exact s_end h
theorem zTw {q:Sl→K} (hx:xs.length ≤ 50000000) (h:∀ s,HG B (SlC zAd 1 s (xs.map byteV)::PenR p xs::Γ) (q s)):HG B (PenR p xs::Γ) (zD0.call (some ⟨p,0,none⟩) q):=by
 refine fun w hw=>zKj _ _ _ ?_
 refine hg hw ?_
 clear hw w
 unfold zD0
 refine s_nn ?_
 refine s_pen fun s=>?_
 repeat refine s_nx ?_
 refine fun w hw=>zGA _ _ _ ?_
 refine hg hw ?_
 clear hw w
 unfold zCh
 refine zEj (us:=xs.map byteV) (fun w hw=>(own_rd (s:=s) hw).1) (zFV _) (by simp; omega) (by omega) fun s2 _=>?_
 refine s_ownS s ?_
 refine s_own p ?_
 refine zHi ?_
 exact s_end (h s2)
end
end Go.Proofs.YtdemfamgieonbaaGreat
namespace Go.Sep
open Go Go.RowKit Go.MapKept
structure Fnd {α:Type} [DecidableEq α] (P:Program) (kt:TypeId) (enc:α→Value):Prop where
 chk:∀ a w,(Instr.checkKey false 10000 kt (enc a)).run P w = .ok () w
 bits:∀ a,Instr.sameBits 10000 (enc a) (enc a) = true
 find:∀ (β:Type) (cV:β→Value) (es:Array MapEntry) (m:List (α×β)),mrel enc cV es m→∀ a w,((Instr.findKey kt (enc a) es.toList).run P w = .ok none w∧mget a m = none∧(∀ v,mset a v m = m++[(a,v)])) ∨
  ∃ j x,(Instr.findKey kt (enc a) es.toList).run P w = .ok (some (j,cV x)) w∧j < m.length∧m[j]? = some (a,x)∧mget a m = some x∧(∀ v,mset a v m = m.set j (a,v))
theorem fndS {α:Type} [DecidableEq α] {P:Program} {kt:TypeId} {cel:α→List Value} (h:KeyS P kt cel):Fnd P kt (kyS cel):=⟨fun a w=>h.chk a false w,h.bits,fun β cV es m hr a w=>by
 rcases zGx h hr a w with ⟨g1,g2,g3,_⟩ | ⟨j,x,g1,g2,g3,g4,g5,_⟩
 ·exact .inl ⟨g1,g2,g3⟩
 ·exact .inr ⟨j,x,g1,g2,g3,g4,g5⟩⟩
theorem zOS {p:MapEntry→Bool}:∀ {l:List MapEntry} {j:Nat} {e:MapEntry},l[j]? = some e→p e = true→(∀ i x,i < j→l[i]? = some x→p x = false)→l.findIdx? p = some j
 | [],_,_,h,_,_=>by simp at h
 | a::l,0,e,h,hp,_=>by
  simp at h; subst h
  simp [List.findIdx?_cons,hp]
 | a::l,j + 1,e,h,hp,hn=>by
  have h0:=hn 0 a (by omega) rfl
  rw [List.findIdx?_cons,h0]
  simp only [Bool.false_eq_true,if_false]
  rw [zOS (j:=j) (by simpa using h) hp fun i x hi hx=>hn (i + 1) x (by omega) (by simpa using hx)]
  rfl
section
variable {α β:Type} [DecidableEq α] {P:Program} {B:World} {Γ Δ:List HProp} {kt:TypeId} {enc:α→Value} {cV:β→Value} {k:K}
def EntR (enc:α→Value) (cV:β→Value) (b:Nat) (m:List (α×β)) (z:β) (a:α) (st:Int):HProp:=ex fun es:Array MapEntry=>ex fun c:Nat=>fun g =>
 (stamps es c∧∃ m1 j e,mrel enc cV es m1∧j < m1.length∧es[j]? = some e∧(e.born:Int) = st∧e.key = enc a∧(∀ v,m1.set j (a,v) = mset a v m)∧m1 = mset a ((mget a m).getD z) m)∧blk b (.map es c) g
instance (priority:=high) zVa {b:Nat} {m:List (α×β)} {z:β} {a:α} {st:Int} {Γ:List HProp}:Own b (EntR enc cV b m z a st::Γ) (EntR enc cV b m z a st) Γ:=⟨.refl _⟩
theorem EntR.map {m:List (α×β)} {z:β} {a:α} {st:Int} {b:Nat} {w:World} (h:Holds B (EntR enc cV b m z a st::Δ) w):Holds B (MapR enc cV b (mset a ((mget a m).getD z) m)::Δ) w:=by
 obtain ⟨es,h1⟩:=Holds.ex.1 h
 obtain ⟨c,h1⟩:=Holds.ex.1 h1
 obtain ⟨hst,m1,j,e,hr,hj,he,hbn,hek,hm,h2⟩:=h1.fact fun g hg=>hg.1
 subst h2
 exact MapR.shuts ⟨hr,hst⟩ (h1.imp fun g hg=>hg.2)
theorem zG4 {v:β}:∀ {m:List (α×β)} {a:α},mget a m = some v→mset a v m = m
 | [],_,h=>by simp [mget] at h
 | p::m,a,h=>by
  unfold mget at h
  unfold mset
  split at h
  ·rename_i hp
   simp only [Option.some.injEq] at h
   rw [if_pos hp,hp,← h]
  ·rename_i hp
   rw [if_neg hp,zG4 h]
theorem zMu (m:List (α×β)) (a:α) (v:β):mget a (mset a v m) = some v:=by rw [zF4,if_pos rfl]
theorem zSj {T E:TypeId} {b:Nat} {m:List (α×β)} {z:β} {a:α} {k:β→Int→K} (hF:Fnd P kt enc) (hz:zeroT P E (cV z)) (h:∀ st,HG B (EntR enc cV b m z a st::Δ) (k ((mget a m).getD z) st)) (hT:P.underlying T = some (.map kt E):=by kernel_rfl) [p:Own b Γ (MapR enc cV b m) Δ] :
  HG B Γ (Do2 P (Instr.mapEntry T (.map (some b)) (enc a)) (fun x y=>.tuple #[cV x,.int .i64 y]) k):=fun w hw=>by
 obtain ⟨es,c,⟨hr,hst⟩,h1⟩:=MapR.opens (hw.perm p.perm)
 have hb:=h1.block
 have hlen:es.size = m.length:=by have:=congrArg List.length hr; simpa using this
 have key:∀ {es' c' v st w'},(Instr.mapEntry T (.map (some b)) (enc a)).run P w = .ok (.tuple #[cV v,goInt st]) w'→v = (mget a m).getD z→(stamps es' c'∧∃ m1 j e,mrel enc cV es' m1∧j < m1.length∧es'[j]? = some e∧(e.born:Int) = st∧e.key = enc a∧(∀ v,m1.set j (a,v) = mset a v m)∧m1 = mset a ((mget a m).getD z) m) →
   Holds B (blk b (.map es' c')::Δ) w'→Do2 P (Instr.mapEntry T (.map (some b)) (enc a)) (fun x y=>.tuple #[cV x,.int .i64 y]) k w:=fun {es' c' v st w'} h3 h4 h5 h6=>by
  subst h4
  exact ⟨_,st,w',h3,h st w' (Holds.ex.2 ⟨es',Holds.ex.2 ⟨c',h6.imp fun g hg=>⟨h5,hg⟩⟩⟩)⟩
 rcases hF.find β cV es m hr a w with ⟨g1,g2,h2⟩ | ⟨j,x,g1,hj,h0,g2,h2⟩
 ·obtain ⟨e1,h3⟩:=h1.setMap (P:=P) (es':=es.push { key:=enc a,val:=cV z,born:=c }) (c':=c + 1)
  refine key (es':=es.push { key:=enc a,val:=cV z,born:=c }) (c':=c + 1) (v:=z) (st:=(c:Int)) ?_ (by rw [g2]; rfl) ⟨zG7 hst _ _,m++[(a,z)],m.length,⟨enc a,cV z,c⟩,?_,by simp,?_,rfl,rfl,fun v=>?_,by rw [h2,g2]; rfl⟩ h3
  ·unfold Instr.mapEntry
   simp only [Sem.run_bind,run_underlying hT,Result.andThen,MapKept.run_getObj_map hb,hF.chk,g1,zDB hz,e1,Sem.run_pure]
  ·simp only [mrel,Array.toList_push,List.map_append,List.map_cons,List.map_nil]
   rw [show es.toList.map (fun e=>(e.key,e.val)) = _ from hr]
  ·rw [← hlen]; simp
  ·rw [h2,List.set_append]; simp
 ·have hes:∃ e,es.toList[j]? = some e∧e.key = enc a:=by
   have:=zFE hr j
   rw [h0] at this
   cases he:es.toList[j]? with
   | none=>rw [he] at this; simp at this
   | some e =>
    rw [he] at this
    simp only [Option.map_some,Option.some.injEq,Prod.mk.injEq] at this
    exact ⟨e,rfl,this.1⟩
  obtain ⟨e,he,hek⟩:=hes
  have he2:es[j]? = some e:=by rw [← he,Array.getElem?_toList]
  have hmod:(es.modify j fun e'=>{ e' with key:=enc a }) = es:=by
   apply Array.ext_getElem?
   intro i
   rw [Array.getElem?_modify]
   split
   ·rename_i hij
    subst hij
    rw [he2]
    simp [← hek]
   ·rfl
  obtain ⟨e1,h3⟩:=h1.setMap (P:=P) (es':=es) (c':=c)
  refine key (es':=es) (c':=c) (v:=x) (st:=(e.born:Int)) ?_ (by rw [g2]; rfl) ⟨hst,m,j,e,hr,hj,he2,rfl,hek,fun v=>(h2 v).symm,by rw [g2]; exact (zG4 g2).symm⟩ h3
  unfold Instr.mapEntry
  simp only [Sem.run_bind,run_underlying hT,Result.andThen,MapKept.run_getObj_map hb,hF.chk,g1,he2,Option.map_some,Option.getD_some,hek,Instr.keyThatStays,hF.bits,if_true,Sem.run_pure,hmod,e1]
theorem zQK {T:TypeId} {b:Nat} {m:List (α×β)} {z:β} {a:α} {v:β} {x:Value} {st:Int} (hx:x = cV v) (h:HG B (MapR enc cV b (mset a v m)::Δ) k) [p:Own b Γ (EntR enc cV b m z a st) Δ] :
  HG B Γ (DoU P (Instr.entryStore T (.map (some b)) (.int .i64 st) x) k):=fun w hw=>by
 subst hx
 obtain ⟨es,h1⟩:=Holds.ex.1 (hw.perm p.perm)
 obtain ⟨c,h1⟩:=Holds.ex.1 h1
 obtain ⟨hst,m1,j,e,hr,hj,he,hbn,hek,hm,_⟩:=h1.fact fun g hg=>hg.1
 have h1:=h1.imp fun g hg=>hg.2
 have hb:=h1.block
 have hidx:es.findIdx? (fun e'=>((e'.born:Nat):Int) == st) = some j:=by
  rw [show es.findIdx? (fun e'=>((e'.born:Nat):Int) == st) = es.toList.findIdx? (fun e'=>((e'.born:Nat):Int) == st) by cases es; simp]
  refine zOS (e:=e) (by rw [← he,Array.getElem?_toList]) (by simp [hbn]) fun i x hi hx=>?_
  simp only [beq_eq_false_iff_ne,ne_eq,← hbn,Int.natCast_inj]
  intro hbe
  have hl:j < es.toList.length:=by
   have:=(Array.getElem?_eq_some_iff.1 he).1; simpa using this
  have h1:(es.toList.map (·.born))[i]? = some e.born:=by rw [List.getElem?_map,hx,← hbe]; rfl
  have h2:(es.toList.map (·.born))[j]? = some e.born:=by rw [List.getElem?_map,Array.getElem?_toList,he]; rfl
  have:=(List.getElem?_inj (by simp at hl ⊢; omega) hst.1).1 (h1.trans h2.symm)
  omega
 obtain ⟨e1,h3⟩:=h1.setMap (P:=P) (es':=es.modify j fun e'=>{ e' with val:=cV v }) (c':=c)
 refine ⟨(),_,?_,h _ (MapR.shuts ⟨?_,?_⟩ h3)⟩
 ·unfold Instr.entryStore
  simp only [Sem.run_bind,MapKept.run_getObj_map hb,Result.andThen,asInt,asIntOf,Sem.run_pure,hidx,e1]
 ·rw [← hm]
  simp only [mrel]
  apply List.ext_getElem?
  intro i
  have hi:=zFE hr i
  simp only [List.getElem?_map,Array.getElem?_toList,Array.getElem?_modify] at hi ⊢
  by_cases hij:j = i
  ·subst hij
   rw [List.getElem?_set_self hj,he]
   simp [hek]
  ·rw [List.getElem?_set_ne hij,if_neg hij]
   exact hi
 ·have:(es.modify j fun e'=>{ e' with val:=cV v }) = es.modify j fun e'=>{ e' with key:=enc a,val:=cV v }:=by
   apply Array.ext_getElem?
   intro i
   simp only [Array.getElem?_modify]
   split
   ·rename_i hij
    subst hij
    rw [he]
    simp [← hek]
   ·rfl
  rw [this]
  exact zGD hst _ _ _
end
section
variable {P:Program} {B:World} {Γ Δ:List HProp} {k:K}
theorem s_wsP {k:(World→Prop)→K} (S:World→Prop) (h0:∀ w,Holds B Γ w→S w) (h:HG B Γ (k S)):HG B Γ (WithS k):=fun w hw=>⟨S,h0 w hw,h w hw⟩
theorem s_svP {S:World→Prop} (h0:∀ w,Holds B Γ w→S w) (h:HG B Γ k):HG B Γ (Sv S k):=fun w hw=>⟨h0 w hw,h w hw⟩
theorem zHj {S:World→Prop} {a:Addr} {n:Nat} {l:List Value} {k:Array Value→K} (h0:∀ w,S w→RdN w a l.toArray) (h:HG B Γ (k l.toArray)) (hn:l.length = n:=by rfl):HG B Γ (LdNS S a n k):=fun w hw=>⟨l.toArray,by simpa using hn,h0,h w hw⟩
theorem s_ldSP {S:World→Prop} {α:Type} {a:Addr} {c:α→Value} {x:α} {k:α→K} (h0:∀ w,S w→w.cell? a = some (c x)) (h:HG B Γ (k x)):HG B Γ (LdS S a c k):=fun w hw=>⟨x,h0,h w hw⟩
theorem s_rdSP {S:World→Prop} {α:Type} {s:Sem Value} {c:α→Value} {x:α} {k:α→K} (h0:∀ w,S w→s.run P w = .ok (c x) w) (h:HG B Γ (k x)):HG B Γ (RdS P S s c k):=fun w hw=>⟨x,h0,h w hw⟩
theorem rd_at {a:Addr} {b off n:Nat} {l l':List Value} {T:TypeId} {fz:Nat×Nat} {w:World} (hw:Holds B Γ w) [ad:AdrIs a b off] [p:Own b Γ (blk b (.cells l.toArray T fz)) Δ] (hl:(l.drop off).take n = l':=by rfl) (hn:l'.length = n:=by rfl):RdN w a l'.toArray:=by
 rw [ad.h]; exact zLc (zDj hw (p:=p)) hl hn
theorem zPi {α β:Type} [DecidableEq α] {kt:TypeId} {cel:α→List Value} {cV:β→Value} {T E:TypeId} {b:Nat} {m:List (α×β)} {z:β} {a:α} {w:World} (hw:Holds B Γ w) (hE:KeyS P kt cel) (hz:zeroT P E (cV z)) (hT:P.underlying T = some (.map kt E):=by kernel_rfl) [p:Own b Γ (MapR (kyS cel) cV b m) Δ] :
  (Instr.lookup T (.map (some b)) (kyS cel a) false).run P w = .ok (cV ((mget a m).getD z)) w:=by
 obtain ⟨x,h1,rfl⟩:=zKT (B:=B) (Γ:=Γ) (Δ:=Δ) (P:=P) (b:=b) (m:=m) (a:=a) (k:=fun x _=>x = (mget a m).getD z) hE hz (fun w _=>rfl) hT w hw
 exact h1
end
end Go.Sep
namespace Go.Proofs.YtdemfamgieonbaaGreat
open Go Go.Sep
set_option maxRecDepth 100000
def tagOk (g:TagM):Prop:=0 ≤ g.node∧g.node < 9∧0 < g.epoch∧0 < g.seq∧0 ≤ g.tr∧g.tr < 3
instance (g:TagM):Decidable (tagOk g):=by unfold tagOk; infer_instance
def marksOk (rg:Int) (ks:List TX) (mks:List MkX):Prop:=mks.map MkX.key = ks∧∀ m ∈ mks,0 ≤ m.home∧m.home < rg
instance (rg:Int) (ks:List TX) (mks:List MkX):Decidable (marksOk rg ks mks):=by unfold marksOk; infer_instance
abbrev OrdOk (rg:Int) (g:TagM) (t:TxX) (mks:List MkX):Prop:=rightT rg t = true∧tagOk g∧marksOk rg (keysT (t.reads++t.writes)) mks
abbrev orV (g:TagM) (t:TxX) (ms:Sl):List Value:=orL g.node g.epoch g.seq g.tr t ms
section
variable {B:World} {Γ Δ:List HProp} {g:TagM} {t:TxX} {ms:Sl} {mks:List MkX}
theorem zKI {rg:Int} {Q:Int→K} (hr:∀ w,Holds B Γ w→txRd w t) (hm:∀ w,Holds B Γ w→RdC w ms 3 (mks.flatMap mkL)) (hl:t.reads.length ≤ 1000∧t.writes.length ≤ 1000∧t.ops.length ≤ 1000) (hml:mks.length ≤ 100000)
  (h:HG B Γ (Q (if OrdOk rg g t mks then 0 else 1))):HG B Γ (zAX.call (orV g t ms).toArray rg Q):=fun w hw=>by
 refine zL2 _ _ _ _ ?_
 have hmn:ms.n = mks.length:=rd_len zCa (by omega) (hm w hw)
 refine hg hw ?_
 clear hw w
 unfold zAX
 refine s_new fun o2=>?_
 refine s_dr ?_
 refine s_wsD [blk o2 (.cells (orV g t ms).toArray zAO (0,0))] ?_
 refine s_ldNS (b:=o2) (l:=orV g t ms) (l':=[.int .i64 g.node,.int .u64 g.epoch,.int .u64 g.seq]) ?_
 refine s_ldNS (b:=o2) (off:=4) (l:=orV g t ms) (l':=txL t) ?_
 have hkl:=zFH (t.reads++t.writes)
 rw [List.length_append] at hkl
 have rest:∀ (id5:Nat) (ks:Sl),HG B (blk id5 (.cells [.int .i64 g.node,.int .u64 g.epoch,.int .u64 g.seq].toArray zFF (0,0))::SlS ks (keysT (t.reads++t.writes))::blk o2 (.cells (orV g t ms).toArray zAO (0,0))::Γ) (zAX.s1 Q rg ⟨o2,0,none⟩ ⟨id5,0,none⟩ ks):=fun id5 ks=>by
  refine s_cap ks fun k1 k2 k3 k4=>?_
  have hkn:ks.n = (keysT (t.reads++t.writes)).length:=by simpa using k1.symm
  have no:¬ OrdOk rg g t mks→HG B Γ (Q 1):=fun hn=>by rw [if_neg hn] at h; exact h
  have S2:∀ b:Bool,(b = true ↔ rightT rg t = true∧tagOk g)→HG B (SlS ks (keysT (t.reads++t.writes))::blk o2 (.cells (orV g t ms).toArray zAO (0,0))::Γ) (zAX.s2 Q rg ⟨o2,0,none⟩ ks b):=fun b hb=>by
   have bad:¬ OrdOk rg g t mks→HG B (SlS ks (keysT (t.reads++t.writes))::blk o2 (.cells (orV g t ms).toArray zAO (0,0))::Γ) (zAX.s3 Q rg ⟨o2,0,none⟩ ks true):=fun hn=>by
    unfold zAX.s3
    exact s_t (s_end (no hn))
   unfold zAX.s2
   cases b
   ·refine s_t ?_
    exact bad fun ho=>by have:=hb.2 ⟨ho.1,ho.2.1⟩; cases this
   ·refine s_f ?_
    have hok:=hb.1 rfl
    refine s_ld (b:=o2) (off:=9) (l:=orV g t ms) (x:=ms) ?_
    by_cases hlen:mks.length = (keysT (t.reads++t.writes)).length
    ·rw [show decide ((ms.n:Int) ≠ (ks.n:Int)) = false by simp; omega]
     unfold zAX.s3
     refine s_f ?_
     refine s_ld (b:=o2) (off:=9) (l:=orV g t ms) (x:=ms) ?_
     refine zCm (α:=Int) (fun x=>∃ i:Nat,x = (i:Int)∧i ≤ mks.length∧∀ j,j < i→(mks[j]?.map MkX.key) = (keysT (t.reads++t.writes))[j]?∧∀ m,mks[j]? = some m→0 ≤ m.home∧m.home < rg) (fun x=>mks.length - x.toNat) ⟨0,rfl,Nat.zero_le _,by omega⟩ fun k' x hx hk'=>?_
     obtain ⟨i,rfl,hi,ha⟩:=hx
     unfold zAX.b4
     refine s_ite (fun hc=>?_) fun hc=>?_
     ·have hil:i < mks.length:=by simp only [decide_eq_true_eq] at hc; omega
      have hge:mks[i]? = some mks[i]:=List.getElem?_eq_getElem hil
      have hgk:(keysT (t.reads++t.writes))[i]? = some (keysT (t.reads++t.writes))[i]:=List.getElem?_eq_getElem (by omega)
      generalize mks[i] = m at hge
      generalize (keysT (t.reads++t.writes))[i] = key at hgk
      refine s_idxN mkL zCa (fun w hw=>hm w hw.drops) hge ?_
      refine s_new fun m9=>?_
      refine s_stN (b:=m9) (l':=mkL m) ?_
      refine s_dr ?_
      refine s_ld (b:=m9) (l:=mkL m) (x:=bs m.key) ?_
      refine s_idxS (L:=keysT (t.reads++t.writes)) (j:=i) (fun w hw=>(own_rd (s:=ks) hw).1) hgk ?_
      have S5:∀ c:Bool,(c = true ↔ ¬ (m.key = key∧0 ≤ m.home∧m.home < rg))→HG B (SlS ks (keysT (t.reads++t.writes))::blk o2 (.cells (orV g t ms).toArray zAO (0,0))::Γ) (zAX.s5 Q k' rg ks ms (ms.n:Int) (i:Int) c):=fun c hcc=>by
       unfold zAX.s5
       cases c
       ·refine s_f ?_
        refine s_ai ?_
        have hyes:m.key = key∧0 ≤ m.home∧m.home < rg:=by
         by_cases hh:m.key = key∧0 ≤ m.home∧m.home < rg
         ·exact hh
         ·have:=hcc.2 hh; cases this
        refine hk' _ ⟨i + 1,by simp,hil,fun j hj=>?_⟩ (by omega)
        by_cases hji:j = i
        ·subst hji
         rw [hge,hgk]
         exact ⟨by simp [hyes.1],fun m' hm'=>by cases hm'; exact hyes.2⟩
        ·exact ha j (by omega)
       ·refine s_t ?_
        refine s_end (no fun ho=>hcc.1 rfl ?_)
        have h1:=congrArg (·[i]?) ho.2.2.1
        simp only [List.getElem?_map,hge,hgk,Option.map_some,Option.some.injEq] at h1
        exact ⟨h1,ho.2.2.2 m (List.mem_of_getElem? hge)⟩
      refine s_ite (fun h1=>?_) fun h1=>?_
      ·refine s_end (S5 true ?_)
       have:m.key ≠ key:=by simpa using h1
       simp [this]
      have hkey:m.key = key:=by simpa using h1
      refine s_ld (b:=m9) (off:=1) (l:=mkL m) (x:=m.home) ?_
      refine s_ite (fun h2=>?_) fun h2=>?_
      ·refine s_end (S5 true ?_)
       simp only [decide_eq_true_eq] at h2
       simp only [true_iff,not_and]
       intro _ h3; omega
      refine s_ld (b:=m9) (off:=1) (l:=mkL m) (x:=m.home) ?_
      refine s_end (S5 _ ?_)
      simp only [decide_eq_false_iff_not,decide_eq_true_eq] at h2 ⊢
      constructor
      ·rintro h3 ⟨_,_,h4⟩; omega
      ·intro h3
       by_cases h4:rg ≤ m.home
       ·exact h4
       ·exact absurd ⟨hkey,by omega,by omega⟩ h3
     ·have hil:i = mks.length:=by simp only [decide_eq_false_iff_not] at hc; omega
      have hall:OrdOk rg g t mks:=by
       refine ⟨hok.1,hok.2,List.ext_getElem? fun j=>?_,fun m hm=>?_⟩
       ·by_cases hj:j < i
        ·rw [List.getElem?_map]; exact (ha j hj).1
        ·rw [List.getElem?_eq_none (by simp; omega),List.getElem?_eq_none (by omega)]
       ·obtain ⟨j,hj,rfl⟩:=List.mem_iff_getElem.1 hm
        exact (ha j (by omega)).2 _ (List.getElem?_eq_getElem hj)
      rw [if_pos hall] at h
      exact s_end h
    ·rw [show decide ((ms.n:Int) ≠ (ks.n:Int)) = true by simp; omega]
     exact bad fun ho=>hlen (by have:=congrArg List.length ho.2.2.1; simpa using this)
  have S2':∀ b:Bool,(b = true ↔ rightT rg t = true∧tagOk g)→HG B (blk id5 (.cells [.int .i64 g.node,.int .u64 g.epoch,.int .u64 g.seq].toArray zFF (0,0))::SlS ks (keysT (t.reads++t.writes))::blk o2 (.cells (orV g t ms).toArray zAO (0,0))::Γ) (zAX.s2 Q rg ⟨o2,0,none⟩ ks b):=fun b hb=>s_end (S2 b hb)
  unfold zAX.s1
  refine s_ldN (b:=o2) (off:=4) (l:=orV g t ms) (l':=txL t) ?_
  refine zN7 (t:=t) (n:=rg) (fun w hw=>hr w hw.drops) ⟨by omega,by omega,by omega⟩ ?_
  by_cases hrt:rightT rg t = true
  rotate_left
  ·rw [if_neg hrt]
   refine s_f ?_
   exact S2' false (by simp [hrt])
  rw [if_pos hrt]
  refine s_t ?_
  refine s_ld (b:=id5) (x:=g.node) ?_
  refine s_ite (fun h1=>?_) fun h1=>?_
  rotate_left
  ·exact S2' false (by simp only [decide_eq_false_iff_not] at h1; simp [tagOk,h1])
  simp only [decide_eq_true_eq] at h1
  refine s_ld (b:=id5) (x:=g.node) ?_
  refine s_ite (fun h2=>?_) fun h2=>?_
  rotate_left
  ·exact S2' false (by simp only [decide_eq_false_iff_not] at h2; simp [tagOk,h2])
  simp only [decide_eq_true_eq] at h2
  refine s_ld (b:=id5) (off:=1) (x:=g.epoch) ?_
  refine s_ite (fun h3=>?_) fun h3=>?_
  rotate_left
  ·exact S2' false (by simp only [decide_eq_false_iff_not] at h3; simp [tagOk,h3])
  simp only [decide_eq_true_eq] at h3
  refine s_ld (b:=id5) (off:=2) (x:=g.seq) ?_
  refine s_ite (fun h4=>?_) fun h4=>?_
  rotate_left
  ·exact S2' false (by simp only [decide_eq_false_iff_not] at h4; simp [tagOk,h4])
  simp only [decide_eq_true_eq] at h4
  refine s_ld (b:=o2) (off:=3) (l:=orV g t ms) (x:=g.tr) ?_
  refine s_ite (fun h5=>?_) fun h5=>?_
  rotate_left
  ·exact S2' false (by simp only [decide_eq_false_iff_not] at h5; simp [tagOk,h5])
  simp only [decide_eq_true_eq] at h5
  refine s_ld (b:=o2) (off:=3) (l:=orV g t ms) (x:=g.tr) ?_
  exact S2' _ (by simp only [decide_eq_true_eq]; exact ⟨fun h6=>⟨hrt,h1,h2,h3,h4,h5,h6⟩,fun h6=>h6.2.2.2.2.2.2⟩)
 refine s_all2 ?_ ?_
 ·refine zLo (t:=t) (fun w hw=>(hr w hw.drops).1) (fun w hw=>(hr w hw.drops).2.1) (by omega) (by omega) fun ks=>?_
  refine s_sv ?_
  refine s_new fun id5=>?_
  refine s_sv ?_
  refine s_stN (b:=id5) (l':=[.int .i64 g.node,.int .u64 g.epoch,.int .u64 g.seq]) ?_
  exact s_end (rest id5 ks)
 ·refine s_new fun id5=>?_
  refine s_sv ?_
  refine zLo (t:=t) (fun w hw=>(hr w hw.drops).1) (fun w hw=>(hr w hw.drops).2.1) (by omega) (by omega) fun ks=>?_
  refine s_sv ?_
  refine s_stN (b:=id5) (l':=[.int .i64 g.node,.int .u64 g.epoch,.int .u64 g.seq]) ?_
  exact s_end (rest id5 ks)
end
end Go.Proofs.YtdemfamgieonbaaGreat
namespace Go.Sep
open Go Go.RowKit
def strT2 (P:Program) (T U E:TypeId):Bool:=(match P.underlying T with | some .string=>true | _=>false) && (match P.underlying U with | some (.slice e)=>Nat.beq e E | _=>false) && (match P.underlying E with | some (.int .u8)=>true | _=>false)
theorem zQL {P:Program} {T U E:TypeId} (h:strT2 P T U E = true):P.underlying T = some .string∧P.underlying U = some (.slice E)∧P.underlying E = some (.int .u8):=by
 unfold strT2 at h
 simp only [Bool.and_eq_true] at h
 obtain ⟨⟨h1,h2⟩,h3⟩:=h
 refine ⟨?_,?_,?_⟩
 ·split at h1 <;> first | assumption | cases h1
 ·split at h2
  ·rename_i e he; rw [he,Nat.eq_of_beq_eq_true h2]
  ·cases h2
 ·split at h3 <;> first | assumption | cases h3
theorem zPj {P:Program} {B:World} {Γ:List HProp} {T U E:TypeId} {xs:List UInt8} {k:Sl→K} (h:∀ s,s.n = xs.length→HG B (SlC E 1 s (xs.map byteV)::Γ) (k s)) (hT:strT2 P T U E = true:=by kernel_rfl) :
  HG B Γ (Do P (convert T U (.string (bs xs))) Sl.val k):=fun w hw=>by
 obtain ⟨h1,h2,h3⟩:=zQL hT
 have hrun:=Go.Lib.run_convert_string_bytes w T U E (bs xs) h1 h2 h3
 have hsz:(bs xs).size = xs.length:=rfl
 have hcap:xs.length ≤ grownCap w xs.length 0 E:=by
  unfold grownCap Question.cut
  simp only
  omega
 refine ⟨⟨some ⟨w.heap.size,0,none⟩,xs.length,grownCap w xs.length 0 E⟩,_,hrun,h _ rfl _ ?_⟩
 have h4:=hw.alloc (.cells (Go.Lib.bytesCells w E (bs xs)) E ((Go.Lib.bytesCells w E (bs xs)).size,(Go.Lib.bytesCells w E (bs xs)).size + 1))
 have h5:Holds B (blk w.heap.size (.cells (Go.Lib.bytesCells w E (bs xs)) E ((Go.Lib.bytesCells w E (bs xs)).size,(Go.Lib.bytesCells w E (bs xs)).size + 1))::Γ) (Go.Lib.bytesWorld w E (bs xs)):=by
  refine h4.zOs ?_ rfl rfl rfl
  apply Array.ext_getElem?
  intro j
  simp only [Array.getElem?_push]
  by_cases hj:j = w.heap.size
  ·subst hj
   rw [Go.Lib.bytesWorld_at_new,if_pos rfl]
  ·rw [if_neg hj]
   by_cases hl:j < w.heap.size
   ·exact Go.Lib.bytesWorld_at_old w E (bs xs) j hl
   ·have hs:=Go.Lib.bytesWorld_size w E (bs xs)
    rw [Array.getElem?_eq_none (by omega),Array.getElem?_eq_none (by omega)]
 have hlen:(Go.Lib.bytesCells w E (bs xs)).size = xs.length + (grownCap w xs.length 0 E - xs.length):=by
  simp [Go.Lib.bytesCells,hsz]
 refine slShut (a:=⟨w.heap.size,0,none⟩) (cs:=Go.Lib.bytesCells w E (bs xs)) rfl h5 ⟨rfl,fun i _ hi=>?_,?_,fun i hi=>?_,?_,hcap⟩
 ·simp only at hi ⊢; omega
 ·simp only; omega
 ·simp only [List.length_map] at hi
  simp only [Nat.zero_add,Go.Lib.bytesCells]
  rw [Array.getElem?_append_left (by simp [hsz]; omega)]
  simp only [Array.getElem?_map,List.getElem?_map,List.getElem?_toArray]; rfl
 ·simp
end Go.Sep
namespace Go.Proofs.YtdemfamgieonbaaGreat
open Go Go.Sep Go.Sep.Bt
set_option maxRecDepth 100000
section
variable {B:World} {Γ Δ:List HProp} {Q:Bool→K}
end
end Go.Proofs.YtdemfamgieonbaaGreat
namespace Go.Proofs.YtdemfamgieonbaaGreat
open Go Go.Sep Go.Sep.Bt
set_option maxRecDepth 100000
theorem op_key {t:TxX} {o:OpM} (h:opRight t o = true):o.kind = 7∨o.key ∈ t.reads++t.writes:=by
 unfold opRight at h
 split at h
 ·cases h
 split at h
 ·exact .inl (by assumption)
 split at h
 ·cases h
 ·rename_i h1
  refine .inr ?_
  by_cases h2:o.key ∈ t.writes
  ·simp [h2]
  ·by_cases h3:o.key ∈ t.reads
   ·simp [h3]
   ·exact absurd ⟨h2,.inl h3⟩ h1
section
variable {B:World} {Γ Δ:List HProp} {q:Bool→K}
theorem zRK {R:WX} {x:List UInt8×(Rec×Sl)} {w:World} (hx:x ∈ R) (h:Holds B (Sep.stars (R.map wB)::Γ) w):RdB w x.2.2 x.2.1.val:=by
 obtain ⟨Δ,h2⟩:=zMk hx h
 exact rdB_of h2
end
end Go.Proofs.YtdemfamgieonbaaGreat
namespace Go.Proofs.YtdemfamgieonbaaGreat
open Go Go.Sep Go.RowKit
end Go.Proofs.YtdemfamgieonbaaGreat
namespace Go.Proofs.YtdemfamgieonbaaGreat
open Go Go.Sep
set_option maxRecDepth 100000
def PenW (p N:Nat):HProp:=ex fun xs:List UInt8=>Sep.stars [pur (xs.length ≤ N),PenR p xs]
abbrev ItemOk (kind ix:Int):Prop:=kind = 1∧ix = 0∨kind = 2∧0 ≤ ix∧ix < 64
section
variable {B:World} {Γ Δ:List HProp} {p N:Nat} {k Q:K}
theorem s_penW (h:∀ xs,xs.length ≤ N→HG B (PenR p xs::Γ) k):HG B (PenW p N::Γ) k:=s_ex fun xs=>s_flat <| s_pur fun h1=>h xs h1
theorem zKl {xs:List UInt8} (h1:xs.length ≤ N) (h:HG B (PenW p N::Γ) k):HG B (PenR p xs::Γ) k:=fun w hw=>by
 refine h w ?_
 have h3:Holds B (Sep.stars [pur (xs.length ≤ N),PenR p xs]::Γ) w:=Holds.flat.2 (Holds.pur.2 ⟨h1,hw⟩)
 exact h3.imp fun g hg=>⟨xs,hg⟩
instance (priority:=high) zVI:Sep.Own p (PenW p N::Γ) (PenW p N) Γ:=⟨.refl _⟩
theorem zFz {n:Int} (h0:0 ≤ n) (hn:n < 1180591620717411303424) (hN:N ≤ 40000000) (h:HG B (PenW p (N + 10)::Γ) Q):HG B (PenW p N::Γ) (zBY.call (some ⟨p,0,none⟩) n Q):=by
 refine s_penW fun xs hx=>?_
 obtain ⟨m,rfl⟩:∃ m:Nat,n = (m:Int):=⟨n.toNat,by omega⟩
 have hnl:=zGj 9 m (by simp; omega)
 refine num_hg (by omega) (by omega) ?_
 exact zKl (by simp only [List.length_append]; omega) h
theorem zKm {b:Sl} {ys:List UInt8} {L:Nat} (hr:∀ w,Holds B Γ w→RdB w b ys) (hy:ys.length ≤ L) (hL:L ≤ 1000000) (hN:N ≤ 5000000) (h:HG B (PenW p (N + 10 + L)::Γ) Q):HG B (PenW p N::Γ) (zC1.call (some ⟨p,0,none⟩) b Q):=by
 refine s_penW fun xs hx=>?_
 have hnl:=zGj 9 ys.length (by simp; omega)
 refine zTv hr (by omega) (by omega) ?_
 exact zKl (by simp only [List.length_append]; omega) h
theorem zPk {s:Sl} {L:List Int} (hr:∀ w,Holds B Γ w→RdC w s 1 (L.map (Value.int .u64))) (hL:∀ x ∈ L,0 ≤ x∧x < 1180591620717411303424) (hl:L.length ≤ 1000) (hN:N ≤ 1000000) (h:HG B (PenW p (N + 10 * L.length)::Γ) Q):HG B (PenW p N::Γ) (zDC.call (some ⟨p,0,none⟩) s Q):=fun w hw=>by
 refine zM8 _ _ _ _ ?_
 have hsn:s.n = L.length:=by have:=(hr w hw.tail).len; simpa using this.symm
 refine hg hw ?_
 clear hw w
 unfold zDC
 refine s_loop (α:=Int) (ι:=Nat) (fun x i=>x = (i:Int)∧i ≤ L.length) (fun x i=>PenW p (N + 10 * i)::Γ) (fun x i=>L.length - i) 0 ⟨rfl,Nat.zero_le _⟩ ?_
 rintro k' _ i ⟨rfl,hi⟩ hk'
 unfold zDC.b1
 refine s_ite (fun hb=>?_) fun hb=>?_
 ·have hil:i < L.length:=by simp only [decide_eq_true_eq] at hb; omega
  have hge:L[i]? = some L[i]:=List.getElem?_eq_getElem hil
  obtain ⟨h1,h2⟩:=hL _ (List.getElem_mem hil)
  generalize L[i] = x at hge h1 h2
  refine s_idx1 (L:=L) (fun w hw=>hr w hw.tail) hge ?_
  refine zFz h1 h2 (by omega) ?_
  refine s_ai ?_
  have:=hk' ((i:Int) + 1) (i + 1) ⟨by simp,hil⟩ (by omega)
  rw [show N + 10 * (i + 1) = N + 10 * i + 10 by omega] at this
  exact this
 ·have hil:i = L.length:=by simp only [decide_eq_false_iff_not] at hb; omega
  rw [hil]; exact h
theorem zOT {s:Sl} {L:List TX} (hr:∀ w,Holds B Γ w→RdC w s 1 (L.map strV)) (hL:∀ x ∈ L,x.length ≤ 200) (hl:L.length ≤ 1000) (hN:N ≤ 1000000) (h:HG B (PenW p (N + 10 + 210 * L.length)::Γ) Q):HG B (PenW p N::Γ) (zCx.call (some ⟨p,0,none⟩) s Q):=fun w hw=>by
 refine zL4 _ _ _ _ ?_
 have hsn:s.n = L.length:=by have:=(hr w hw.tail).len; simpa using this.symm
 refine hg hw ?_
 clear hw w
 unfold zCx
 refine s_ar (wrapU64 (by omega) (by omega)) ?_
 refine zFz (by omega) (by omega) (by omega) ?_
 refine s_loop (α:=Int) (ι:=Nat) (fun x i=>x = (i:Int)∧i ≤ L.length) (fun x i=>PenW p (N + 10 + 210 * i)::Γ) (fun x i=>L.length - i) 0 ⟨rfl,Nat.zero_le _⟩ ?_
 rintro k' _ i ⟨rfl,hi⟩ hk'
 unfold zCx.b1
 refine s_ite (fun hb=>?_) fun hb=>?_
 ·have hil:i < L.length:=by simp only [decide_eq_true_eq] at hb; omega
  have hge:L[i]? = some L[i]:=List.getElem?_eq_getElem hil
  have h1:=hL _ (List.getElem_mem hil)
  generalize L[i] = x at hge h1
  refine s_idxS (L:=L) (fun w hw=>hr w hw.tail) hge ?_
  refine zPj (E:=zAd) (xs:=x) fun b hb=>?_
  refine s_own p ?_
  refine zKm (L:=200) (ys:=x) (fun w hw=>(own_rd (s:=b) hw).1) h1 (by omega) (by omega) ?_
  refine s_ai ?_
  have:=hk' ((i:Int) + 1) (i + 1) ⟨by simp,hil⟩ (by omega)
  rw [show N + 10 + 210 * (i + 1) = N + 10 + 210 * i + 10 + 200 by omega] at this
  exact s_end this
 ·have hil:i = L.length:=by simp only [decide_eq_false_iff_not] at hb; omega
  rw [hil]; exact h
theorem zDa (n:Int):0 ≤ IntKind.wrap .u64 n∧IntKind.wrap .u64 n < 18446744073709551616:=by
 simp only [IntKind.wrap,IntKind.signed,IntKind.bits]
 simp
 omega
theorem zRL {n:Int} {q:Int→K} (h:∀ m:Int,0 ≤ m→m < 18446744073709551616→HG B Γ (q m)):HG B Γ (zED.call n q):=by
 refine fun w hw=>zLF _ _ _ ?_
 refine hg hw ?_
 clear hw w
 unfold zED
 refine s_ar rfl ?_
 refine s_cd (by decide) ?_
 refine s_ar rfl ?_
 refine s_cd (by decide) ?_
 refine s_ar rfl ?_
 refine s_ar rfl ?_
 refine s_ar rfl ?_
 obtain ⟨h1,h2⟩:=zDa ((BitVec.ofInt IntKind.u64.bits (shlOf .u64 (IntKind.wrap .u64 n) 1) ^^^ BitVec.ofInt IntKind.u64.bits (IntKind.wrap .u64 (shrOf .i64 n 63))).toNat:Int)
 exact h _ h1 h2
theorem zFf {rg:Int} {t:TxX} (h:rightT rg t = true):(∀ k ∈ t.reads++t.writes,k.length ≤ 16)∧(t.reads.length + t.writes.length ≤ 8)∧t.ops.length ≤ 16∧∀ x ∈ t.ops,x.1.key.length ≤ 16∧x.1.val.length ≤ 32:=by
 by_cases hk:t.kind = 2
 ·obtain ⟨ho,_⟩:=zIP h hk
  unfold rightT at h
  split at h
  ·cases h
  rename_i hb
  split at h
  ·cases h
  rename_i hkb
  simp only [headBad,not_or,Nat.not_lt] at hb
  refine ⟨fun k hk=>?_,by omega,by rw [ho]; simp,by rw [ho]; simp⟩
  exact Nat.le_of_not_lt fun h=>hkb (.inl ⟨k,hk,.inr h⟩)
 ·have hops:=zMt h hk
  unfold rightT at h
  split at h
  ·cases h
  rename_i hb
  split at h
  ·cases h
  rename_i hkb
  split at h
  ·cases h
  rename_i hc
  simp only [headBad,not_or,Nat.not_lt] at hb
  simp only [not_or,Nat.not_lt] at hc
  have hks:∀ k ∈ t.reads++t.writes,k.length ≤ 16:=fun k hk=>Nat.le_of_not_lt fun h=>hkb (.inl ⟨k,hk,.inr h⟩)
  refine ⟨hks,by omega,hc.2.2,fun x hx=>?_⟩
  have hr:=hops x hx
  constructor
  ·rcases op_key hr with h7 | h7
   ·unfold opRight at hr
    split at hr
    ·cases hr
    simp only [Bool.and_eq_true,decide_eq_true_eq] at hr
    rw [hr.1]; simp
   ·exact hks _ h7
  ·unfold opRight at hr
   split at hr
   ·cases hr
   ·rename_i h8; omega
theorem zSk {g:TagM} {t:TxX} {ms:Sl} {mks:List MkX} {rg:Int} (hrt:rightT rg t = true) (hg0:0 ≤ g.epoch∧g.epoch < 18446744073709551616) (hg1:0 ≤ g.seq∧g.seq < 18446744073709551616) (hmk:∀ m ∈ mks,0 ≤ m.cnt∧m.cnt < 18446744073709551616)
  (hr:∀ w,Holds B Γ w→txRd w t) (hm:∀ w,Holds B Γ w→RdC w ms 3 (mks.flatMap mkL)) (hml:mks.length ≤ 1000) (hN:N ≤ 100000) (h:∀ N',N' ≤ N + 100000→HG B (PenW p N'::Γ) Q):HG B (PenW p N::Γ) (zB9.call (some ⟨p,0,none⟩) (orV g t ms).toArray Q):=fun w hw=>by
 refine zL3 _ _ _ _ ?_
 have hmn:ms.n = mks.length:=rd_len zCa (by omega) (hm w hw.tail)
 have hon:t.os.n = t.ops.length:=rd_len zC4 (by omega) (hr w hw.tail).2.2.1
 refine Sep.hg hw ?_
 clear hw w
 obtain ⟨k1,k2,k3,k4⟩:=zFf hrt
 unfold zB9
 refine s_new fun o3=>?_
 refine s_ld (b:=o3) (l:=orV g t ms) (x:=g.node) ?_
 refine s_ar rfl ?_
 refine s_ld (b:=o3) (off:=1) (l:=orV g t ms) (x:=g.epoch) ?_
 refine s_ld (b:=o3) (off:=2) (l:=orV g t ms) (x:=g.seq) ?_
 refine s_ld (b:=o3) (off:=3) (l:=orV g t ms) (x:=g.tr) ?_
 refine s_ar rfl ?_
 refine s_ld (b:=o3) (off:=4) (l:=orV g t ms) (x:=t.kind) ?_
 refine s_ar rfl ?_
 refine s_ld (b:=o3) (off:=8) (l:=orV g t ms) (x:=t.to) ?_
 refine s_ar rfl ?_
 refine s_new fun t34=>?_
 have u1:=zDa g.node
 have u2:=zDa g.tr
 have u3:=zDa t.kind
 have u4:=zDa t.to
 refine s_own p ?_
 refine zPk (L:=[IntKind.wrap .u64 g.node,g.epoch,g.seq,IntKind.wrap .u64 g.tr,IntKind.wrap .u64 t.kind,IntKind.wrap .u64 t.to]) (fun w hw=>?_) ?_ (by simp) (by omega) ?_
 ·have:=blk_rd (B:=B) (esz:=6) (k:=6) (t:=t34) (cs:=[.int .u64 (IntKind.wrap .u64 g.node),.int .u64 g.epoch,.int .u64 g.seq,.int .u64 (IntKind.wrap .u64 g.tr),.int .u64 (IntKind.wrap .u64 t.kind),.int .u64 (IntKind.wrap .u64 t.to)]) rfl w hw
  exact ⟨by simp,fun h=>(by cases h),fun a ha i hi=>this.at' a ha i hi⟩
 ·intro x hx
  simp only [List.mem_cons,List.not_mem_nil,or_false] at hx
  rcases hx with rfl | rfl | rfl | rfl | rfl | rfl <;> omega
 refine s_end (Δ:=PenW p (N + 60)::blk o3 (.cells (orV g t ms).toArray zAO (0,0))::Γ) ?_
 refine s_ld (b:=o3) (off:=5) (l:=orV g t ms) (x:=t.rs) ?_
 refine zOT (L:=t.reads) (fun w hw=>(hr w hw.drops).1) (fun x hx=>by have:=k1 x (List.mem_append_left _ hx); omega) (by omega) (by omega) ?_
 refine s_ld (b:=o3) (off:=6) (l:=orV g t ms) (x:=t.ws) ?_
 refine zOT (L:=t.writes) (fun w hw=>(hr w hw.drops).2.1) (fun x hx=>by have:=k1 x (List.mem_append_right _ hx); omega) (by omega) (by omega) ?_
 refine s_ld (b:=o3) (off:=7) (l:=orV g t ms) (x:=t.os) ?_
 refine s_ar (wrapU64 (by omega) (by omega)) ?_
 refine zFz (by omega) (by omega) (by omega) ?_
 refine s_ld (b:=o3) (off:=7) (l:=orV g t ms) (x:=t.os) ?_
 generalize hN1:N + 60 + 10 + 210 * t.reads.length + 10 + 210 * t.writes.length + 10 = N1
 refine s_loop (α:=Int) (ι:=Nat) (fun x i=>x = (i:Int)∧i ≤ t.ops.length) (fun x i=>PenW p (N1 + 440 * i)::blk o3 (.cells (orV g t ms).toArray zAO (0,0))::Γ) (fun x i=>t.ops.length - i) 0 ⟨rfl,Nat.zero_le _⟩ ?_
 rintro k' _ i ⟨rfl,hi⟩ hk'
 unfold zB9.b1
 refine s_ite (fun hb=>?_) fun hb=>?_
 ·have hil:i < t.ops.length:=by simp only [decide_eq_true_eq] at hb; omega
  have hge:t.ops[i]? = some t.ops[i]:=List.getElem?_eq_getElem hil
  have hmem:t.ops[i] ∈ t.ops:=List.getElem_mem hil
  generalize t.ops[i] = x at hge hmem
  obtain ⟨h1,h2⟩:=k4 x hmem
  refine s_idxN opF zC4 (fun w hw=>(hr w hw.drops).2.2.1) hge ?_
  refine s_new fun x5=>?_
  refine s_stN (b:=x5) (l':=opF x) ?_
  refine s_ld (b:=x5) (l:=opF x) (x:=x.1.kind) ?_
  refine s_ar rfl ?_
  have u5:=zDa x.1.kind
  refine s_own p ?_
  refine zFz (by omega) (by omega) (by omega) ?_
  refine s_ld (b:=x5) (off:=1) (l:=opF x) (x:=bs x.1.key) ?_
  refine zPj (E:=zAd) (xs:=x.1.key) fun b hb=>?_
  refine s_own p ?_
  refine zKm (L:=200) (ys:=x.1.key) (fun w hw=>(own_rd (s:=b) hw).1) (by omega) (by omega) (by omega) ?_
  refine s_ld (b:=x5) (off:=2) (l:=opF x) (x:=x.2) ?_
  refine zKm (L:=200) (ys:=x.1.val) (fun w hw=>(hr w hw.drops).2.2.2 x hmem) (by omega) (by omega) (by omega) ?_
  refine s_ld (b:=x5) (off:=3) (l:=opF x) (x:=x.1.n) ?_
  refine zRL fun m hm1 hm2=>?_
  refine zFz hm1 (by omega) (by omega) ?_
  refine s_ai ?_
  have:=hk' ((i:Int) + 1) (i + 1) ⟨by simp,hil⟩ (by omega)
  rw [show N1 + 440 * (i + 1) = N1 + 440 * i + 10 + 10 + 200 + 10 + 200 + 10 by omega] at this
  exact s_end this
 ·have hil:i = t.ops.length:=by simp only [decide_eq_false_iff_not] at hb; omega
  refine s_ld (b:=o3) (off:=9) (l:=orV g t ms) (x:=ms) ?_
  rw [hil]
  refine s_end (Δ:=PenW p (N1 + 440 * t.ops.length + 20 * 0)::Γ) ?_
  refine s_loop (α:=Int) (ι:=Nat) (fun x i=>x = (i:Int)∧i ≤ mks.length) (fun x i=>PenW p (N1 + 440 * t.ops.length + 20 * i)::Γ) (fun x i=>mks.length - i) 0 ⟨rfl,Nat.zero_le _⟩ ?_
  rintro k2 _ j ⟨rfl,hj⟩ hk2
  unfold zB9.b2
  refine s_ite (fun hb2=>?_) fun hb2=>?_
  ·have hjl:j < mks.length:=by simp only [decide_eq_true_eq] at hb2; omega
   have hge:mks[j]? = some mks[j]:=List.getElem?_eq_getElem hjl
   obtain ⟨h1,h2⟩:=hmk _ (List.getElem_mem hjl)
   generalize mks[j] = m at hge h1 h2
   refine s_idxN mkL zCa (fun w hw=>hm w hw.tail) hge ?_
   refine s_new fun m7=>?_
   refine s_stN (b:=m7) (l':=mkL m) ?_
   refine s_ld (b:=m7) (off:=1) (l:=mkL m) (x:=m.home) ?_
   refine s_ar rfl ?_
   have u5:=zDa m.home
   refine s_own p ?_
   refine zFz (by omega) (by omega) (by omega) ?_
   refine s_ld (b:=m7) (off:=2) (l:=mkL m) (x:=m.cnt) ?_
   refine zFz h1 (by omega) (by omega) ?_
   refine s_ai ?_
   have:=hk2 ((j:Int) + 1) (j + 1) ⟨by simp,hjl⟩ (by omega)
   rw [show N1 + 440 * t.ops.length + 20 * (j + 1) = N1 + 440 * t.ops.length + 20 * j + 10 + 10 by omega] at this
   exact s_end this
  ·have hjl:j = mks.length:=by simp only [decide_eq_false_iff_not] at hb2; omega
   exact h _ (by omega)
theorem zOU {kind ix:Int} {g:TagM} {t:TxX} {ms:Sl} {mks:List MkX} {q:Sl→Int→K} (hg0:0 ≤ g.epoch∧g.epoch < 18446744073709551616) (hg1:0 ≤ g.seq∧g.seq < 18446744073709551616) (hmk:∀ m ∈ mks,0 ≤ m.cnt∧m.cnt < 18446744073709551616)
  (hr:∀ w,Holds B Γ w→txRd w t) (hm:∀ w,Holds B Γ w→RdC w ms 3 (mks.flatMap mkL)) (hl:t.reads.length ≤ 1000∧t.writes.length ≤ 1000∧t.ops.length ≤ 1000) (hml:mks.length ≤ 1000)
  (hbad:¬ (ItemOk kind ix∧OrdOk 3 g t mks)→HG B Γ (q ⟨none,0,0⟩ 1)) (hgood:ItemOk kind ix→OrdOk 3 g t mks→∀ s,HG B Γ (q s 0)) :
  HG B Γ (zAk.call (.int .i64 kind::.int .i64 ix::orV g t ms).toArray q):=by
 refine fun w hw=>zJC _ _ _ ?_
 refine hg hw ?_
 clear hw w
 unfold zAk
 refine s_new fun i1=>?_
 have S2:∀ b:Bool,(b = false ↔ ItemOk kind ix∧OrdOk 3 g t mks)→HG B (blk i1 (.cells (.int .i64 kind::.int .i64 ix::orV g t ms).toArray zC9 (0,0))::Γ) (zAk.s2 q ⟨i1,0,none⟩ b):=fun b hb=>by
  unfold zAk.s2
  cases b
  ·obtain ⟨hi,ho⟩:=hb.1 rfl
   refine s_f ?_
   refine zRJ fun p=>?_
   refine zKl (N:=0) (by simp) ?_
   refine s_ld (b:=i1) (x:=kind) ?_
   refine s_ar rfl ?_
   refine s_ld (b:=i1) (off:=1) (x:=ix) ?_
   refine s_ar rfl ?_
   refine s_new fun t46=>?_
   have u1:=zDa kind
   have u2:=zDa ix
   refine s_own p ?_
   refine zPk (L:=[IntKind.wrap .u64 kind,IntKind.wrap .u64 ix]) (fun w hw=>?_) ?_ (by simp) (by omega) ?_
   ·have:=blk_rd (B:=B) (esz:=2) (k:=2) (t:=t46) (cs:=[.int .u64 (IntKind.wrap .u64 kind),.int .u64 (IntKind.wrap .u64 ix)]) rfl w hw
    exact ⟨by simp,fun h=>(by cases h),fun a ha i hi=>this.at' a ha i hi⟩
   ·intro x hx
    simp only [List.mem_cons,List.not_mem_nil,or_false] at hx
    rcases hx with rfl | rfl <;> omega
   refine s_ldN (b:=i1) (off:=2) (l':=orV g t ms) ?_
   refine zSk ho.1 hg0 hg1 hmk (fun w hw=>hr w hw.drops) (fun w hw=>hm w hw.drops) hml (by simp) fun N' hN'=>?_
   refine s_penW fun xs hx=>?_
   refine zTw (by simp only [List.length_cons,List.length_nil] at hN'; omega) fun s=>?_
   exact s_end (hgood hi ho s)
  ·refine s_t ?_
   exact s_end (hbad fun hh=>by have:=hb.2 hh; cases this)
 have S1:∀ b:Bool,(b = true ↔ ItemOk kind ix)→HG B (blk i1 (.cells (.int .i64 kind::.int .i64 ix::orV g t ms).toArray zC9 (0,0))::Γ) (zAk.s1 q ⟨i1,0,none⟩ b):=fun b hb=>by
  unfold zAk.s1
  cases b
  ·refine s_t ?_
   exact S2 true (by simp only [Bool.true_eq_false,false_iff]; intro hh; have:=hb.2 hh.1; cases this)
  ·refine s_f ?_
   refine s_ldN (b:=i1) (off:=2) (l':=orV g t ms) ?_
   refine zKI (rg:=3) (fun w hw=>hr w hw.drops) (fun w hw=>hm w hw.drops) hl (by omega) ?_
   have hi:=hb.1 rfl
   by_cases ho:OrdOk 3 g t mks
   ·rw [if_pos ho]; exact S2 _ ⟨fun _=>⟨hi,ho⟩,fun _=>by simp⟩
   ·rw [if_neg ho]; exact S2 _ ⟨fun h=>by simp at h,fun h=>absurd h.2 ho⟩
 have piece:(kind ≠ 1∨ix ≠ 0)→HG B (blk i1 (.cells (.int .i64 kind::.int .i64 ix::orV g t ms).toArray zC9 (0,0))::Γ) (Ld ⟨i1,0,none⟩ (Value.int .i64) fun t16=>Ite (decide (t16 = 2)) (Ld ((⟨i1,0,none⟩:Addr).add 1) (Value.int .i64) fun t20=>Ite (decide ((0:Int) ≤ t20)) (Ld ((⟨i1,0,none⟩:Addr).add 1) (Value.int .i64) fun t25=>zAk.s1 q ⟨i1,0,none⟩ (decide (t25 < 64))) (zAk.s1 q ⟨i1,0,none⟩ false)) (zAk.s1 q ⟨i1,0,none⟩ false)):=fun hn=>by
  refine s_ld (b:=i1) (x:=kind) ?_
  refine s_ite (fun h2=>?_) fun h2=>?_
  ·simp only [decide_eq_true_eq] at h2
   refine s_ld (b:=i1) (off:=1) (x:=ix) ?_
   refine s_ite (fun h3=>?_) fun h3=>?_
   ·simp only [decide_eq_true_eq] at h3
    refine s_ld (b:=i1) (off:=1) (x:=ix) ?_
    exact S1 _ (by simp only [decide_eq_true_eq,ItemOk]; omega)
   ·simp only [decide_eq_false_iff_not] at h3
    exact S1 false (by simp only [Bool.false_eq_true,false_iff,ItemOk]; omega)
  ·simp only [decide_eq_false_iff_not] at h2
   exact S1 false (by simp only [Bool.false_eq_true,false_iff,ItemOk]; omega)
 refine s_ld (b:=i1) (x:=kind) ?_
 refine s_ite (fun h1=>?_) fun h1=>?_
 ·simp only [decide_eq_true_eq] at h1
  refine s_ld (b:=i1) (off:=1) (x:=ix) ?_
  refine s_ite (fun h2=>?_) fun h2=>?_
  ·simp only [decide_eq_true_eq] at h2
   exact S1 true (by simp [ItemOk,h1,h2])
  ·simp only [decide_eq_false_iff_not] at h2
   exact piece (.inr h2)
 ·simp only [decide_eq_false_iff_not] at h1
  exact piece (.inl h1)
end
end Go.Proofs.YtdemfamgieonbaaGreat
namespace Go.Proofs.YtdemfamgieonbaaGreat
open Go Go.Sep Go.Sep.Bt
set_option maxRecDepth 100000
def wrU (n:Nat) (M:Recs) (t:TxX):WM:=if (runW n M t).2.2 = 0 then sortW (runW n M t).1 else []
def decR (n:Nat) (g:TagM) (t:TxX) (M:Recs) (G:GM×DM):Recs:=if G.2 g = true then M else applyM n M (wrU n M t)
def decG (n:Nat) (g:TagM) (t:TxX) (M:Recs) (G:GM×DM):GM×DM :=
 if G.2 g = true then leaveM g G else
 if t.kind = 2∧(runW n M t).2.2 = 0 then leaveM g (movedM n (applyM n M (wrU n M t)) (t.writes.headD []) (leaveM g G)) else leaveM g G
def decC (n:Nat) (g:TagM) (t:TxX) (M:Recs) (G:GM×DM):Int:=if G.2 g = true then 112 else (runW n M t).2.2
def decO (n:Nat) (g:TagM) (t:TxX) (M:Recs) (G:GM×DM):OM:=if G.2 g = true then [] else if (runW n M t).2.2 = 0 then (runW n M t).2.1 else []
structure SzG (T:Nat) (G:GM×DM):Prop where
 gl:G.1.length ≤ T
 gs:∀ p ∈ G.1,p.2.1.length + p.2.2.length ≤ T
theorem SzG.gsz {T:Nat} {G:GM×DM} (h:SzG T G):gsz G.1 T:=⟨h.gl,fun p hp=>by have:=h.gs p hp; omega⟩
theorem SzG.up {T T':Nat} {G:GM×DM} (h:SzG T G) (ht:T ≤ T'):SzG T' G:=⟨Nat.le_trans h.gl ht,gs_up h.gs ht⟩
theorem SzG.leave {T:Nat} {G:GM×DM} (g:TagM) (h:SzG T G):SzG T (leaveM g G):=by
 obtain ⟨a,b⟩:=zSY (tag:=g) (x:=G) h.gl h.gs
 exact ⟨a,b⟩
theorem SzG.moved {T n:Nat} {S:Recs} {key:TX} {G:GM×DM} (h:SzG T G):SzG (T + 1) (movedM n S key G):=by
 obtain ⟨a,b⟩:=zSX (n:=n) (S:=S) (key:=key) (x:=G) h.gl h.gs
 exact ⟨a,gs_up b (by omega)⟩
theorem SzG.enters {T n:Nat} {S:Recs} {tag:TagM} {L:List MarkM} {G:GM×DM} (h:SzG T G):SzG (T + L.length) (enterM n S tag L G):=by
 obtain ⟨a,b⟩:=zMi (n:=n) (S:=S) (tag:=tag) L (x:=G) h.gl h.gs
 exact ⟨a,b⟩
theorem dec_sz {n T:Nat} {g:TagM} {t:TxX} {M:Recs} {G:GM×DM} (h:SzG T G):SzG (T + 1) (decG n g t M G):=by
 unfold decG
 split
 ·exact (h.leave g).up (by omega)
 split
 ·exact ((h.leave g).moved).leave g
 ·exact (h.leave g).up (by omega)
theorem zOV {n:Nat} {M:Recs} {t:TxX} {rg:Int} (hrt:rightT rg t = true):(runW n M t).1.length ≤ 16∧((runW n M t).2.2 = 0→(runW n M t).2.1.length ≤ 16∧∀ x ∈ (runW n M t).1,x.1.length ≤ 16):=by
 obtain ⟨k1,k2,k3,k4⟩:=zFf hrt
 obtain ⟨_,g2⟩:=zTu (n:=n) (M:=M) hrt
 refine ⟨?_,fun hc=>⟨?_,fun x hx=>?_⟩⟩
 ·unfold runW
  split
  ·have h5:=zJF (n:=n) (M:=M) (to:=t.to) (ks:=t.writes) (W:=[])
   simp only [List.length_nil] at h5
   simp only; omega
  ·have h5:=zKh (n:=n) (M:=M) (xs:=t.ops) (W:=[]) (O:=[])
   simp only [List.length_nil] at h5
   omega
 ·rw [(g2 hc).2]
  have:=List.length_filter_le isOut t.ops
  omega
 ·exact k1 _ (List.mem_append_right _ ((g2 hc).1 _ hx).1)
theorem zPl {n:Nat} {M:Recs} {t:TxX} {rg:Int} (hrt:rightT rg t = true):(wrU n M t).length ≤ 16∧∀ x ∈ wrU n M t,x.1.length ≤ 16:=by
 obtain ⟨h1,h2⟩:=zOV (n:=n) (M:=M) hrt
 unfold wrU
 split
 ·rename_i hc
  refine ⟨by rw [(zEu _).length_eq]; exact h1,fun x hx=>(h2 hc).2 x ((zEu _).mem_iff.1 hx)⟩
 ·simp
abbrev sdL (st l:Nat) (a b c:Sl):List Value:=[.pointer (some ⟨st,0,none⟩),.pointer (some ⟨l,0,none⟩),a.val,b.val,c.val]
section
variable {B:World} {Γ Δ:List HProp} {k:K} {sd st l n:Nat} {M:Recs} {G:GM×DM} {a b c:Sl}
theorem s_ldA4 {α:Type} {a:Addr} {cs:List Value} {c:α→Value} {x:α} {k:α→K} (hn:∀ w,Holds B Γ w→RdN w (a.add 4) cs.toArray) (hv:cs[2]? = some (c x)) (h:HG B Γ (k x)):HG B Γ (Ld ((a.add 4).add 2) c k):=fun w hw=>⟨x,by
 have:=hn w hw 2 (by have:=(List.getElem?_eq_some_iff.1 hv).1; simpa using this)
 rw [this]; simpa using hv,h w hw⟩
theorem zMv {dm:DM} {M:GM} {tag:TagM} {N:Nat} {Q:K} (hN:gsz M N) (hNl:N ≤ 1000000) (h:HG B (LocksR l (leaveM tag (M,dm)).1 (leaveM tag (M,dm)).2::Γ) Q) :
  HG B (LocksR l M dm::Γ) (zAz.calld (some ⟨l,0,none⟩) (tagF tag).toArray Q):=fun w hw=>zHZ _ _ _ _ (zMh hN hNl h w hw)
theorem zQM {rg:Int} {g:TagM} {t:TxX} {ms:Sl} {T:Nat} {q:Array Value→K} (hrt:rightT rg t = true) (hnn:∀ x ∈ t.ops,-9223372036854775808 ≤ x.1.n∧x.1.n ≤ 9223372036854775807) (hr:∀ w,Holds B Γ w→txRd w t) (hsz:SzG T G) (hT:T ≤ 900000) (hM:M.length ≤ 10000000)
  (h:∀ (os:Sl) (O:OX),O.map Prod.fst = decO n g t M G→HG B (SlC zAx 2 os (O.flatMap oF)::Sep.stars (O.map oB)::blk sd (.cells (sdL st l a b c).toArray zAp (0,0))::LocksR l (decG n g t M G).1 (decG n g t M G).2::StoreR st n (decR n g t M G)::Γ) (q #[.int .i64 (decC n g t M G),os.val])) :
  HG B (blk sd (.cells (sdL st l a b c).toArray zAp (0,0))::LocksR l G.1 G.2::StoreR st n M::Γ) (zAc.call (some ⟨sd,0,none⟩) (orV g t ms).toArray q):=by
 refine fun w hw=>zHW _ _ _ _ ?_
 refine hg hw ?_
 clear hw w
 obtain ⟨k1,k2,k3,k4⟩:=zFf hrt
 obtain ⟨r1,r2⟩:=zOV (n:=n) (M:=M) hrt
 obtain ⟨w1,w2⟩:=zPl (n:=n) (M:=M) hrt
 unfold zAc
 refine s_new fun o3=>?_
 refine s_new fun t4=>?_
 refine s_dr ?_
 refine s_nn ?_
 refine s_ld (b:=sd) (off:=1) (l:=sdL st l a b c) (x:=some ⟨l,0,none⟩) ?_
 refine s_ldN (b:=o3) (l:=orV g t ms) (l':=tagF g) ?_
 refine s_dr ?_
 refine s_ld (b:=sd) (off:=1) (l:=sdL st l a b c) (x:=some ⟨l,0,none⟩) ?_
 refine s_ldN (b:=o3) (l:=orV g t ms) (l':=tagF g) ?_
 refine s_own l ?_
 refine zMf ?_
 unfold decO decG decC decR at h
 by_cases hd:G.2 g = true
 ·rw [hd]
  refine s_t ?_
  simp only [hd,if_true] at h
  refine s_stN (b:=t4) (l':=[.int .i64 112,Sl.val ⟨none,0,0⟩]) ?_
  refine s_own l ?_
  refine zMv hsz.gsz (by omega) ?_
  show HG B (LocksR l (leaveM g G).1 (leaveM g G).2::_) _
  refine s_ldN (b:=t4) (l':=[.int .i64 112,Sl.val ⟨none,0,0⟩]) ?_
  refine s_end (Δ:=blk sd (.cells (sdL st l a b c).toArray zAp (0,0))::LocksR l (leaveM g G).1 (leaveM g G).2::StoreR st n M::Γ) ?_
  refine fun w hw=>h ⟨none,0,0⟩ [] rfl w ?_
  exact (hw.starsNil).nilSl zAx 2
 rw [Bool.eq_false_iff.2 hd]
 refine s_f ?_
 simp only [hd,Bool.false_eq_true,if_false] at h
 refine s_dr ?_
 refine s_wsD [blk o3 (.cells (orV g t ms).toArray zAO (0,0)),blk sd (.cells (sdL st l a b c).toArray zAp (0,0))] ?_
 refine s_ldS (b:=sd) (l:=sdL st l a b c) (x:=some ⟨st,0,none⟩) ?_
 refine s_ldNS (b:=o3) (off:=4) (l:=orV g t ms) (l':=txL t) ?_
 have run:∀ {Ψ:List HProp} {kk:Array Value→Sl→K},(∀ w,Holds B Ψ w→txRd w t) →
   (∀ (os:Sl) (O:OX) (rows:Sl) (R:WX),O.map Prod.fst = (if (runW n M t).2.2 = 0 then (runW n M t).2.1 else [])→modW R = wrU n M t→(∀ p ∈ R,p.2.1.ok)→HG B (SlC zAx 2 os (O.flatMap oF)::Sep.stars (O.map oB)::SlC zC0 5 rows (R.flatMap rowF)::Sep.stars (R.map wB)::StoreR st n M::Ψ) (kk #[.int .i64 (runW n M t).2.2,os.val] rows)) →
   HG B (StoreR st n M::Ψ) (zBq.call (some ⟨st,0,none⟩) (txL t).toArray kk):=fun {Ψ kk} hΨ hk=>by
  refine zOQ (t:=t) ⟨fun x hx=>by have:=k1 x (List.mem_append_right _ hx); omega,fun x hx=>⟨by have:=(k4 x hx).1; omega,by have:=(k4 x hx).2; omega,hnn x hx⟩,by omega,by omega,by omega,fun x hx=>by have:=k1 x (List.mem_append_left _ hx); omega⟩ hΨ fun e os O rows R he hb hz hok=>?_
  subst he
  refine hk os O rows R ?_ ?_ hok
  ·split
   ·rename_i hc; exact (hz hc).1
   ·rename_i hc; rw [(hb hc).1]; rfl
  ·unfold wrU
   split
   ·rename_i hc; exact (hz hc).2
   ·rename_i hc; rw [(hb hc).2]; rfl
 have cont:∀ {r5:Nat} {os rows:Sl} {O:OX} {R:WX} {Ψ:List HProp},O.map Prod.fst = (if (runW n M t).2.2 = 0 then (runW n M t).2.1 else [])→modW R = wrU n M t→(∀ p ∈ R,p.2.1.ok) →
   HG B (SlC zC0 5 rows (R.flatMap rowF)::Sep.stars (R.map wB)::StoreR st n M::blk r5 (.cells [.int .i64 (runW n M t).2.2,os.val].toArray zA3 (0,0))::SlC zAx 2 os (O.flatMap oF)::Sep.stars (O.map oB)::LocksR l G.1 G.2::blk t4 (.cells [.int .i64 0,Sl.val ⟨none,0,0⟩].toArray zA3 (0,0))::blk o3 (.cells (orV g t ms).toArray zAO (0,0))::blk sd (.cells (sdL st l a b c).toArray zAp (0,0))::Γ) (zAc.s1 q ⟨sd,0,none⟩ ⟨o3,0,none⟩ ⟨t4,0,none⟩ ⟨r5,0,none⟩ rows (some ⟨l,0,none⟩) (tagF g).toArray):=fun {r5 os rows O R Ψ} hO hR hok=>by
  have hRl:R.length = (wrU n M t).length:=by rw [← hR]; simp [modW]
  unfold zAc.s1
  refine s_ld (b:=sd) (l:=sdL st l a b c) (x:=some ⟨st,0,none⟩) ?_
  refine s_own st ?_
  refine zSf (R:=R) (fun w hw=>(own_rd (s:=rows) hw).1) (fun x hx w hw=>zRK (Γ:=[]) hx hw.drops) (fun x hx=>⟨by
   have:(x.1,x.2.1) ∈ modW R:=List.mem_map.2 ⟨x,hx,rfl⟩
   rw [hR] at this
   have:=w2 _ this
   simp only at this; omega,hok x hx⟩) (by omega) ?_
  rw [hR]
  have S2:∀ {G':GM×DM},SzG (T + 1) G'→(leaveM g G') = (if t.kind = 2∧(runW n M t).2.2 = 0 then leaveM g (movedM n (applyM n M (wrU n M t)) (t.writes.headD []) (leaveM g G)) else leaveM g G) →
    HG B (blk r5 (.cells [.int .i64 (runW n M t).2.2,os.val].toArray zA3 (0,0))::SlC zAx 2 os (O.flatMap oF)::Sep.stars (O.map oB)::LocksR l G'.1 G'.2::blk t4 (.cells [.int .i64 0,Sl.val ⟨none,0,0⟩].toArray zA3 (0,0))::blk sd (.cells (sdL st l a b c).toArray zAp (0,0))::StoreR st n (applyM n M (wrU n M t))::Γ) (zAc.s2 q ⟨t4,0,none⟩ ⟨r5,0,none⟩ (some ⟨l,0,none⟩) (tagF g).toArray):=fun {G'} hG' he=>by
   unfold zAc.s2
   refine s_ldN (b:=r5) (l':=[.int .i64 (runW n M t).2.2,os.val]) ?_
   refine s_stN (b:=t4) (l':=[.int .i64 (runW n M t).2.2,os.val]) ?_
   refine s_own l ?_
   refine zMv hG'.gsz (by omega) ?_
   show HG B (LocksR l (leaveM g G').1 (leaveM g G').2::_) _
   refine s_ldN (b:=t4) (l':=[.int .i64 (runW n M t).2.2,os.val]) ?_
   have h1:=h os O hO
   rw [← he] at h1
   exact s_end h1
  refine s_ld (b:=o3) (off:=4) (l:=orV g t ms) (x:=t.kind) ?_
  have S3:∀ {bb:Bool},(bb = true ↔ t.kind = 2∧(runW n M t).2.2 = 0)→HG B (StoreR st n (applyM n M (wrU n M t))::blk r5 (.cells [.int .i64 (runW n M t).2.2,os.val].toArray zA3 (0,0))::SlC zAx 2 os (O.flatMap oF)::Sep.stars (O.map oB)::LocksR l G.1 G.2::blk t4 (.cells [.int .i64 0,Sl.val ⟨none,0,0⟩].toArray zA3 (0,0))::blk o3 (.cells (orV g t ms).toArray zAO (0,0))::blk sd (.cells (sdL st l a b c).toArray zAp (0,0))::Γ) (zAc.s3 q ⟨sd,0,none⟩ ⟨o3,0,none⟩ ⟨t4,0,none⟩ ⟨r5,0,none⟩ (some ⟨l,0,none⟩) (tagF g).toArray bb):=fun {bb} hbb=>by
   unfold zAc.s3
   cases bb
   ·have hn:¬ (t.kind = 2∧(runW n M t).2.2 = 0):=fun hh=>by have:=hbb.2 hh; cases this
    refine s_f ?_
    exact s_end (S2 (G':=G) (hsz.up (by omega)) (by rw [if_neg hn]))
   ·have hy:=hbb.1 rfl
    refine s_t ?_
    obtain ⟨_,key,hkey⟩:=zIP hrt hy.1
    refine s_dr ?_
    refine s_ld (b:=sd) (off:=1) (l:=sdL st l a b c) (x:=some ⟨l,0,none⟩) ?_
    refine s_ldN (b:=o3) (l:=orV g t ms) (l':=tagF g) ?_
    refine s_own l ?_
    refine zST hsz.gsz (by omega) ?_
    show HG B (LocksR l (leaveM g G).1 (leaveM g G).2::_) _
    refine s_dr ?_
    refine s_ld (b:=sd) (off:=1) (l:=sdL st l a b c) (x:=some ⟨l,0,none⟩) ?_
    refine s_ld (b:=sd) (l:=sdL st l a b c) (x:=some ⟨st,0,none⟩) ?_
    refine s_ldA4 (cs:=txL t) (x:=t.ws) (fun w hw=>?_) rfl ?_
    ·exact rd_at (b:=o3) (off:=4) (l:=orV g t ms) (n:=5) hw
    refine s_idxS (L:=t.writes) (j:=0) (x:=key) (fun w hw=>(hr w (hw.drops (Δ:=Γ))).2.1) (by rw [hkey]; rfl) ?_
    refine s_own st ?_
    refine s_own l ?_
    refine zSV (N:=T) (by have:=k1 key (List.mem_append_right _ (by rw [hkey]; simp)); omega) (hsz.leave g).gsz (by omega) ?_
    show HG B (LocksR l (movedM n (applyM n M (wrU n M t)) key (leaveM g G)).1 (movedM n (applyM n M (wrU n M t)) key (leaveM g G)).2::_) _
    refine s_end (S2 (G':=movedM n (applyM n M (wrU n M t)) key (leaveM g G)) ((hsz.leave g).moved) ?_)
    rw [if_pos hy,hkey]; rfl
  refine s_ite (fun h1=>?_) fun h1=>?_
  ·have hk:t.kind = 2:=by simpa using h1
   refine s_ld (b:=r5) (l:=[.int .i64 (runW n M t).2.2,os.val]) (x:=(runW n M t).2.2) ?_
   exact s_end (S3 (by simp [hk]))
  ·have hk:t.kind ≠ 2:=by simpa using h1
   exact s_end (S3 (by simp [hk]))
 refine s_all2 ?_ ?_
 ·refine s_own st ?_
  refine run (fun w hw=>hr w hw.drops) fun os O rows R hO hR hok=>?_
  refine s_new fun r5=>?_
  refine s_stN (b:=r5) (l':=[.int .i64 (runW n M t).2.2,os.val]) ?_
  exact s_end (cont (os:=os) (Ψ:=[]) hO hR hok)
 ·refine s_new fun r5=>?_
  refine s_sv ?_
  refine s_own st ?_
  refine run (fun w hw=>hr w hw.drops) fun os O rows R hO hR hok=>?_
  refine s_stN (b:=r5) (l':=[.int .i64 (runW n M t).2.2,os.val]) ?_
  exact s_end (cont (os:=os) (Ψ:=[]) hO hR hok)
end
end Go.Proofs.YtdemfamgieonbaaGreat
namespace Go.Proofs.YtdemfamgieonbaaGreat
open Go Go.Sep Go.Sep.Bt
set_option maxRecDepth 100000
section
variable {B:World} {Γ Δ:List HProp} {k:K} {st sd n:Nat} {M:Recs} {P:Pool}
end
end Go.Proofs.YtdemfamgieonbaaGreat
namespace Go.Proofs.YtdemfamgieonbaaGreat
open Go.Proofs Go.Shelf
def sortRenI:Go.Shelf.Ren:=⟨fun | 5=>50 | 7=>87 | 8=>88 | 10=>135 | 11=>136 | 12=>137 | 13=>138 | 14=>139 | 15=>140 | 16=>141 | 17=>142 | 18=>143 | 19=>144 | 20=>145 | 30=>184 | 31=>185 | 32=>186 | 33=>187 | 34=>188 | 35=>189 | 40=>213 | n=>n,fun | 0=>0 | 3=>3 | 4=>4 | 5=>5 | 9=>9 | 22=>42 | 23=>42 | 25=>3 | 32=>204 | 35=>264 | 36=>265 | 41=>270 | 44=>273 | 46=>33 | 53=>308 | 57=>312 | 63=>339 | 64=>340 | n=>n,fun | n=>n⟩
theorem sortLayI:Go.Proofs.SlLaysM.n5 Tryz.prog sortRenI:={
 mixed:=by kernel_rfl
 f5:=⟨Tryz.f50.name,by decide,Tryz.func50.trans (congrArg some (by kernel_rfl))⟩
 f7:=⟨Tryz.f87.name,by decide,Tryz.func87.trans (congrArg some (by kernel_rfl))⟩
 f8:=Tryz.func88.trans (congrArg some (by kernel_rfl))
 f10:=⟨Tryz.f135.name,by decide,Tryz.func135.trans (congrArg some (by kernel_rfl))⟩
 f11:=⟨Tryz.f136.name,by decide,Tryz.func136.trans (congrArg some (by kernel_rfl))⟩
 f12:=⟨Tryz.f137.name,by decide,Tryz.func137.trans (congrArg some (by kernel_rfl))⟩
 f13:=⟨Tryz.f138.name,by decide,Tryz.func138.trans (congrArg some (by kernel_rfl))⟩
 f14:=⟨Tryz.f139.name,by decide,Tryz.func139.trans (congrArg some (by kernel_rfl))⟩
 f15:=⟨Tryz.f140.name,by decide,Tryz.func140.trans (congrArg some (by kernel_rfl))⟩
 f16:=⟨Tryz.f141.name,by decide,Tryz.func141.trans (congrArg some (by kernel_rfl))⟩
 f17:=⟨Tryz.f142.name,by decide,Tryz.func142.trans (congrArg some (by kernel_rfl))⟩
 f18:=⟨Tryz.f143.name,by decide,Tryz.func143.trans (congrArg some (by kernel_rfl))⟩
 f19:=Tryz.func144.trans (congrArg some (by kernel_rfl))
 f20:=Tryz.func145.trans (congrArg some (by kernel_rfl))
 f30:=⟨Tryz.f184.name,by decide,Tryz.func184.trans (congrArg some (by kernel_rfl))⟩
 f31:=Tryz.func185.trans (congrArg some (by kernel_rfl))
 f32:=Tryz.func186.trans (congrArg some (by kernel_rfl))
 f33:=⟨Tryz.f187.name,by decide,Tryz.func187.trans (congrArg some (by kernel_rfl))⟩
 f34:=⟨Tryz.f188.name,by decide,Tryz.func188.trans (congrArg some (by kernel_rfl))⟩
 f35:=⟨Tryz.f189.name,by decide,Tryz.func189.trans (congrArg some (by kernel_rfl))⟩
 f40:=⟨Tryz.f213.name,by decide,Tryz.func213.trans (congrArg some (by kernel_rfl))⟩
 t0:=Tryz.underlying0
 a0:=Tryz.isAgg0
 z0:=Tryz.sizeOf0
 v0:=Tryz.zeroValue0
 t3:=Tryz.underlying3
 a3:=Tryz.isAgg3
 z3:=Tryz.sizeOf3
 v3:=Tryz.zeroValue3
 t4:=Tryz.underlying4
 a4:=Tryz.isAgg4
 z4:=Tryz.sizeOf4
 v4:=Tryz.zeroValue4
 t5:=Tryz.underlying5
 a5:=Tryz.isAgg5
 z5:=Tryz.sizeOf5
 v5:=Tryz.zeroValue5
 t9:=Tryz.underlying9
 a9:=Tryz.isAgg9
 z9:=Tryz.sizeOf9
 v9:=Tryz.zeroValue9
 t22:=Tryz.underlying42
 a22:=Tryz.isAgg42
 z22:=Tryz.sizeOf42
 v22:=Tryz.zeroValue42
 t23:=Tryz.underlying42
 a23:=Tryz.isAgg42
 z23:=Tryz.sizeOf42
 v23:=Tryz.zeroValue42
 t25:=Tryz.underlying3
 a25:=Tryz.isAgg3
 z25:=Tryz.sizeOf3
 v25:=Tryz.zeroValue3
 t32:=Tryz.underlying204
 a32:=Tryz.isAgg204
 z32:=Tryz.sizeOf204
 v32:=Tryz.zeroValue204
 t35:=Tryz.underlying264
 a35:=Tryz.isAgg264
 z35:=Tryz.sizeOf264
 v35:=Tryz.zeroValue264
 t36:=Tryz.underlying265
 a36:=Tryz.isAgg265
 z36:=Tryz.sizeOf265
 v36:=Tryz.zeroValue265
 t41:=Tryz.underlying270
 a41:=Tryz.isAgg270
 z41:=Tryz.sizeOf270
 v41:=Tryz.zeroValue270
 t44:=Tryz.underlying273
 a44:=Tryz.isAgg273
 z44:=Tryz.sizeOf273
 v44:=Tryz.zeroValue273
 t46:=Tryz.underlying33
 a46:=Tryz.isAgg33
 z46:=Tryz.sizeOf33
 v46:=Tryz.zeroValue33
 t53:=Tryz.underlying308
 a53:=Tryz.isAgg308
 z53:=Tryz.sizeOf308
 v53:=Tryz.zeroValue308
 t57:=Tryz.underlying312
 a57:=Tryz.isAgg312
 z57:=Tryz.sizeOf312
 v57:=Tryz.zeroValue312
 t63:=Tryz.underlying339
 a63:=Tryz.isAgg339
 z63:=Tryz.sizeOf339
 v63:=Tryz.zeroValue339
 t64:=Tryz.underlying340
 a64:=Tryz.isAgg340
 z64:=Tryz.sizeOf340
 v64:=Tryz.zeroValue340
}
end Go.Proofs.YtdemfamgieonbaaGreat
namespace Go.Proofs.YtdemfamgieonbaaGreat
open Go Go.Sep
set_option maxRecDepth 100000
abbrev sortI (ss:List Int):List Int:=ss.mergeSort fun x y=>decide (x ≤ y)
section
variable {B w:World} {Γ:List HProp}
theorem zJ3 {s:Sl} {ss:List Int} {k:K} (hl:ss.length ≤ 1000000) (h:Holds B (SlC ty_int 1 s (ss.map (Value.int .i64))::Γ) w) (hk:∀ w,Holds B (SlC ty_int 1 s ((sortI ss).map (Value.int .i64))::Γ) w→k w):zDf.call s k w:=by
 have hsc:=h.slCap
 have hn:ss.length = s.n:=by have:=hsc.1; simpa using this
 unfold zDf.call CallF
 cases ha:s.a with
 | none =>
  have hs0:s.n = 0:=by have:=hsc.2.2.2 ha; omega
  have hss:ss = []:=List.length_eq_zero_iff.1 (by omega)
  subst hss
  have h1:=AnyM.slices_Sort_int_none sortLayI none s.c w
  have e:[Sl.val s].toArray = #[.slice none 0 s.c]:=by
   show #[Value.slice s.a s.n s.c] = _
   rw [ha,hs0]
  rw [e]
  refine Calls.mono h1 fun e w' he=>?_
  obtain ⟨rfl,rfl⟩:=he
  exact ⟨rfl,hk _ (by simpa [sortI] using h)⟩
 | some a =>
  obtain ⟨cs,fz,h,hsp,hf,hsz,hr,hlen,hc⟩:=slOpen h ha
  obtain ⟨b,off,sp⟩:=a
  simp only at hsp
  subst hsp
  simp only at h hf hsz hr
  have hb:=h.block
  have hH:Sort.Holds (Value.int .i64) w b off ss.toArray:=fun j hj=>by
   simp only [List.size_toArray] at hj
   have h1:=hr j (by simpa using hj)
   constructor
   ·refine zBr hb ?_
    rw [h1,List.getElem?_map,List.getElem?_eq_getElem hj]
    simp [getElem!_pos,hj]
   ·exact zDb hb (hf _ (by omega) (by omega))
  have h1:=AnyM.slices_Sort_int sortLayI b off s.c ss w hH (Array.getElem?_eq_some_iff.1 hb).1 (by omega)
  have e:[Sl.val s].toArray = #[.slice (some ⟨b,off,none⟩) ss.length s.c]:=by
   show #[Value.slice s.a s.n s.c] = _
   rw [ha,hn]
  rw [e]
  refine Calls.mono h1 fun e w' he=>?_
  obtain ⟨rfl,n,os,rfl⟩:=he
  refine ⟨rfl,hk _ ?_⟩
  have h2:Holds B (blk b (.cells cs ty_int fz)::Γ) (Sort.ahead w n):=h.drew _
  have h3:=h2.setBlock (o':=.cells (Sort.putCells (Value.int .i64) off (sortI ss).toArray cs) ty_int fz) rfl
  have e2:({ (Sort.ahead w n) with heap:=(Sort.ahead w n).heap.setIfInBounds b (.cells (Sort.putCells (Value.int .i64) off (sortI ss).toArray cs) ty_int fz) }:World) = Sort.putRow (Value.int .i64) (Sort.ahead w n) b off (sortI ss).toArray:=by
   have harr:(Sort.ahead w n).heap.setIfInBounds b (.cells (Sort.putCells (Value.int .i64) off (sortI ss).toArray cs) ty_int fz) = (Sort.ahead w n).heap.modify b (Sort.onCells (Sort.putCells (Value.int .i64) off (sortI ss).toArray)):=by
    apply Array.ext_getElem?
    intro i
    rw [Array.getElem?_modify]
    by_cases hi:b = i
    ·subst hi
     rw [if_pos rfl,h2.block,Array.getElem?_setIfInBounds_self_of_lt (Array.getElem?_eq_some_iff.1 h2.block).1]
     rfl
    ·rw [if_neg hi,Array.getElem?_setIfInBounds_ne hi]
   unfold Sort.putRow Sort.mapBlock
   rw [← harr]
  rw [e2] at h3
  have h4:=holds_grow h3 os
  have hsl:(sortI ss).length = ss.length:=by simp [sortI]
  refine slShut (a:=⟨b,off,none⟩) ha h4 ⟨rfl,hf,?_,fun i hi=>?_,by rw [List.length_map,hsl]; simpa using hlen,hc⟩
  ·have:(Sort.putCells (Value.int .i64) off (sortI ss).toArray cs).size = cs.size:=by simp [Sort.putCells]
   rw [this]; exact hsz
  ·simp only [List.length_map] at hi
   unfold Sort.putCells
   rw [Array.getElem?_mapIdx]
   have hlt:off + i < cs.size:=by omega
   rw [Array.getElem?_eq_getElem hlt,Option.map_some,if_pos (by simp; omega),List.getElem?_map,List.getElem?_eq_getElem hi,Option.map_some,Nat.add_sub_cancel_left,getElem!_pos (sortI ss).toArray i (by simpa using hi)]
   simp
end
end Go.Proofs.YtdemfamgieonbaaGreat
namespace Go.Proofs.YtdemfamgieonbaaGreat
open Go Go.Sep
set_option maxRecDepth 100000
set_option maxHeartbeats 4000000
attribute [local irreducible] G Gp Cx Tx Ex Sx Dx Ox Ax Lx Rx Fx Bx Bj Al Do Ld LdN St StN New CallF Ar DoU Rd Rd2 Pu Cd Ite Fv CallV CallY Ans0 Ans1 Ans2 Ans3 Ans4 Ans5 Ext Dead Dr WithS Sv LdS LdNS RdS Rd2S Nn Idx IdxA IdxS Fld Bld Slc SlcS Cat All LoopK RangeF RangeJ TakeD
namespace F_IRRef09
instance at_25:AT Tryz.prog 25 5:=⟨by kernel_rfl⟩
instance at_35:AT Tryz.prog 35 3:=⟨by kernel_rfl⟩
instance at_37:AT Tryz.prog 37 4:=⟨by kernel_rfl⟩
instance at_40:AT Tryz.prog 40 10:=⟨by kernel_rfl⟩
instance at_84:AT Tryz.prog 84 3:=⟨by kernel_rfl⟩
instance cb_10:CB Tryz.prog 10:=⟨by kernel_rfl⟩
instance cb_211:CB Tryz.prog 211:=⟨by kernel_rfl⟩
instance cb_23:CB Tryz.prog 23:=⟨by kernel_rfl⟩
instance cb_67:CB Tryz.prog 67:=⟨by kernel_rfl⟩
instance cb_68:CB Tryz.prog 68:=⟨by kernel_rfl⟩
instance ct_3:CT Tryz.prog 3:=⟨by kernel_rfl⟩
instance ct_33:CT Tryz.prog 33:=⟨by kernel_rfl⟩
instance ct_38:CT Tryz.prog 38:=⟨by kernel_rfl⟩
instance ct_9:CT Tryz.prog 9:=⟨by kernel_rfl⟩
instance zGR:FT Tryz.prog 25 0 0 1:=⟨by kernel_rfl⟩
instance zTe:FT Tryz.prog 35 0 0 1:=⟨by kernel_rfl⟩
instance zTf:FT Tryz.prog 35 1 1 1:=⟨by kernel_rfl⟩
instance zTg:FT Tryz.prog 35 2 2 1:=⟨by kernel_rfl⟩
instance zLz:FT Tryz.prog 37 0 0 3:=⟨by kernel_rfl⟩
instance zL0:FT Tryz.prog 37 1 3 1:=⟨by kernel_rfl⟩
instance zHS:FT Tryz.prog 40 0 0 4:=⟨by kernel_rfl⟩
instance zPS:FT Tryz.prog 40 1 4 5:=⟨by kernel_rfl⟩
instance zLw:FT Tryz.prog 40 2 9 1:=⟨by kernel_rfl⟩
instance zLx:FT Tryz.prog 48 0 0 1:=⟨by kernel_rfl⟩
instance zJr:FT Tryz.prog 48 1 1 1:=⟨by kernel_rfl⟩
instance zLy:FT Tryz.prog 48 2 2 10:=⟨by kernel_rfl⟩
instance zPT:FT Tryz.prog 84 0 0 1:=⟨by kernel_rfl⟩
instance zLu:FT Tryz.prog 84 1 1 1:=⟨by kernel_rfl⟩
instance mx:MX Tryz.prog:=⟨mixed⟩
instance sl_22:SLT Tryz.prog 22 9 1:=⟨by kernel_rfl⟩
instance sl_38:SLT Tryz.prog 38 84 3:=⟨by kernel_rfl⟩
instance sl_42:SLT Tryz.prog 42 3 1:=⟨by kernel_rfl⟩
instance sz_3:SZ Tryz.prog 3 1:=⟨by kernel_rfl⟩
instance sz_35:SZ Tryz.prog 35 3:=⟨by kernel_rfl⟩
instance zt_3:ZT Tryz.prog 3 (.int .i64 0):=⟨Tryz.t3,by kernel_rfl,by kernel_rfl⟩
instance zt_35:ZT Tryz.prog 35 (.agg #[(.int .i64 0),(.int .u64 0),(.int .u64 0)]):=⟨Tryz.t35,by kernel_rfl,by kernel_rfl⟩
end F_IRRef09
def zB1.b2 (Q:Bool→K)  (X2:Int→K) (a2_2:Addr) (b3_2:Addr) (i5_2:Int):K :=
 Ld (a2_2.add 9) Sl.val fun t30 =>
 Ite (decide (i5_2 < (t30.n:Int)))
  (Dr <|
  Ld (a2_2.add 9) Sl.val fun t36 =>
  Idx t36 i5_2 3 fun t38 =>
  LdN t38 3 fun t39 =>
  Ld (b3_2.add 9) Sl.val fun t41 =>
  Idx t41 i5_2 3 fun t43 =>
  LdN t43 3 fun t44 =>
  Pu Tryz.prog (do eqGuard .neq 84 (.tmp 39) (.tmp 44) (.agg t39) (.agg t44); binOp .neq 84 (.agg t39) (.agg t44):Sem Value) Value.bool fun t45 =>
  Ite t45
   (Q false)
   (Ar (IntKind.wrap .i64 (i5_2 + 1)) fun t34 =>
   X2 t34))
  (Q true)
def zB1.s1 (Q:Bool→K)  (a2_1:Addr) (b3_1:Addr) (t27_1:Bool):K :=
 Ite t27_1
  (Q false)
  (LoopK (α:=Int) (fun X x=>zB1.b2 Q X a2_1 b3_1 x) 0)
def zB1 (a0:(Array Value)) (b1:(Array Value)) (Q:Bool→K):K :=
 New 40 a0 fun a2 =>
 New 40 b1 fun b3 =>
 LdN a2 4 fun t7 =>
 LdN b3 4 fun t9 =>
 Pu Tryz.prog (do eqGuard .neq 37 (.tmp 7) (.tmp 9) (.agg t7) (.agg t9); binOp .neq 37 (.agg t7) (.agg t9):Sem Value) Value.bool fun t10 =>
 Ite t10
  (zB1.s1 Q a2 b3 true)
  (LdN (a2.add 4) 5 fun t13 =>
  LdN (b3.add 4) 5 fun t15 =>
  zAr.call t13 t15 fun t16 =>
  Ite (!t16)
   (zB1.s1 Q a2 b3 true)
   (Ld (a2.add 9) Sl.val fun t21 =>
   Ld (b3.add 9) Sl.val fun t24 =>
   zB1.s1 Q a2 b3 (decide ((t21.n:Int) ≠ (t24.n:Int)))))
theorem zND (a0:(Array Value)) (b1:(Array Value)) (Q:Bool→K) (w:World) (h:zB1 a0 b1 Q w):zB1.call a0 b1 Q w:=by
 have hL4:∀ (a2_2:Addr) (b3_2:Addr),LH 4 (fun x:Int=>[(2,(.pointer (some a2_2))),(3,(.pointer (some b3_2))),(5,(.int .i64 x))]) (fun X x=>zB1.b2 Q X a2_2 b3_2 x):=by intros; exact ⟨⟩
 have hJ2:JH 2 fun D=>∃ (a2_1:Addr) (b3_1:Addr),D [(2,(.pointer (some a2_1))),(3,(.pointer (some b3_1)))] (fun C=>∀ (t27_1:Bool),C [(2,(.pointer (some a2_1))),(3,(.pointer (some b3_1))),(27,(.bool t27_1))] (zB1.s1 Q a2_1 b3_1 t27_1)):=by intros; exact ⟨fun _ ⟨_,_,h⟩=>⟨_,_,h⟩⟩
 exact g_walk 46 h Tryz.func22
def zA5.s3 (Q:Bool→K) (X2:Int→K) (regions1_3:Int) (o2_3:Addr) (keys6_3:Sl) (i7_3:Int) (t92_3:Bool):K :=
 Ite t92_3
  (Q false)
  (Ar (IntKind.wrap .i64 (i7_3 + 1)) fun t62 =>
  X2 t62)
def zA5.b2 (Q:Bool→K)  (X2:Int→K) (regions1_2:Int) (o2_2:Addr) (keys6_2:Sl) (i7_2:Int):K :=
 Ite (decide (i7_2 < (keys6_2.n:Int)))
  (Dr <|
  Ld (o2_2.add 9) Sl.val fun t64 =>
  Idx t64 i7_2 3 fun t66 =>
  Ld t66 Value.string fun t68 =>
  Idx keys6_2 i7_2 1 fun t71 =>
  Ld t71 Value.string fun t72 =>
  Ite (!(t68.toList == t72.toList))
   (zA5.s3 Q X2 regions1_2 o2_2 keys6_2 i7_2 true)
   (Ld (o2_2.add 9) Sl.val fun t76 =>
   Idx t76 i7_2 3 fun t78 =>
   Ld (t78.add 1) (Value.int .i64) fun t80 =>
   Ite (decide (t80 < 0))
    (zA5.s3 Q X2 regions1_2 o2_2 keys6_2 i7_2 true)
    (Ld (o2_2.add 9) Sl.val fun t85 =>
    Idx t85 i7_2 3 fun t87 =>
    Ld (t87.add 1) (Value.int .i64) fun t89 =>
    zA5.s3 Q X2 regions1_2 o2_2 keys6_2 i7_2 (decide (regions1_2 ≤ t89)))))
  (Q true)
def zA5.s1 (Q:Bool→K)  (regions1_1:Int) (o2_1:Addr) (t47_1:Bool):K :=
 Ite t47_1
  (Q false)
  (LdN (o2_1.add 4) 5 fun t49 =>
  zA4.call t49 fun t50 =>
  Ld (o2_1.add 9) Sl.val fun t52 =>
  Ite (decide ((t52.n:Int) ≠ (t50.n:Int)))
   (Q false)
   (LoopK (α:=Int) (fun X x=>zA5.b2 Q X regions1_1 o2_1 t50 x) 0))
def zA5 (o0:(Array Value)) (regions1:Int) (Q:Bool→K):K :=
 New 40 o0 fun o2 =>
 LdN o2 3 fun t10 =>
 New 35 #[(.int .i64 0),(.int .u64 0),(.int .u64 0)] fun id5 =>
 StN id5 3 t10 <|
 LdN (o2.add 4) 5 fun t12 =>
 zAJ.call t12 regions1 fun t14 =>
 Ite (!t14)
  (zA5.s1 Q regions1 o2 true)
  (Ld id5 (Value.int .i64) fun t18 =>
  Ite (decide (t18 < 0))
   (zA5.s1 Q regions1 o2 true)
   (Ld id5 (Value.int .i64) fun t23 =>
   Ite (decide ((8:Int) < t23))
    (zA5.s1 Q regions1 o2 true)
    (Ld (id5.add 1) (Value.int .u64) fun t28 =>
    Ite (decide (t28 = 0))
     (zA5.s1 Q regions1 o2 true)
     (Ld (id5.add 2) (Value.int .u64) fun t33 =>
     Ite (decide (t33 = 0))
      (zA5.s1 Q regions1 o2 true)
      (Ld (o2.add 3) (Value.int .i64) fun t39 =>
      Ite (decide (t39 < 0))
       (zA5.s1 Q regions1 o2 true)
       (Ld (o2.add 3) (Value.int .i64) fun t45 =>
       zA5.s1 Q regions1 o2 (decide ((2:Int) < t45))))))))
theorem zME (o0:(Array Value)) (regions1:Int) (Q:Bool→K) (w:World) (h:zA5 o0 regions1 Q w):zA5.call o0 regions1 Q w:=by
 have hJ11:∀ (X2:Int→K),XH 8 X2→JH 11 fun D=>∃ (regions1_3:Int) (o2_3:Addr) (keys6_3:Sl) (i7_3:Int),D [(1,(.int .i64 regions1_3)),(2,(.pointer (some o2_3))),(6,(Sl.val keys6_3)),(7,(.int .i64 i7_3))] (fun C=>∀ (t92_3:Bool),C [(1,(.int .i64 regions1_3)),(2,(.pointer (some o2_3))),(6,(Sl.val keys6_3)),(7,(.int .i64 i7_3)),(92,(.bool t92_3))] (zA5.s3 Q X2 regions1_3 o2_3 keys6_3 i7_3 t92_3)):=by intros; exact ⟨fun _ ⟨_,_,_,_,h⟩=>⟨_,_,h⟩⟩
 have hL8:∀ (regions1_2:Int) (o2_2:Addr) (keys6_2:Sl),LH 8 (fun x:Int=>[(1,(.int .i64 regions1_2)),(2,(.pointer (some o2_2))),(6,(Sl.val keys6_2)),(7,(.int .i64 x))]) (fun X x=>zA5.b2 Q X regions1_2 o2_2 keys6_2 x):=by intros; exact ⟨⟩
 have hJ3:JH 3 fun D=>∃ (regions1_1:Int) (o2_1:Addr),D [(1,(.int .i64 regions1_1)),(2,(.pointer (some o2_1)))] (fun C=>∀ (t47_1:Bool),C [(1,(.int .i64 regions1_1)),(2,(.pointer (some o2_1))),(47,(.bool t47_1))] (zA5.s1 Q regions1_1 o2_1 t47_1)):=by intros; exact ⟨fun _ ⟨_,_,h⟩=>⟨_,_,h⟩⟩
 exact g_walk 93 h Tryz.func23
def zCP.s1 (Q:Bool→K)  (t2_1:Bool):K :=
 Q t2_1
def zCP (i0:(Array Value)) (Q:Bool→K):K :=
 New 48 i0 fun i1 =>
 LdN (i1.add 2) 10 fun t4 =>
 zA5.call t4 3 fun t5 =>
 Ite (!t5)
  (Q false)
  (Ld i1 (Value.int .i64) fun t8 =>
  Ite (decide (t8 = 1))
   (Ld (i1.add 1) (Value.int .i64) fun t12 =>
   Ite (decide (t12 = 0))
    (zCP.s1 Q true)
    (Ld i1 (Value.int .i64) fun t17 =>
    Ite (decide (t17 = 2))
     (Ld (i1.add 1) (Value.int .i64) fun t21 =>
     Ite (decide ((0:Int) ≤ t21))
      (Ld (i1.add 1) (Value.int .i64) fun t26 =>
      zCP.s1 Q (decide (t26 < 64)))
      (zCP.s1 Q false))
     (zCP.s1 Q false)))
   (Ld i1 (Value.int .i64) fun t17 =>
   Ite (decide (t17 = 2))
    (Ld (i1.add 1) (Value.int .i64) fun t21 =>
    Ite (decide ((0:Int) ≤ t21))
     (Ld (i1.add 1) (Value.int .i64) fun t26 =>
     zCP.s1 Q (decide (t26 < 64)))
     (zCP.s1 Q false))
    (zCP.s1 Q false)))
def zGf.b1 (Q:Bool→K)  (X1:Int→K) (region1_1:Int) (h5_1:Sl) (i6_1:Int):K :=
 Ite (decide (i6_1 < (h5_1.n:Int)))
  (Idx h5_1 i6_1 1 fun t17 =>
  Ld t17 (Value.int .i64) fun t18 =>
  Ite (decide (t18 = region1_1))
   (Q true)
   (Ar (IntKind.wrap .i64 (i6_1 + 1)) fun t14 =>
   X1 t14))
  (Q false)
def zGf (o0:(Array Value)) (region1:Int) (Q:Bool→K):K :=
 New 40 o0 fun o2 =>
 LdN o2 10 fun t7 =>
 zBn.call t7 fun t8 =>
 LoopK (α:=Int) (fun X x=>zGf.b1 Q X region1 t8 x) 0
def zFb.s1 (Q:Bool→K)  (t2_1:Bool):K :=
 Q t2_1
def zFb (o0:(Array Value)) (Q:Bool→K):K :=
 New 40 o0 fun o1 =>
 Ld (o1.add 4) (Value.int .i64) fun t5 =>
 Ite (decide (t5 = 1))
  (LdN o1 10 fun t8 =>
  zBn.call t8 fun t9 =>
  zFb.s1 Q (decide ((t9.n:Int) = 1)))
  (zFb.s1 Q false)
def zBn.s2 (Q:Sl→K) (X1:Sl→Int→K) (o1_2:Addr) (out3_2:Sl) (i4_2:Int):K :=
 Ar (IntKind.wrap .i64 (i4_2 + 1)) fun t17 =>
 X1 out3_2 t17
def zBn.s4 (Q:Sl→K) (X1:Sl→Int→K) (X3:Bool→Int→K) (o1_4:Addr) (out3_4:Sl) (i4_4:Int) (h5_4:Int) (known6_4:Bool) (k7_4:Int):K :=
 Ar (IntKind.wrap .i64 (k7_4 + 1)) fun t29 =>
 X3 known6_4 t29
def zBn.s6 (Q:Sl→K) (X1:Sl→Int→K) (X3:Bool→Int→K) (X5:Int→K) (o1_6:Addr) (out3_6:Sl) (i4_6:Int) (k8_6:Int) (t60_6:Bool):K :=
 Ite t60_6
  (Idx out3_6 k8_6 1 fun t65 =>
  Ld t65 (Value.int .i64) fun t66 =>
  Ar (IntKind.wrap .i64 (k8_6 - 1)) fun t71 =>
  Idx out3_6 t71 1 fun t72 =>
  Ld t72 (Value.int .i64) fun t73 =>
  Idx out3_6 k8_6 1 fun t74 =>
  St t74 (.int .i64 t73) <|
  Ar (IntKind.wrap .i64 (k8_6 - 1)) fun t77 =>
  Idx out3_6 t77 1 fun t79 =>
  St t79 (.int .i64 t66) <|
  Ar (IntKind.wrap .i64 (k8_6 - 1)) fun t62 =>
  X5 t62)
  (zBn.s2 Q X1 o1_6 out3_6 i4_6)
def zBn.b5 (Q:Sl→K) (X1:Sl→Int→K) (X3:Bool→Int→K) (X5:Int→K) (o1_5:Addr) (out3_5:Sl) (i4_5:Int) (k8_5:Int):K :=
 Dr <|
 Ite (decide ((0:Int) < k8_5))
  (Idx out3_5 k8_5 1 fun t52 =>
  Ld t52 (Value.int .i64) fun t53 =>
  Ar (IntKind.wrap .i64 (k8_5 - 1)) fun t56 =>
  Idx out3_5 t56 1 fun t57 =>
  Ld t57 (Value.int .i64) fun t58 =>
  zBn.s6 Q X1 X3 X5 o1_5 out3_5 i4_5 k8_5 (decide (t53 < t58)))
  (zBn.s6 Q X1 X3 X5 o1_5 out3_5 i4_5 k8_5 false)
def zBn.b3 (Q:Sl→K) (X1:Sl→Int→K) (X3:Bool→Int→K) (o1_3:Addr) (out3_3:Sl) (i4_3:Int) (h5_3:Int) (known6_3:Bool) (k7_3:Int):K :=
 Ite (decide (k7_3 < (out3_3.n:Int)))
  (Ite known6_3
   (zBn.s4 Q X1 X3 o1_3 out3_3 i4_3 h5_3 true k7_3)
   (Idx out3_3 k7_3 1 fun t34 =>
   Ld t34 (Value.int .i64) fun t35 =>
   zBn.s4 Q X1 X3 o1_3 out3_3 i4_3 h5_3 (decide (t35 = h5_3)) k7_3))
  (Ite known6_3
   (zBn.s2 Q X1 o1_3 out3_3 i4_3)
   (New 3 #[(.int .i64 h5_3)] fun t42 =>
   Do Tryz.prog (Builtin.append_ #[42,42] 42 #[(Sl.val out3_3),(Sl.val (Sl.mk (some t42) 1 1))]) Sl.val fun t43 =>
   Ar (IntKind.wrap .i64 ((t43.n:Int) - 1)) fun t46 =>
   LoopK (α:=Int) (fun X x=>zBn.b5 Q X1 X3 X o1_3 t43 i4_3 x) t46))
def zBn.b1 (Q:Sl→K)  (X1:Sl→Int→K) (o1_1:Addr) (out3_1:Sl) (i4_1:Int):K :=
 Ld (o1_1.add 9) Sl.val fun t13 =>
 Ite (decide (i4_1 < (t13.n:Int)))
  (Ld (o1_1.add 9) Sl.val fun t19 =>
  Idx t19 i4_1 3 fun t21 =>
  Ld (t21.add 1) (Value.int .i64) fun t23 =>
  LoopK (α:=Bool×Int) (fun X x=>zBn.b3 Q X1 (fun known6_3 k7_3=>X (known6_3,k7_3)) o1_1 out3_1 i4_1 t23 x.1 x.2) (false,0))
  (Ite (decide ((out3_1.n:Int) = 0))
   (New 3 #[(.int .i64 0)] fun t83 =>
   Q (Sl.mk (some t83) 1 1))
   (Q out3_1))
def zBn (o0:(Array Value)) (Q:Sl→K):K :=
 New 40 o0 fun o1 =>
 New 3 #[] fun t10 =>
 LoopK (α:=Sl×Int) (fun X x=>zBn.b1 Q (fun out3_1 i4_1=>X (out3_1,i4_1)) o1 x.1 x.2) ((Sl.mk (some t10) 0 0),0)
end Go.Proofs.YtdemfamgieonbaaGreat
namespace Go.Proofs.YtdemfamgieonbaaGreat
open Go Go.Sep
set_option maxRecDepth 100000
abbrev SlI (s:Sl) (L:List Int):HProp:=SlC ty_int 1 s (L.map (Value.int .i64))
section
variable {B:World} {Γ Δ:List HProp} {k:K}
theorem zOp {s:Sl} {L:List Int} {Q:Sl→K} (hL:L.length < 100000000) (h:∀ s',HG B (SlI s' (cmpct L)::Γ) (Q s')):HG B (SlI s L::Γ) (zAY.call s Q):=by
 refine fun w hw=>zF9 _ _ _ ?_
 refine hg hw ?_
 clear hw w
 unfold zAY
 refine s_cap s fun a1 a2 a3 a4=>?_
 rw [List.length_map,Nat.mul_one] at a1
 refine s_ite (fun hb=>?_) fun hb=>?_
 ·have e:cmpct L = L:=by
   match L,a1 with
   | [],_=>rfl
   | [x],_=>rfl
   | x::y::L,a1=>simp only [List.length_cons] at a1; simp only [decide_eq_true_eq] at hb; omega
  rw [e] at h
  exact h s
 have hn2:2 ≤ L.length:=by simp only [decide_eq_false_iff_not] at hb; omega
 refine zCm (α:=Int) (fun x=>∃ i:Nat,x = (i:Int)∧1 ≤ i∧i ≤ L.length∧cmpct (L.take i) = L.take i) (fun x=>L.length - x.toNat) ⟨1,rfl,Nat.le_refl _,by omega,?_⟩ fun k' x hx hk'=>?_
 ·match L,hn2 with
  | x::L,_=>simp [cmpct]
 obtain ⟨i,rfl,hi1,hi,hc⟩:=hx
 unfold zAY.b1
 refine s_ite (fun hb2=>?_) fun hb2=>?_
 rotate_left
 ·have hil:i = L.length:=by simp only [decide_eq_false_iff_not] at hb2; omega
  rw [hil,List.take_length] at hc
  rw [hc] at h
  exact h s
 have hil:i < L.length:=by simp only [decide_eq_true_eq] at hb2; omega
 obtain ⟨j,rfl⟩:∃ j,i = j + 1:=⟨i - 1,by omega⟩
 have step:∀ m,m + 1 < L.length→cmpct (L.take (m + 2)) = if L[m + 1]? = L[m]? then cmpct (L.take (m + 1)) else cmpct (L.take (m + 1))++L[m + 1]?.toList:=fun m hm=>by
  have t1:L.take (m + 2) = L.take m++[L[m],L[m + 1]]:=by rw [List.take_succ_eq_append_getElem hm,List.take_succ_eq_append_getElem (by omega),List.append_assoc]; rfl
  have t2:L.take (m + 1) = L.take m++[L[m]]:=List.take_succ_eq_append_getElem (by omega)
  rw [t1,t2,zGK,List.getElem?_eq_getElem hm,List.getElem?_eq_getElem (show m < L.length by omega)]
  simp
 obtain ⟨a,ha⟩:∃ a,L[j + 1]? = some a:=⟨_,List.getElem?_eq_getElem hil⟩
 obtain ⟨b,hb'⟩:∃ b,L[j]? = some b:=⟨_,List.getElem?_eq_getElem (by omega)⟩
 refine s_dr ?_
 refine s_idx1 (c:=Value.int .i64) (L:=L) (j:=j + 1) (fun w hw=>(own_rd (s:=s) hw).1) ha ?_ rfl
 refine s_ai ?_
 refine s_idx1 (c:=Value.int .i64) (L:=L) (j:=j) (fun w hw=>(own_rd (s:=s) hw).1) hb' ?_ (by omega)
 have hst:=step j hil
 rw [ha,hb'] at hst
 refine s_ite (fun he=>?_) fun he=>?_
 rotate_left
 ·have hne:¬ some a = some b:=by simpa using he
  rw [if_neg hne] at hst
  refine s_ai ?_
  refine hk' _ ⟨j + 2,by simp; omega,by omega,hil,?_⟩ (by omega)
  rw [hst,hc,List.take_succ_eq_append_getElem hil]
  rw [List.getElem?_eq_getElem hil] at ha
  rw [Option.some.inj ha]; rfl
 have hab:some a = some b:=by simpa using he
 rw [if_pos hab,hc] at hst
 refine s_slc (lo:=j + 1) (hi:=s.n) (mx:=s.c) ?_
 refine s_loop (α:=Int×Int) (ι:=Nat×Nat×List Int) (fun y i=>y.1 = (i.1:Int)∧y.2 = (i.2.1:Int)∧1 ≤ i.2.1∧j + 1 + i.2.1 ≤ L.length∧i.1 < j + 1 + i.2.1∧i.2.2.length = L.length∧i.2.2.drop (j + i.2.1) = L.drop (j + i.2.1)∧i.2.2.take i.1 = cmpct (L.take (j + 1 + i.2.1)))
  (fun y i=>SlI s i.2.2::Γ) (fun y i=>L.length - i.2.1) (j + 1,1,L) ⟨rfl,rfl,Nat.le_refl _,by simp only; omega,by simp only; omega,rfl,rfl,hst.symm⟩ ?_
 rintro k2 ⟨_,_⟩ ⟨p,q,M⟩ ⟨rfl,rfl,hq1,hq,hpq,hM,hd,ht⟩ hk2
 simp only at hq1 hq hpq hM hd ht hk2 ⊢
 unfold zAY.b2
 simp only
 refine s_cap s fun d1 d2 d3 d4=>?_
 rw [List.length_map,Nat.mul_one] at d1
 refine s_ite (fun hb3=>?_) fun hb3=>?_
 ·have hql:j + 1 + q < L.length:=by simp only [decide_eq_true_eq] at hb3; omega
  obtain ⟨x,hx⟩:∃ x,L[j + 1 + q]? = some x:=⟨_,List.getElem?_eq_getElem hql⟩
  obtain ⟨y,hy⟩:∃ y,L[j + q]? = some y:=⟨_,List.getElem?_eq_getElem (by omega)⟩
  have hMx:M[j + 1 + q]? = some x:=by
   have:=congrArg (·[1]?) hd
   simp only [List.getElem?_drop] at this
   rw [show j + q + 1 = j + 1 + q by omega] at this
   rw [this,hx]
  have hMy:M[j + q]? = some y:=by
   have:=congrArg (·[0]?) hd
   simp only [List.getElem?_drop,Nat.add_zero] at this
   rw [this,hy]
  have hrd:∀ w,Holds B (SlI s M::Γ) w→RdC w ⟨cutA s.a (j + 1) s.c 1,s.n - (j + 1),s.c - (j + 1)⟩ 1 ((M.drop (j + 1)).map (Value.int .i64)):=fun w hw=>by
   have:=(own_rd (s:=s) hw).1.drop (l:=j + 1) (c:=s.c) (by omega) d2 d3
   rwa [Nat.mul_one,← List.map_drop] at this
  have hst2:=step (j + q) (by omega)
  rw [show j + q + 1 = j + 1 + q by omega,hx,hy,show j + q + 2 = j + 1 + (q + 1) by omega] at hst2
  refine s_dr ?_
  refine s_idx1 (c:=Value.int .i64) (L:=M.drop (j + 1)) (j:=q) hrd (by rw [List.getElem?_drop]; exact hMx) ?_ rfl
  refine s_ai ?_
  refine s_idx1 (c:=Value.int .i64) (L:=M.drop (j + 1)) (j:=q - 1) hrd (by rw [List.getElem?_drop,show j + 1 + (q - 1) = j + q by omega]; exact hMy) ?_ (by omega)
  unfold zAY.s3
  refine s_ite (fun he2=>?_) fun he2=>?_
  ·have hne:¬ some x = some y:=by simpa using he2
   rw [if_neg hne] at hst2
   refine s_idx1 (c:=Value.int .i64) (L:=M.drop (j + 1)) (j:=q) hrd (by rw [List.getElem?_drop]; exact hMx) ?_ rfl
   refine s_idx (s:=s) (i:=p) ?_
   rw [← add0 (elA s p 1)]
   refine s_stE (s:=s) ?_ (by simp; omega)
   rw [show p * 1 + 0 = p by omega,show Value.int .i64 x = (Value.int .i64) x from rfl,← List.map_set]
   refine s_ai ?_
   refine s_ai ?_
   refine hk2 _ (p + 1,q + 1,M.set p x) ⟨by simp,by simp,by simp only; omega,by simp only; omega,by simp only; omega,by simpa using hM,?_,?_⟩ (by simp only; omega)
   ·simp only
    rw [List.drop_set_of_lt (by omega),show j + (q + 1) = (j + q) + 1 by omega,← List.drop_drop,hd,List.drop_drop]
   ·simp only
    rw [zIA (by omega),ht,hst2]; rfl
  ·have heq:some x = some y:=by simpa using he2
   rw [if_pos heq] at hst2
   refine s_ai ?_
   refine hk2 _ (p,q + 1,M) ⟨rfl,by simp,by simp only; omega,by simp only; omega,by simp only; omega,hM,?_,?_⟩ (by simp only; omega)
   ·simp only
    rw [show j + (q + 1) = (j + q) + 1 by omega,← List.drop_drop,hd,List.drop_drop]
   ·simp only
    rw [ht,hst2]
 ·have hql:j + 1 + q = L.length:=by simp only [decide_eq_false_iff_not] at hb3; omega
  rw [hql,List.take_length] at ht
  refine s_slc (lo:=p) (hi:=s.n) (mx:=s.c) ?_
  refine zD6 (s:=s) (m:=p) (c':=s.c) (by omega) (by omega) (Nat.le_refl _) ?_
  rw [show (M.map (Value.int .i64)).take (p * 1) = (cmpct L).map (Value.int .i64) by rw [Nat.mul_one,← List.map_take,ht]]
  refine zHI (s:=⟨s.a,p,s.c⟩) (l:=p) (q:=s.n - p) (m:=s.c) rfl (Nat.le_refl _) (by simp only; omega) (by omega) ?_
  refine s_slc (lo:=0) (hi:=p) (mx:=s.c) ?_
  rw [cut0 d3]
  exact h ⟨s.a,p,s.c⟩
def homesM (L:List MkX):List Int:=cmpct (sortI (if L.length = 0 then [0] else L.map MkX.home))
theorem zJK (L:List Int):(sortI L).length = L.length:=(List.mergeSort_perm L _).length_eq
theorem zKn {ms:Sl} {L:List MkX} {pre:List Value} {Q:Sl→K} (hpre:pre.length = 9) (hr:∀ w,Holds B Γ w→RdC w ms 3 (L.flatMap mkL)) (hL:L.length ≤ 1000) (h:∀ s,HG B (SlI s (homesM L)::Γ) (Q s)):HG B Γ (zBM.call (pre++[ms.val]).toArray Q):=fun w hw=>by
 refine zL1 _ _ _ ?_
 have hn:ms.n = L.length:=rd_len zCa (by omega) (hr w hw)
 refine Sep.hg hw ?_
 clear hw w
 unfold zBM
 refine s_new fun o1=>?_
 refine s_ld (b:=o1) (x:=ms) ?_ (by rw [nth_eq,List.getElem?_append_right (by omega),hpre]; rfl)
 refine s_end (Δ:=Γ) ?_
 have fin:∀ (s:Sl) (H:List Int),H = (if L.length = 0 then [0] else L.map MkX.home)→H.length ≤ 1001→HG B (SlI s H::Γ) (zBM.s2 Q (fun _ _=>Q s) s):=fun s H hH hl=>by
  unfold zBM.s2
  refine fun w hw=>zJ3 (by omega) hw fun w hw=>?_
  refine Sep.hg hw ?_
  clear hw w
  refine zOp (by rw [zJK]; omega) fun s'=>?_
  have:=h s'
  unfold homesM at this
  rw [← hH] at this
  exact this
 refine s_nilS (E:=ty_int) (esz:=1) (vs:=([]:List Int).map (Value.int .i64)) ?_
 refine s_loop (α:=Sl×Int) (ι:=Nat) (fun x i=>x.2 = (i:Int)∧i ≤ L.length) (fun x i=>SlI x.1 ((L.take i).map MkX.home)::Γ) (fun x i=>L.length - i) 0 ⟨rfl,Nat.zero_le _⟩ ?_
 rintro k' ⟨o,_⟩ i ⟨rfl,hi⟩ hk'
 simp only at hi hk' ⊢
 refine s_cap o fun b1 b2 b3 b4=>?_
 rw [List.length_map,List.length_map,List.length_take] at b1
 unfold zBM.b1
 refine s_ite (fun hb=>?_) fun hb=>?_
 ·have hil:i < L.length:=by simp only [decide_eq_true_eq] at hb; omega
  have hge:L[i]? = some L[i]:=List.getElem?_eq_getElem hil
  have htk:L.take (i + 1) = L.take i++[L[i]]:=List.take_succ_eq_append_getElem hil
  generalize L[i] = m at hge htk
  refine s_idxN mkL zCa (fun w hw=>hr w hw.drops) hge ?_
  refine s_new fun m4=>?_
  repeat refine s_nx ?_
  refine s_app1 (s:=o) (m:=1) (us:=[.int .i64 m.home]) (fun o2 ho2=>?_)
  refine s_ai ?_
  rw [show ((L.take i).map MkX.home).map (Value.int .i64)++[.int .i64 m.home] = ((L.take (i + 1)).map MkX.home).map (Value.int .i64) by rw [htk]; simp]
  exact s_end (hk' (o2,(i:Int) + 1) (i + 1) ⟨by simp,hil⟩ (by omega))
 ·have hil:i = L.length:=by simp only [decide_eq_false_iff_not] at hb; omega
  rw [hil,List.take_length]
  have fin2:∀ (X1:Sl→Int→K) (s:Sl) (H:List Int),H = (if L.length = 0 then [0] else L.map MkX.home)→H.length ≤ 1001→HG B (SlI s H::Γ) (zBM.s2 Q X1 s):=fun X1 s H hH hl=>by
   have:=fin s H hH hl
   unfold zBM.s2 at this ⊢
   exact this
  refine s_ite (fun hc=>?_) fun hc=>?_
  ·have h0:L.length = 0:=by simp only [decide_eq_true_eq] at hc; omega
   refine s_new fun t21=>?_
   refine s_conv (A':=SlI ⟨some ⟨t21,0,none⟩,1,1⟩ [0]) (zDk (vs:=[.int .i64 0]) rfl (by simp)) ?_
   exact s_end (fin2 _ _ [0] (by rw [if_pos h0]) (by simp))
  ·have h0:L.length ≠ 0:=by simp only [decide_eq_false_iff_not] at hc; omega
   exact fin2 _ o _ (by rw [if_neg h0]) (by rw [List.length_map]; omega)
theorem zRM {a b c d:Int} {t:TxX} {ms:Sl} {L:List MkX} {Q:Bool→K} (hr:∀ w,Holds B Γ w→RdC w ms 3 (L.flatMap mkL)) (hL:L.length ≤ 1000) (h:HG B Γ (Q (decide (t.kind = 1) && decide ((homesM L).length = 1)))):HG B Γ (zB8.call (orL a b c d t ms).toArray Q):=fun w hw=>by
 refine zLE _ _ _ ?_
 refine Sep.hg hw ?_
 clear hw w
 unfold zB8
 refine s_new fun o1=>?_
 repeat refine s_nx ?_
 unfold zB8.s1
 refine s_ite (fun hb=>?_) fun hb=>?_
 ·repeat refine s_nx ?_
  refine zKn (pre:=[.int .i64 a,.int .u64 b,.int .u64 c,.int .i64 d,.int .i64 t.kind,t.rs.val,t.ws.val,t.os.val,.int .i64 t.to]) (L:=L) rfl (fun w hw=>hr w hw.drops) hL fun s=>?_
  refine s_cap s fun b1 b2 b3 b4=>?_
  rw [List.length_map,Nat.mul_one] at b1
  rw [hb,Bool.true_and] at h
  rw [show decide ((s.n:Int) = 1) = decide ((homesM L).length = 1) from decide_eq_decide.2 (by omega)]
  exact s_end h
 ·rw [hb,Bool.false_and] at h
  exact s_end h
end
end Go.Proofs.YtdemfamgieonbaaGreat
namespace Go.Proofs.YtdemfamgieonbaaGreat
open Go Go.Sep
set_option maxRecDepth 100000
structure FilM where
 last:Int
 seen:List TagM
structure FilD (S:List TagM) (N:Nat) (D:List (TagM×Int)):Prop where
 keys:D.map Prod.fst = S
 once:S.Nodup
 cnt:∀ p ∈ D,1 ≤ p.2∧p.2 ≤ N
abbrev filL (rg last:Int) (m:Nat):List Value:=[.int .i64 rg,.int .i64 last,.map (some m)]
def FilR (fb:Nat) (rg:Int) (N:Nat) (f:FilM):HProp:=ex fun m=>ex fun D:List (TagM×Int)=>Sep.stars [pur (FilD f.seen N D),blk fb (.cells (filL rg f.last m).toArray zCb (0,0)),MapR (kyS tagF) (Value.int .i64) m D]
def firstM (tag:TagM) (S:List TagM):List TagM:=if tag ∈ S then S else S++[tag]
def itemIn (rg:Int) (f:FilM) (kind ix:Int) (tag:TagM) (homes:List Int) (single:Bool):FilM×Bool :=
 if rg ∉ homes then (f,false) else
 if kind = 1∧single = true then ({ f with seen:=firstM tag f.seen },!decide (tag ∈ f.seen)) else
 if kind = 2∧single = false∧f.last < ix then ({ f with last:=ix },true) else (f,false)
section
variable {B:World} {Γ Δ:List HProp} {fb N:Nat} {rg:Int} {f:FilM} {k:K}
theorem s_fil (h:∀ m D,FilD f.seen N D→HG B (blk fb (.cells (filL rg f.last m).toArray zCb (0,0))::MapR (kyS tagF) (Value.int .i64) m D::Γ) k):HG B (FilR fb rg N f::Γ) k :=
 s_ex fun m=>s_ex fun D=>s_flat <| s_pur fun h1=>h m D h1
theorem zHk {m:Nat} {D:List (TagM×Int)} (h1:FilD f.seen N D) (h:HG B (FilR fb rg N f::Γ) k):HG B (blk fb (.cells (filL rg f.last m).toArray zCb (0,0))::MapR (kyS tagF) (Value.int .i64) m D::Γ) k:=fun w hw=>by
 refine h w ?_
 have h3:Holds B (Sep.stars [pur (FilD f.seen N D),blk fb (.cells (filL rg f.last m).toArray zCb (0,0)),MapR (kyS tagF) (Value.int .i64) m D]::Γ) w:=Holds.flat.2 (Holds.pur.2 ⟨h1,hw⟩)
 exact h3.imp fun g hg=>⟨m,D,hg⟩
instance (priority:=high) zVb:Sep.Own fb (FilR fb rg N f::Γ) (FilR fb rg N f) Γ:=⟨.refl _⟩
theorem s_filN {N':Nat} (hN:N ≤ N') (h:HG B (FilR fb rg N' f::Γ) k):HG B (FilR fb rg N f::Γ) k:=s_fil fun m D hD=>zHk ⟨hD.keys,hD.once,fun p hp=>by have:=hD.cnt p hp; omega⟩ h
theorem zRN {q:Option Addr→K} (h:∀ fb,HG B (FilR fb rg 0 ⟨-1,[]⟩::Γ) (q (some ⟨fb,0,none⟩))):HG B Γ (zDN.call rg q):=by
 refine fun w hw=>zGi _ _ _ ?_
 refine hg hw ?_
 clear hw w
 unfold zDN
 refine zFl (enc:=kyS tagF) (cV:=Value.int .i64) fun m=>?_
 refine s_new fun fb=>?_
 exact zHk (f:=⟨-1,[]⟩) (D:=[]) ⟨rfl,by simp,by simp⟩ (h fb)
theorem zRO {D:List (TagM×Int)} {tag:TagM}:(mget tag D).isSome = true ↔ tag ∈ D.map Prod.fst:=by
 induction D with
 | nil=>simp [mget]
 | cons p D ih =>
  unfold mget
  split
  ·rename_i h; simp [h]
  ·rename_i h
   rw [ih]; simp [h]
theorem zMw {α ν:Type} [DecidableEq α] {k:α} {v:ν} {p:α×ν}:∀ {M:List (α×ν)},p ∈ mset k v M→p = (k,v)∨p ∈ M
 | [],h=>by
  unfold mset at h
  exact .inl (List.mem_singleton.1 h)
 | q::M,h=>by
  unfold mset at h
  split at h
  ·rcases List.mem_cons.1 h with h | h
   ·exact .inl h
   ·exact .inr (List.mem_cons_of_mem _ h)
  ·rcases List.mem_cons.1 h with h | h
   ·exact .inr (h ▸ List.mem_cons_self)
   ·exact (zMw h).imp id (List.mem_cons_of_mem _)
theorem zSl {tag:TagM} {q:Bool→K} (hN:N ≤ 1000000000) (h:HG B (FilR fb rg (N + 1) { f with seen:=firstM tag f.seen }::Γ) (q (!decide (tag ∈ f.seen)))):HG B (FilR fb rg N f::Γ) (zCF.call (some ⟨fb,0,none⟩) (tagF tag).toArray q):=by
 refine fun w hw=>zHC _ _ _ _ ?_
 refine hg hw ?_
 clear hw w
 refine s_fil fun m D hD=>?_
 unfold zCF
 refine s_new fun t3=>?_
 have hc:0 ≤ (mget tag D).getD 0∧(mget tag D).getD 0 ≤ N:=by
  cases hg:mget tag D with
  | none=>simp
  | some v=>have:=hD.cnt _ (zF6 hg); simp only [Option.getD_some]; simp only at this; omega
 have hz:(mget tag D).getD 0 = 0 ↔ tag ∉ f.seen:=by
  rw [← hD.keys,← zRO]
  cases hg:mget tag D with
  | none=>simp
  | some v=>have:=hD.cnt _ (zF6 hg); simp only [Option.getD_some,Option.isSome_some,not_true,iff_false]; simp only at this; omega
 refine s_dr ?_
 refine s_wsP (fun w=>w.cell? ((⟨fb,0,none⟩:Addr).add 2) = some (.map (some m))∧RdN w ⟨t3,0,none⟩ (tagF tag).toArray∧(Instr.lookup zEZ (.map (some m)) (kyS tagF tag) false).run Tryz.prog w = .ok (.int .i64 ((mget tag D).getD 0)) w) (fun w hw=>⟨by rw [add_mk]; exact zBr (zDj hw (b:=fb)) rfl,rd_at (b:=t3) (l:=tagF tag) (n:=4) hw,zPi (b:=m) hw zEI zE0⟩) ?_
 refine s_nn ?_
 refine s_ldSP (x:=some m) (fun w hS=>hS.1) ?_
 refine zHj (l:=tagF tag) (fun w hS=>hS.2.1) ?_
 refine s_rdSP (x:=(mget tag D).getD 0) (fun w hS=>hS.2.2) ?_
 refine s_ai ?_
 refine zSj (b:=m) (m:=D) (cV:=Value.int .i64) (z:=(0:Int)) (a:=tag) (fndS zEI) zE0 fun stp=>?_
 refine s_svP (fun w hw=>⟨by rw [add_mk]; exact zBr (zDj hw (b:=fb)) rfl,rd_at (b:=t3) (l:=tagF tag) (n:=4) hw,by
  have h1:=zPi (b:=m) (m:=mset tag ((mget tag D).getD 0) D) (cV:=Value.int .i64) (a:=tag) (T:=zEZ) (EntR.map hw) zEI zE0
  rw [zMu] at h1
  exact h1⟩) ?_
 refine zQK (b:=m) (enc:=kyS tagF) (cV:=Value.int .i64) (m:=D) (z:=(0:Int)) (a:=tag) (v:=(mget tag D).getD 0 + 1) rfl ?_
 refine s_dr ?_
 refine s_ld (b:=fb) (off:=2) (l:=filL rg f.last m) (x:=some m) ?_
 refine s_ldN (b:=t3) (l':=tagF tag) ?_
 refine zKT (b:=m) (m:=mset tag ((mget tag D).getD 0 + 1) D) (cV:=Value.int .i64) (z:=(0:Int)) (a:=tag) zEI zE0 ?_
 rw [zMu,Option.getD_some]
 have e:decide ((mget tag D).getD 0 + 1 = 1) = !decide (tag ∈ f.seen):=by
  by_cases hm:tag ∈ f.seen
  ·have:¬ (mget tag D).getD 0 = 0:=fun h0=>hz.1 h0 hm
   simp [hm]; omega
  ·rw [hz.2 hm]; simp [hm]
 rw [e]
 refine s_own m ?_
 refine s_own fb ?_
 refine zHk (f:={ f with seen:=firstM tag f.seen }) (N:=N + 1) ⟨?_,?_,fun p hp=>?_⟩ (s_end h)
 ·rw [zF5,hD.keys]; rfl
 ·unfold firstM
  split
  ·exact hD.once
  ·rename_i hm
   exact List.nodup_append.2 ⟨hD.once,by simp,fun a ha b hb=>by rw [List.mem_singleton.1 hb]; exact fun e=>hm (e ▸ ha)⟩
 ·rcases zMw hp with rfl | hp
  ·simp only; omega
  ·have:=hD.cnt p hp; omega
theorem containsI {s:Sl} {L:List Int} {x:Int} {q:Bool→K} (hL:L.length < 1000000000) (hr:∀ w,Holds B Γ w→RdC w s 1 (L.map (Value.int .i64))) (h:HG B Γ (q (decide (x ∈ L)))):HG B Γ (zBs.call s x q):=fun w hw=>by
 refine zFo _ _ _ _ ?_
 have hsn:s.n = L.length:=by have:=(hr w hw).len; simpa using this.symm
 refine hg hw ?_
 clear hw w
 unfold zBs
 refine fun w hw=>zGJ _ _ _ _ ?_
 refine hg hw ?_
 clear hw w
 unfold zBf
 refine zCm (α:=Int) (fun y=>∃ i:Nat,y = (i:Int)∧i ≤ L.length∧x ∉ L.take i) (fun y=>L.length - y.toNat) ⟨0,rfl,Nat.zero_le _,by simp⟩ fun k' y hy hk'=>?_
 obtain ⟨i,rfl,hi,hno⟩:=hy
 unfold zBf.b1
 refine s_ite (fun hb=>?_) fun hb=>?_
 ·have hil:i < L.length:=by simp only [decide_eq_true_eq] at hb; omega
  have hge:L[i]? = some L[i]:=List.getElem?_eq_getElem hil
  have hmem:L[i] ∈ L:=List.getElem_mem hil
  have htk:L.take (i + 1) = L.take i++[L[i]]:=List.take_succ_eq_append_getElem hil
  generalize L[i] = z at hge hmem htk
  refine s_idx1 (L:=L) hr hge ?_
  refine s_ite (fun hc=>?_) fun hc=>?_
  ·have hxz:x = z:=by simpa using hc
   show HG B Γ (q (decide ((0:Int) ≤ (i:Int))))
   rw [show decide ((0:Int) ≤ (i:Int)) = decide (x ∈ L) by simp [hxz,hmem]]
   exact h
  ·have hxz:x ≠ z:=by simpa using hc
   refine s_ai ?_
   refine hk' _ ⟨i + 1,by simp,hil,?_⟩ (by omega)
   rw [htk,List.mem_append,List.mem_singleton]
   exact fun hh=>hh.elim hno hxz
 ·have hil:i = L.length:=by simp only [decide_eq_false_iff_not] at hb; omega
  rw [hil,List.take_length] at hno
  show HG B Γ (q (decide ((0:Int) ≤ -1)))
  rw [show decide ((0:Int) ≤ -1) = decide (x ∈ L) by simp [hno]]
  exact h
theorem zQN {kind ix:Int} {tag:TagM} {t:TxX} {ms:Sl} {mks:List MkX} {q:Bool→K} (hm:∀ w,Holds B Γ w→RdC w ms 3 (mks.flatMap mkL)) (hml:mks.length ≤ 1000) (hN:N ≤ 1000000000)
  (h:HG B (FilR fb rg (N + 1) (itemIn rg f kind ix tag (homesM mks) (decide (t.kind = 1) && decide ((homesM mks).length = 1))).1::Γ) (q (itemIn rg f kind ix tag (homesM mks) (decide (t.kind = 1) && decide ((homesM mks).length = 1))).2)) :
  HG B (FilR fb rg N f::Γ) (zAq.call (some ⟨fb,0,none⟩) (.int .i64 kind::.int .i64 ix::orV tag t ms).toArray q):=by
 refine fun w hw=>zHX _ _ _ _ ?_
 refine hg hw ?_
 clear hw w
 have hhl:(homesM mks).length ≤ 100000:=by
  have h1:=zGy (sortI (if mks.length = 0 then [0] else mks.map MkX.home))
  rw [zJK] at h1
  have h2:(if mks.length = 0 then [0] else mks.map MkX.home).length ≤ 1000:=by split <;> simp <;> omega
  unfold homesM
  omega
 generalize hH:homesM mks = H at *
 generalize hS:(decide (t.kind = 1) && decide (H.length = 1)) = sg at *
 refine s_fil fun m D hD=>?_
 unfold zAq
 refine s_new fun i3=>?_
 refine s_dr ?_
 refine s_wsD [blk i3 (.cells (.int .i64 kind::.int .i64 ix::orV tag t ms).toArray zC9 (0,0)),blk fb (.cells (filL rg f.last m).toArray zCb (0,0))] ?_
 refine s_nn ?_
 refine s_ldNS (b:=i3) (off:=2) (l:=.int .i64 kind::.int .i64 ix::orV tag t ms) (l':=orV tag t ms) ?_
 refine s_ldS (b:=fb) (l:=filL rg f.last m) (x:=rg) ?_
 refine zKn (pre:=tagF tag++txL t) (L:=mks) rfl (fun w hw=>hm w hw.drops) (by omega) fun hs=>?_
 rw [hH]
 refine s_sv ?_
 refine containsI (L:=H) (by omega) (fun w hw=>(own_rd (s:=hs) hw).1) ?_
 have back:∀ {X:List HProp} {kk:K} [Drops X (blk fb (.cells (filL rg f.last m).toArray zCb (0,0))::MapR (kyS tagF) (Value.int .i64) m D::Γ)],HG B (FilR fb rg N f::Γ) kk→HG B X kk:=by
  intro X kk d hk
  exact s_end (d:=d) (zHk hD hk)
 by_cases hr:rg ∈ H
 rotate_left
 ·rw [decide_eq_false hr]
  refine s_t ?_
  rw [show itemIn rg f kind ix tag H sg = (f,false) by unfold itemIn; rw [if_pos hr]] at h
  exact back (s_filN (by omega) h)
 rw [decide_eq_true hr]
 refine s_f ?_
 refine s_ldN (b:=i3) (off:=2) (l:=.int .i64 kind::.int .i64 ix::orV tag t ms) (l':=orV tag t ms) ?_
 refine zRM (L:=mks) (fun w hw=>hm w hw.drops) (by omega) ?_
 rw [hH,hS]
 have S2:∀ b:Bool,(b = true ↔ kind = 2∧sg = false∧f.last < ix)→¬ (kind = 1∧sg = true)→HG B (blk i3 (.cells (.int .i64 kind::.int .i64 ix::orV tag t ms).toArray zC9 (0,0))::blk fb (.cells (filL rg f.last m).toArray zCb (0,0))::MapR (kyS tagF) (Value.int .i64) m D::Γ) (zAq.s2 q ⟨fb,0,none⟩ ⟨i3,0,none⟩ b):=fun b hb hn=>by
  unfold zAq.s2
  cases b
  ·refine s_f ?_
   rw [show itemIn rg f kind ix tag H sg = (f,false) by unfold itemIn; rw [if_neg (by simp [hr]),if_neg hn,if_neg fun hh=>by have:=hb.2 hh; cases this]] at h
   exact back (s_filN (by omega) h)
  ·refine s_t ?_
   rw [show itemIn rg f kind ix tag H sg = ({ f with last:=ix },true) by unfold itemIn; rw [if_neg (by simp [hr]),if_neg hn,if_pos (hb.1 rfl)]] at h
   refine s_ld (b:=i3) (off:=1) (l:=.int .i64 kind::.int .i64 ix::orV tag t ms) (x:=ix) ?_
   refine s_st (b:=fb) (l:=filL rg f.last m) (l':=filL rg ix m) ?_ rfl rfl
   refine s_own m ?_
   refine s_own fb ?_
   exact zHk (f:={ f with last:=ix }) (N:=N + 1) ⟨hD.keys,hD.once,fun p hp=>by have:=hD.cnt p hp; omega⟩ (s_end h)
 have S1:∀ b:Bool,(b = true ↔ kind = 1∧sg = true)→HG B (blk i3 (.cells (.int .i64 kind::.int .i64 ix::orV tag t ms).toArray zC9 (0,0))::blk fb (.cells (filL rg f.last m).toArray zCb (0,0))::MapR (kyS tagF) (Value.int .i64) m D::Γ) (zAq.s1 q ⟨fb,0,none⟩ ⟨i3,0,none⟩ sg b):=fun b hb=>by
  unfold zAq.s1
  cases b
  ·have hn:¬ (kind = 1∧sg = true):=fun hh=>by have:=hb.2 hh; cases this
   refine s_f ?_
   refine s_dr ?_
   refine s_ld (b:=i3) (l:=.int .i64 kind::.int .i64 ix::orV tag t ms) (x:=kind) ?_
   refine s_ite (fun h2=>?_) fun h2=>?_
   ·have hk2:kind = 2:=by simpa using h2
    refine s_ite (fun h3=>?_) fun h3=>?_
    ·have hs3:sg = false:=by simpa using h3
     refine s_ld (b:=i3) (off:=1) (l:=.int .i64 kind::.int .i64 ix::orV tag t ms) (x:=ix) ?_
     refine s_ld (b:=fb) (off:=1) (l:=filL rg f.last m) (x:=f.last) ?_
     exact S2 _ (by simp [hk2,hs3]) hn
    ·have hs3:sg = true:=by simpa using h3
     exact S2 false (by simp [hs3]) hn
   ·have hk2:kind ≠ 2:=by simpa using h2
    exact S2 false (by simp [hk2]) hn
  ·have hy:=hb.1 rfl
   refine s_t ?_
   refine s_ldN (b:=i3) (off:=2) (l:=.int .i64 kind::.int .i64 ix::orV tag t ms) (l':=tagF tag) ?_
   refine back ?_
   refine zSl hN ?_
   rw [show itemIn rg f kind ix tag H sg = ({ f with seen:=firstM tag f.seen },!decide (tag ∈ f.seen)) by unfold itemIn; rw [if_neg (by simp [hr]),if_pos hy]] at h
   exact h
 refine s_ld (b:=i3) (l:=.int .i64 kind::.int .i64 ix::orV tag t ms) (x:=kind) ?_
 refine s_ite (fun h1=>?_) fun h1=>?_
 ·have hk1:kind = 1:=by simpa using h1
  exact s_end (S1 sg (by simp [hk1]))
 ·have hk1:kind ≠ 1:=by simpa using h1
  exact s_end (S1 false (by simp [hk1]))
end
end Go.Proofs.YtdemfamgieonbaaGreat
namespace Go.Proofs.YtdemfamgieonbaaGreat
open Go Go.Sep Go.Sep.Bt
set_option maxRecDepth 100000
def canX (t:TxX):TxX:=⟨t.kind,t.reads,t.writes,t.ops.map fun x=>(x.1,⟨none,0,0⟩),t.to,⟨none,0,0⟩,⟨none,0,0⟩,⟨none,0,0⟩⟩
theorem zTx (t:TxX):SameP (canX t) t:=⟨rfl,rfl,rfl,rfl,by simp [canX,Function.comp_def]⟩
theorem zRP {a b:TxX} (h:SameP a b):canX a = canX b:=by
 obtain ⟨h1,h2,h3,h4,h5⟩:=h
 have e:∀ L:List OpX,(L.map fun x=>(x.1,(⟨none,0,0⟩:Sl))) = (L.map Prod.fst).map fun o=>(o,⟨none,0,0⟩):=fun L=>by simp [Function.comp_def]
 unfold canX
 rw [h1,h2,h3,h4,e,e,h5]
structure JobM where
 tag:TagM
 tx:TxX
 mks:List MkX
 need:List Int
structure JobX where
 b:Nat
 tag:TagM
 t:TxX
 ms:Sl
 mks:List MkX
 ns:Sl
 need:List Int
def eraJ (j:JobX):JobM:=⟨j.tag,canX j.t,j.mks,j.need⟩
abbrev jobL (j:JobX):List Value:=[.int .i64 j.tag.node,.int .u64 j.tag.epoch,.int .u64 j.tag.seq,.int .i64 j.tag.tr,.int .i64 j.t.kind,j.t.rs.val,j.t.ws.val,j.t.os.val,.int .i64 j.t.to,j.ms.val,j.ns.val]
abbrev ptrJ (j:JobX):Option Addr:=some ⟨j.b,0,none⟩
abbrev jobC (j:JobX) (Γ:List HProp):List HProp:=blk j.b (.cells (jobL j).toArray zIs (0,0))::SlI j.ns j.need::SlC zAs 3 j.ms (j.mks.flatMap mkL)::txC j.t Γ
def jobO (j:JobX):HProp:=Sep.stars (jobC j [])
structure JobOk (n:Nat) (j:JobX):Prop where
 ord:OrdOk (n:Int) j.tag j.t j.mks
 nn:∀ x ∈ j.t.ops,-9223372036854775808 ≤ x.1.n∧x.1.n ≤ 9223372036854775807
 nl:j.need.length ≤ 1000
structure DcM where
 tag:TagM
 code:Int
 out:OM
structure DcX where
 tag:TagM
 code:Int
 os:Sl
 O:OX
def eraD (d:DcX):DcM:=⟨d.tag,d.code,d.O.map Prod.fst⟩
abbrev dcF (d:DcX):List Value:=[.int .i64 d.tag.node,.int .u64 d.tag.epoch,.int .u64 d.tag.seq,.int .i64 d.tag.tr,.int .i64 d.code,d.os.val]
theorem zTy (d:DcX):(dcF d).length = 6:=rfl
def dcO (d:DcX):HProp:=Sep.stars [SlC zAx 2 d.os (d.O.flatMap oF),Sep.stars (d.O.map oB)]
def takeJ {α:Type} (p:α→Bool):List α→Option (α×List α)
 | []=>none
 | j::J=>if p j then some (j,J) else (takeJ p J).map fun r=>(r.1,j::r.2)
theorem zLQ {α:Type} {p:α→Bool}:∀ {J:List α},(∀ y ∈ J,p y = false)→takeJ p J = none
 | [],_=>rfl
 | j::J,h=>by
  unfold takeJ
  rw [if_neg (by simp [h j List.mem_cons_self]),zLQ fun y hy=>h y (List.mem_cons_of_mem _ hy)]
  rfl
theorem zMx {α:Type} {p:α→Bool} {x:α} {C:List α}:∀ {A:List α},(∀ y ∈ A,p y = false)→p x = true→takeJ p (A++x::C) = some (x,A++C)
 | [],_,h=>by simp [takeJ,h]
 | j::J,h,h2=>by
  rw [List.cons_append]
  unfold takeJ
  rw [if_neg (by simp [h j List.mem_cons_self]),zMx (fun y hy=>h y (List.mem_cons_of_mem _ hy)) h2]
  rfl
def pick (G:GM×DM) (j:JobM):Bool:=decide (j.need = []) && (G.2 j.tag || readyM j.tag G.1)
def workM (n:Nat):Nat→List JobM→Recs→GM×DM→(List JobM×Recs×(GM×DM))×List DcM
 | 0,J,M,G=>((J,M,G),[])
 | f + 1,J,M,G=>match takeJ (pick G) J with
  | none=>((J,M,G),[])
  | some (j,J')=>((workM n f J' (decR n j.tag j.tx M G) (decG n j.tag j.tx M G)).1,⟨j.tag,decC n j.tag j.tx M G,decO n j.tag j.tx M G⟩::(workM n f J' (decR n j.tag j.tx M G) (decG n j.tag j.tx M G)).2)
theorem findS {α:Type} (p:α→Bool):∀ L:List α,(∀ y ∈ L,p y = false)∨∃ A x C,L = A++x::C∧(∀ y ∈ A,p y = false)∧p x = true
 | []=>.inl (by simp)
 | x::L=>by
  cases hx:p x with
  | true=>exact .inr ⟨[],x,L,rfl,by simp,hx⟩
  | false =>
   rcases findS p L with h | ⟨A,y,C,h1,h2,h3⟩
   ·refine .inl fun z hz=>?_
    rcases List.mem_cons.1 hz with rfl | hz
    ·exact hx
    ·exact h z hz
   ·refine .inr ⟨x::A,y,C,by rw [h1]; rfl,fun z hz=>?_,h3⟩
    rcases List.mem_cons.1 hz with rfl | hz
    ·exact hx
    ·exact h2 z hz
theorem idxS {α:Type} {p:α→Bool} {A C:List α} {x:α} (hA:∀ y ∈ A,p y = false) (hx:p x = true):idxI ((A++x::C).findIdx? p) = (A.length:Int):=by
 have:(A++x::C).findIdx? p = some A.length:=by
  rw [List.findIdx?_append,List.findIdx?_eq_none_iff.2 hA]
  simp [List.findIdx?_cons,hx]
 rw [this]; rfl
theorem zSm {n:Nat} {g:TagM} {a b:TxX} {M:Recs} {G:GM×DM} (h:SameP a b):decR n g a M G = decR n g b M G∧decG n g a M G = decG n g b M G∧decC n g a M G = decC n g b M G∧decO n g a M G = decO n g b M G:=by
 have e:=zRH (n:=n) (M:=M) h
 obtain ⟨h1,h2,h3,h4,h5⟩:=h
 unfold decR decG decC decO wrU
 rw [e,h1,h4]
 exact ⟨rfl,rfl,rfl,rfl⟩
theorem zLR {n:Nat}:∀ (W:WM) (M:Recs),(applyM n M W).length ≤ M.length + 2 * W.length
 | [],M=>by simp [applyM]
 | x::W,M=>by
  have h1:=zLO n M x
  have h2:=zLR (n:=n) W (apply1 n M x)
  show (applyM n (apply1 n M x) W).length ≤ _
  simp only [List.length_cons]; omega
theorem zSn {n:Nat} {rg:Int} {g:TagM} {t:TxX} {M:Recs} {G:GM×DM} (hrt:rightT rg t = true):(decR n g t M G).length ≤ M.length + 32:=by
 unfold decR
 split
 ·omega
 ·have:=zLR (n:=n) (wrU n M t) M
  have:=(zPl (n:=n) (M:=M) hrt).1
  omega
section
variable {B:World} {Γ Δ:List HProp} {k:K} {sd st l n:Nat} {M:Recs} {G:GM×DM} {a b c:Sl} {J:List JobX}
theorem s_job {j:JobX} (h:HG B (jobC j Γ) k):HG B (jobO j::Γ) k:=s_flat h
theorem zJy {j:JobX} (h:HG B (jobO j::Γ) k):HG B (jobC j Γ) k:=fun w hw=>h w ((Holds.flat (Δ:=jobC j [])).2 hw)
theorem s_mkDc {d:DcX} (h:HG B (dcO d::Γ) k):HG B (SlC zAx 2 d.os (d.O.flatMap oF)::Sep.stars (d.O.map oB)::Γ) k:=fun w hw=>h w ((Holds.flat (Δ:=[SlC zAx 2 d.os (d.O.flatMap oF),Sep.stars (d.O.map oB)])).2 hw)
theorem zMF {α:Type} {F:α→HProp} {A:List α} {x:α} (h:HG B (Sep.stars ((A++[x]).map F)::Γ) k):HG B (F x::Sep.stars (A.map F)::Γ) k:=by
 refine zCS (A:=A) (C:=[]) ?_ |> fun h=>by rw [List.append_nil] at h; exact h
 exact h
abbrev schP (sd st l n:Nat) (M:Recs) (G:GM×DM) (a b c:Sl) (J:List JobX) (Γ:List HProp):List HProp :=
 blk sd (.cells (sdL st l a b c).toArray zAp (0,0))::LocksR l G.1 G.2::StoreR st n M::SlC zB7 1 c ((J.map ptrJ).map Value.pointer)::Sep.stars (J.map jobO)::Γ
abbrev fiJ (b:Nat):Value:=.func (.func 96) #[] #[.pointer (some ⟨b,0,none⟩)]
abbrev woJ (b:Nat):Value:=.func (.func 97) #[] #[.pointer (some ⟨b,0,none⟩)]
theorem zSo {tag:TagM} {q:Option Addr→K} (hJ:J.length ≤ 1000000) (hno:(∀ j ∈ J,j.tag ≠ tag)→HG B (schP sd st l n M G a b c J Γ) (q none)) (hyes:∀ A j C,J = A++j::C→(∀ y ∈ A,y.tag ≠ tag)→j.tag = tag→HG B (schP sd st l n M G a b c J Γ) (q (ptrJ j))) :
  HG B (schP sd st l n M G a b c J Γ) (zDT.call (some ⟨sd,0,none⟩) (tagF tag).toArray q):=by
 refine fun w hw=>zId _ _ _ _ ?_
 refine hg hw ?_
 clear hw w
 refine s_cap c fun a1 a2 a3 a4=>?_
 rw [List.length_map,List.length_map,Nat.mul_one] at a1
 unfold zDT
 refine s_new fun tb=>?_
 refine s_nn ?_
 refine s_ld (b:=sd) (off:=4) (l:=sdL st l a b c) (x:=c) ?_
 refine fun w hw=>zC8 _ _ _ _ ?_
 refine hg hw ?_
 clear hw w
 show HG B _ (idxFK Tryz.prog (acc1 Value.pointer) c (fiJ tb) _)
 refine zGQ (vV:=fun e:JobX=>.pointer (ptrJ e)) (L:=J) (fun j=>decide (j.tag = tag)) (by omega) (by omega) (fun i x k hx hk=>?_) (fun e q he hq=>?_) ?_
 ·exact s_idx1 (c:=Value.pointer) (fun w hw=>(own_rd (s:=c) hw).1) (by rw [List.getElem?_map,hx]; rfl) hk
 ·obtain ⟨A,C,rfl⟩:=List.append_of_mem he
  refine zEY (cs:=[.pointer (some ⟨tb,0,none⟩)]) ?_
  refine fun w hw=>zHU _ _ _ _ ?_
  refine hg hw ?_
  clear hw w
  unfold zD3
  refine s_pick (Sep.stars ((A++e::C).map jobO)) ?_
  refine s_mid ?_
  refine s_job ?_
  refine s_dr ?_
  refine s_nn ?_
  refine s_ldN (b:=e.b) (l:=jobL e) (l':=tagF e.tag) ?_
  refine s_ldN (b:=tb) (l':=tagF tag) ?_
  refine s_eqS (xs:=tagF e.tag) (ys:=tagF tag) (ks:=tagK) (p:=e.tag = tag) zIG ?_
  refine zJy ?_
  refine zCS ?_
  exact s_end hq
 ·rcases findS (fun j:JobX=>decide (j.tag = tag)) J with hn | ⟨A,e,C,rfl,hA,he⟩
  ·rw [List.findIdx?_eq_none_iff.2 hn]
   refine s_t ?_ (by simp [idxI])
   exact s_end (hno fun j hj=>by simpa using hn j hj)
  ·rw [idxS hA he]
   refine s_f ?_ (by simp)
   refine s_ld (b:=sd) (off:=4) (l:=sdL st l a b c) (x:=c) ?_
   refine s_idx1 (c:=Value.pointer) (L:=(A++e::C).map ptrJ) (j:=A.length) (x:=ptrJ e) (fun w hw=>(own_rd (s:=c) hw).1) (by simp) ?_
   exact s_end (hyes A e C rfl (fun y hy=>by simpa using hA y hy) (by simpa using he))
theorem zQO {f:Nat} {L:List JobM} (h:∀ y ∈ L,pick G y = false):workM n f L M G = ((L,M,G),[]):=by
 cases f with
 | zero=>rfl
 | succ f=>unfold workM; rw [zLQ h]
theorem zQP {f:Nat} {A C:List JobM} {j:JobM} (hA:∀ y ∈ A,pick G y = false) (hj:pick G j = true) :
  workM n (f + 1) (A++j::C) M G = ((workM n f (A++C) (decR n j.tag j.tx M G) (decG n j.tag j.tx M G)).1,⟨j.tag,decC n j.tag j.tx M G,decO n j.tag j.tx M G⟩::(workM n f (A++C) (decR n j.tag j.tx M G) (decG n j.tag j.tx M G)).2):=by
 rw [workM,zMx hA hj]
abbrev s1B (s1 sd:Nat):HProp:=blk s1 (.cells [.pointer (some ⟨sd,0,none⟩)].toArray zE8 (0,0))
theorem zTz {s1 T:Nat} {A C:List JobX} {e:JobX} {q:Bool→K} (hsz:SzG T G) (hT:T ≤ 1000000) (hJ:J = A++e::C) (hq:HG B (s1B s1 sd::schP sd st l n M G a b c J Γ) (q (pick G (eraJ e)))) :
  HG B (s1B s1 sd::schP sd st l n M G a b c J Γ) (zBh.call (ptrJ e) ⟨s1,0,none⟩ q):=by
 refine fun w hw=>zHV _ _ _ _ ?_
 refine hg hw ?_
 clear hw w
 unfold zBh zBh.s1
 subst hJ
 refine s_nn ?_
 refine s_pick (Sep.stars ((A++e::C).map jobO)) ?_
 refine s_mid ?_
 refine s_job ?_
 refine s_cap e.ns fun a1 a2 a3 a4=>?_
 rw [List.length_map,Nat.mul_one] at a1
 have hz:decide ((e.ns.n:Int) = 0) = decide (e.need = []):=by
  rw [← a1]
  cases e.need <;> simp
  omega
 have back:HG B (jobC e (Sep.stars ((A++C).map jobO)::s1B s1 sd::blk sd (.cells (sdL st l a b c).toArray zAp (0,0))::LocksR l G.1 G.2::StoreR st n M::SlC zB7 1 c (((A++e::C).map ptrJ).map Value.pointer)::Γ)) (q (pick G (eraJ e))):=by
  refine zJy ?_
  refine zCS ?_
  exact s_end hq
 have hpk:pick G (eraJ e) = (decide (e.need = []) && (G.2 e.tag || readyM e.tag G.1)):=rfl
 rw [hpk] at back
 refine s_ldN (b:=e.b) (l:=jobL e) (l':=tagF e.tag) ?_
 refine s_new fun tb=>?_
 refine s_stN (b:=tb) (l':=tagF e.tag) ?_
 refine s_dr ?_
 refine s_wsD [blk e.b (.cells (jobL e).toArray zIs (0,0)),blk tb (.cells (tagF e.tag).toArray zBz (0,0)),s1B s1 sd,blk sd (.cells (sdL st l a b c).toArray zAp (0,0))] ?_
 refine s_ldS (b:=e.b) (off:=10) (l:=jobL e) (x:=e.ns) ?_
 rw [hz]
 refine s_ite (fun h1=>?_) fun h1=>?_
 ·refine s_ldS (b:=s1) (l:=[.pointer (some ⟨sd,0,none⟩)]) (x:=some ⟨sd,0,none⟩) ?_
  refine s_nn ?_
  refine s_ldS (b:=sd) (off:=1) (l:=sdL st l a b c) (x:=some ⟨l,0,none⟩) ?_
  refine s_ldNS (b:=tb) (l:=tagF e.tag) (l':=tagF e.tag) ?_
  refine s_own l ?_
  refine zMf ?_
  refine s_sv ?_
  rw [h1,Bool.true_and] at back
  by_cases hd:G.2 e.tag = true
  ·rw [hd] at back ⊢
   refine s_t ?_
   exact s_end back
  ·rw [Bool.eq_false_iff.2 hd] at back ⊢
   refine s_f ?_
   refine s_ldS (b:=s1) (l:=[.pointer (some ⟨sd,0,none⟩)]) (x:=some ⟨sd,0,none⟩) ?_
   refine s_nn ?_
   refine s_ldS (b:=sd) (off:=1) (l:=sdL st l a b c) (x:=some ⟨l,0,none⟩) ?_
   refine s_ldNS (b:=tb) (l:=tagF e.tag) (l':=tagF e.tag) ?_
   refine zSU hsz.gsz hT ?_
   rw [Bool.false_or] at back
   exact s_end back
 ·rw [h1,Bool.false_and] at back
  exact s_end back
theorem zKo {A C:List JobX} {e:JobX}:(A++e::C).map eraJ = A.map eraJ++eraJ e::C.map eraJ:=by simp
theorem zT0 {T:Nat} {q:Sl→K} (hok:∀ j ∈ J,JobOk n j) (hsz:SzG T G) (hT:T + J.length ≤ 900000) (hM:M.length + 32 * J.length ≤ 10000000)
  (h:∀ (s:Sl) (D:List DcX) (c':Sl) (J':List JobX),D.map eraD = (workM n J.length (J.map eraJ) M G).2→J'.map eraJ = (workM n J.length (J.map eraJ) M G).1.1→(∀ j ∈ J',j ∈ J)→J'.length + D.length = J.length→(workM n J.length (J.map eraJ) M G).1.2.1.length ≤ M.length + 32 * D.length→SzG (T + D.length) (workM n J.length (J.map eraJ) M G).1.2.2 →
   HG B (SlC zB0 6 s (D.flatMap dcF)::Sep.stars (D.map dcO)::schP sd st l n (workM n J.length (J.map eraJ) M G).1.2.1 (workM n J.length (J.map eraJ) M G).1.2.2 a b c' J' Γ) (q s)) :
  HG B (schP sd st l n M G a b c J Γ) (zBo.call (some ⟨sd,0,none⟩) q):=by
 refine fun w hw=>zIe _ _ _ ?_
 refine hg hw ?_
 clear hw w
 unfold zBo
 refine s_new fun s1=>?_
 refine fun w hw=>?_
 refine hg (show Holds B (SlC zB0 6 ⟨none,0,0⟩ (([]:List DcX).flatMap dcF)::Sep.stars (([]:List DcX).map dcO)::s1B s1 sd::schP sd st l n M G a b c J Γ) w from (hw.starsNil).nilSl _ _) ?_
 clear hw w
 generalize hW:workM n J.length (J.map eraJ) M G = W at h
 refine s_loop (α:=Sl) (ι:=List JobX×Recs×(GM×DM)×List DcX×Sl)
  (fun x i=>(∀ j ∈ i.1,j ∈ J)∧i.1.length + i.2.2.2.1.length = J.length∧SzG (T + i.2.2.2.1.length) i.2.2.1∧i.2.1.length ≤ M.length + 32 * i.2.2.2.1.length∧(workM n i.1.length (i.1.map eraJ) i.2.1 i.2.2.1).1 = W.1∧i.2.2.2.1.map eraD++(workM n i.1.length (i.1.map eraJ) i.2.1 i.2.2.1).2 = W.2)
  (fun x i=>SlC zB0 6 x (i.2.2.2.1.flatMap dcF)::Sep.stars (i.2.2.2.1.map dcO)::s1B s1 sd::schP sd st l n i.2.1 i.2.2.1 a b i.2.2.2.2 i.1 Γ)
  (fun x i=>i.1.length) (J,M,G,[],c) ⟨fun _ h=>h,by simp,by simpa using hsz,by simp,by rw [hW],by rw [hW]; simp⟩ ?_
 rintro k' o ⟨J1,M1,G1,D1,c1⟩ ⟨i1,i2,i3,i4,i5,i6⟩ hk'
 simp only at i1 i2 i3 i4 i5 i6 hk' ⊢
 refine s_cap c1 fun a1 a2 a3 a4=>?_
 rw [List.length_map,List.length_map,Nat.mul_one] at a1
 refine s_cap o fun b1 b2 b3 b4=>?_
 rw [zAL _ 6 zTy] at b1
 unfold zBo.b1
 refine s_ld (b:=s1) (l:=[.pointer (some ⟨sd,0,none⟩)]) (x:=some ⟨sd,0,none⟩) ?_
 refine s_nn ?_
 refine s_ld (b:=sd) (off:=4) (l:=sdL st l a b c1) (x:=c1) ?_
 refine fun w hw=>zC8 _ _ _ _ ?_
 refine hg hw ?_
 clear hw w
 show HG B _ (idxFK Tryz.prog (acc1 Value.pointer) c1 (woJ s1) _)
 refine zGQ (vV:=fun e:JobX=>.pointer (ptrJ e)) (L:=J1) (fun j=>pick G1 (eraJ j)) (by omega) (by omega) (fun i x k hx hk=>?_) (fun e q he hq=>?_) ?_
 ·exact s_idx1 (c:=Value.pointer) (fun w hw=>(own_rd (s:=c1) hw).1) (by rw [List.getElem?_map,hx]; rfl) hk
 ·obtain ⟨A,C,hAC⟩:=List.append_of_mem he
  refine zEY (cs:=[.pointer (some ⟨s1,0,none⟩)]) ?_
  refine s_pick (Sep.stars (J1.map jobO)) ?_
  refine s_ownS c1 ?_
  refine s_own st ?_
  refine s_own l ?_
  refine s_own sd ?_
  refine s_own s1 ?_
  refine zTz (T:=T + D1.length) i3 (by omega) hAC ?_
  exact s_end hq
 ·rcases findS (fun j:JobX=>pick G1 (eraJ j)) J1 with hn | ⟨A,e,C,rfl,hA,he⟩
  ·rw [List.findIdx?_eq_none_iff.2 hn]
   refine s_t ?_ (by simp [idxI])
   rw [zQO (fun y hy=>by obtain ⟨z,hz,rfl⟩:=List.mem_map.1 hy; exact hn z hz)] at i5 i6
   simp only [List.append_nil] at i5 i6
   have h1:=h o D1 c1 J1 (by rw [i6]) (by rw [← i5]) i1 i2
   rw [← i5] at h1
   exact s_end (h1 i4 i3)
  ·rw [idxS hA he]
   have hlen:(A++e::C).length = A.length + (C.length + 1):=by simp
   have hwf:=zQP (n:=n) (f:=(A++C).length) (A:=A.map eraJ) (C:=C.map eraJ) (j:=eraJ e) (M:=M1) (G:=G1) (fun y hy=>by obtain ⟨z,hz,rfl⟩:=List.mem_map.1 hy; exact hA z hz) he
   rw [← zKo,show (A++C).length + 1 = (A++e::C).length by simp; omega] at hwf
   rw [hwf] at i5 i6
   have hok1:=hok e (i1 e (by simp))
   obtain ⟨e1,e2,e3,e4⟩:=zSm (n:=n) (g:=e.tag) (a:=canX e.t) (b:=e.t) (M:=M1) (G:=G1) (zTx e.t)
   simp only [eraJ,e1,e2,e3,e4] at i5 i6
   rw [← List.map_append] at i5 i6
   refine s_f ?_ (by simp)
   refine s_ld (b:=s1) (l:=[.pointer (some ⟨sd,0,none⟩)]) (x:=some ⟨sd,0,none⟩) ?_
   refine s_nn ?_
   refine s_ld (b:=sd) (off:=4) (l:=sdL st l a b c1) (x:=c1) ?_
   refine s_idx1 (c:=Value.pointer) (L:=(A++e::C).map ptrJ) (j:=A.length) (x:=ptrJ e) (fun w hw=>(own_rd (s:=c1) hw).1) (by simp) ?_
   refine s_nn ?_
   refine s_pick (Sep.stars ((A++e::C).map jobO)) ?_
   refine s_mid ?_
   refine s_job ?_
   refine s_ldN (b:=e.b) (l:=jobL e) (l':=orV e.tag e.t e.ms) ?_
   refine s_new fun o4=>?_
   refine s_stN (b:=o4) (l':=orV e.tag e.t e.ms) ?_
   refine s_dr ?_
   refine s_wsD [blk s1 (.cells [.pointer (some ⟨sd,0,none⟩)].toArray zE8 (0,0)),blk sd (.cells (sdL st l a b c1).toArray zAp (0,0))] ?_
   refine s_ai ?_
   refine s_ldS (b:=s1) (l:=[.pointer (some ⟨sd,0,none⟩)]) (x:=some ⟨sd,0,none⟩) ?_
   refine s_ldS (b:=s1) (l:=[.pointer (some ⟨sd,0,none⟩)]) (x:=some ⟨sd,0,none⟩) ?_
   refine s_nn ?_
   refine s_ldS (b:=sd) (off:=4) (l:=sdL st l a b c1) (x:=c1) ?_
   refine fun w hw=>zEN _ _ _ _ _ ?_
   refine hg hw ?_
   clear hw w
   refine (show ∀ (Γ':List HProp) (Q':Sl→K),HG B Γ' (delK Tryz.prog zKK 0 1 c1 (A.length:Int) ((A.length:Int) + 1) Q')→HG B Γ' (zBj c1 (A.length:Int) ((A.length:Int) + 1) Q') from fun _ _ h=>h) _ _ ?_
   refine s_del (s:=c1) (E:=zB7) (i:=A.length) (j:=A.length + 1) (by omega) (by omega) (by omega) (by intro v hv; obtain ⟨y,_,rfl⟩:=List.mem_map.1 hv; rfl) (fun c2 hc2=>?_) (by kernel_rfl)
   rw [show (((A++e::C).map ptrJ).map Value.pointer).take (A.length * 1)++(((A++e::C).map ptrJ).map Value.pointer).drop ((A.length + 1) * 1) = ((A++C).map ptrJ).map Value.pointer by
    rw [Nat.mul_one,Nat.mul_one,← List.map_take,← List.map_take,← List.map_drop,← List.map_drop,List.take_left,show A++e::C = (A++[e])++C by simp,List.drop_left' (by simp)]; simp]
   refine s_sv ?_
   refine s_nn ?_
   refine s_st (b:=sd) (off:=4) (l:=sdL st l a b c1) (l':=sdL st l a b c2) ?_ rfl rfl
   refine s_dr ?_
   refine s_wsD [blk s1 (.cells [.pointer (some ⟨sd,0,none⟩)].toArray zE8 (0,0)),blk o4 (.cells (orV e.tag e.t e.ms).toArray zAO (0,0))] ?_
   refine s_ldNS (b:=o4) (l:=orV e.tag e.t e.ms) (l':=tagF e.tag) ?_
   refine s_ldS (b:=s1) (l:=[.pointer (some ⟨sd,0,none⟩)]) (x:=some ⟨sd,0,none⟩) ?_
   refine s_ldNS (b:=o4) (l:=orV e.tag e.t e.ms) (l':=orV e.tag e.t e.ms) ?_
   refine s_own st ?_
   refine s_own l ?_
   refine s_own sd ?_
   refine zQM (T:=T + D1.length) hok1.ord.1 hok1.nn (fun w hw=>txC_rd (Γ:=[]) hw.drops) i3 (by omega) (by omega) fun os O hO=>?_
   refine s_sv ?_
   refine s_bldF (cs:=dcF ⟨e.tag,decC n e.tag e.t M1 G1,os,O⟩) ?_
   refine s_bld1 (cs:=dcF ⟨e.tag,decC n e.tag e.t M1 G1,os,O⟩) ?_
   refine s_new fun t42=>?_
   refine zBJ (s:=o) (esz:=6) (us:=dcF ⟨e.tag,decC n e.tag e.t M1 G1,os,O⟩) (blk_rd rfl) (by simp [flatV]) (by simp only; omega) fun o' _=>?_
   rw [show D1.flatMap dcF++dcF ⟨e.tag,decC n e.tag e.t M1 G1,os,O⟩ = (D1++[(⟨e.tag,decC n e.tag e.t M1 G1,os,O⟩:DcX)]).flatMap dcF by simp]
   refine s_end (Δ:=SlC zAx 2 os (O.flatMap oF)::Sep.stars (O.map oB)::Sep.stars (D1.map dcO)::SlC zB0 6 o' ((D1++[(⟨e.tag,decC n e.tag e.t M1 G1,os,O⟩:DcX)]).flatMap dcF)::s1B s1 sd::schP sd st l n (decR n e.tag e.t M1 G1) (decG n e.tag e.t M1 G1) a b c2 (A++C) Γ) ?_
   refine s_mkDc (d:=⟨e.tag,decC n e.tag e.t M1 G1,os,O⟩) ?_
   refine zMF ?_
   refine s_end (hk' o' (A++C,decR n e.tag e.t M1 G1,decG n e.tag e.t M1 G1,D1++[⟨e.tag,decC n e.tag e.t M1 G1,os,O⟩],c2) ⟨fun j hj=>i1 j ?_,?_,?_,?_,i5,?_⟩ ?_)
   ·rcases List.mem_append.1 hj with hj | hj
    ·exact List.mem_append_left _ hj
    ·exact List.mem_append_right _ (List.mem_cons_of_mem _ hj)
   ·simp only [List.length_append,List.length_cons,List.length_nil] at i2 ⊢; omega
   ·simp only [List.length_append,List.length_cons,List.length_nil]
    exact dec_sz i3
   ·have:=zSn (n:=n) (g:=e.tag) (M:=M1) (G:=G1) hok1.ord.1
    simp only [List.length_append,List.length_cons,List.length_nil]; omega
   ·rw [← i6]; simp [eraD,hO]
   ·simp only [List.length_append,List.length_cons]; omega
end
end Go.Proofs.YtdemfamgieonbaaGreat
namespace Go.Proofs.YtdemfamgieonbaaGreat
open Go Go.Sep
set_option maxRecDepth 100000
set_option maxHeartbeats 4000000
attribute [local irreducible] G Gp Cx Tx Ex Sx Dx Ox Ax Lx Rx Fx Bx Bj Al Do Ld LdN St StN New CallF Ar DoU Rd Rd2 Pu Cd Ite Fv CallV CallY Ans0 Ans1 Ans2 Ans3 Ans4 Ans5 Ext Dead Dr WithS Sv LdS LdNS RdS Rd2S Nn Idx IdxA IdxS Fld Bld Slc SlcS Cat All LoopK RangeF RangeJ TakeD
namespace F_IRSplit
instance at_40:AT Tryz.prog 40 10:=⟨by kernel_rfl⟩
instance at_48:AT Tryz.prog 48 12:=⟨by kernel_rfl⟩
instance at_84:AT Tryz.prog 84 3:=⟨by kernel_rfl⟩
instance cb_13:CB Tryz.prog 13:=⟨by kernel_rfl⟩
instance cb_173:CB Tryz.prog 173:=⟨by kernel_rfl⟩
instance cb_205:CB Tryz.prog 205:=⟨by kernel_rfl⟩
instance cb_206:CB Tryz.prog 206:=⟨by kernel_rfl⟩
instance cb_58:CB Tryz.prog 58:=⟨by kernel_rfl⟩
instance cb_93:CB Tryz.prog 93:=⟨by kernel_rfl⟩
instance ct_3:CT Tryz.prog 3:=⟨by kernel_rfl⟩
instance ct_38:CT Tryz.prog 38:=⟨by kernel_rfl⟩
instance ct_4:CT Tryz.prog 4:=⟨by kernel_rfl⟩
instance ct_63:CT Tryz.prog 63:=⟨by kernel_rfl⟩
instance zLw:FT Tryz.prog 40 2 9 1:=⟨by kernel_rfl⟩
instance zJr:FT Tryz.prog 48 1 1 1:=⟨by kernel_rfl⟩
instance zLu:FT Tryz.prog 84 1 1 1:=⟨by kernel_rfl⟩
instance mx:MX Tryz.prog:=⟨mixed⟩
instance pl_48:PLT Tryz.prog 48 [(0,1),(1,1),(2,10)]:=⟨_,Tryz.underlying48,by kernel_rfl⟩
instance sl_38:SLT Tryz.prog 38 84 3:=⟨by kernel_rfl⟩
instance sl_63:SLT Tryz.prog 63 40 10:=⟨by kernel_rfl⟩
instance sz_4:SZ Tryz.prog 4 1:=⟨by kernel_rfl⟩
instance sz_40:SZ Tryz.prog 40 10:=⟨by kernel_rfl⟩
instance sz_48:SZ Tryz.prog 48 12:=⟨by kernel_rfl⟩
instance sz_84:SZ Tryz.prog 84 3:=⟨by kernel_rfl⟩
instance zt_4:ZT Tryz.prog 4 (.bool false):=⟨Tryz.t4,by kernel_rfl,by kernel_rfl⟩
instance zt_40:ZT Tryz.prog 40 (.agg #[(.int .i64 0),(.int .u64 0),(.int .u64 0),(.int .i64 0),(.int .i64 0),(Sl.val ⟨none,0,0⟩),(Sl.val ⟨none,0,0⟩),(Sl.val ⟨none,0,0⟩),(.int .i64 0),(Sl.val ⟨none,0,0⟩)]):=⟨Tryz.t40,by kernel_rfl,by kernel_rfl⟩
instance zt_48:ZT Tryz.prog 48 (.agg #[(.int .i64 0),(.int .i64 0),(.int .i64 0),(.int .u64 0),(.int .u64 0),(.int .i64 0),(.int .i64 0),(Sl.val ⟨none,0,0⟩),(Sl.val ⟨none,0,0⟩),(Sl.val ⟨none,0,0⟩),(.int .i64 0),(Sl.val ⟨none,0,0⟩)]):=⟨Tryz.t48,by kernel_rfl,by kernel_rfl⟩
instance zt_84:ZT Tryz.prog 84 (.agg #[(.string ⟨#[]⟩),(.int .i64 0),(.int .u64 0)]):=⟨Tryz.t84,by kernel_rfl,by kernel_rfl⟩
end F_IRSplit
def zCD.s2 (Q:Sl→K) (X1:Sl→Int→K) (region1_2:Int) (out4_2:Sl) (t8_2:Sl) (t9_2:Int) (t10_2:Int):K :=
 Ar (IntKind.wrap .i64 (t10_2 + 1)) fun t22 =>
 X1 out4_2 t22
def zCD.b1 (Q:Sl→K)  (X1:Sl→Int→K) (region1_1:Int) (t8_1:Sl) (t9_1:Int) (out4_1:Sl) (t10_1:Int):K :=
 Ite (decide (t10_1 < t9_1))
  (Idx t8_1 t10_1 3 fun t12 =>
  LdN t12 3 fun t13 =>
  New 84 #[(.string ⟨#[]⟩),(.int .i64 0),(.int .u64 0)] fun m6 =>
  StN m6 3 t13 <|
  Ld (m6.add 1) (Value.int .i64) fun t15 =>
  Ite (decide (t15 = region1_1))
   (LdN m6 3 fun t19 =>
   Bld #[(.string ⟨#[]⟩),(.int .i64 0),(.int .u64 0)] (fun i=>some (i * 3,3)) [(0,(.agg t19))] fun ct20 =>
   New 84 ct20 fun t20 =>
   Do Tryz.prog (Builtin.append_ #[38,38] 38 #[(Sl.val out4_1),(Sl.val (Sl.mk (some t20) 1 1))]) Sl.val fun t21 =>
   zCD.s2 Q X1 region1_1 t21 t8_1 t9_1 t10_1)
   (zCD.s2 Q X1 region1_1 out4_1 t8_1 t9_1 t10_1))
  (Q out4_1)
def zCD (o0:(Array Value)) (region1:Int) (Q:Sl→K):K :=
 New 40 o0 fun o2 =>
 Ld (o2.add 9) Sl.val fun t8 =>
 LoopK (α:=Sl×Int) (fun X x=>zCD.b1 Q (fun out4_1 t10_1=>X (out4_1,t10_1)) region1 t8 (t8.n:Int) x.1 x.2) ((Sl.mk none 0 0),0)
theorem zNE (o0:(Array Value)) (region1:Int) (Q:Sl→K) (w:World) (h:zCD o0 region1 Q w):zCD.call o0 region1 Q w:=by
 have hJ6:∀ (X1:(Sl×Int)→K),XH 2 X1→JH 6 fun D=>∃ (region1_2:Int) (t8_2:Sl) (t9_2:Int) (t10_2:Int),D [(1,(.int .i64 region1_2)),(8,(Sl.val t8_2)),(9,(.int .i64 t9_2)),(10,(.int .i64 t10_2))] (fun C=>∀ (out4_2:Sl),C [(1,(.int .i64 region1_2)),(4,(Sl.val out4_2)),(8,(Sl.val t8_2)),(9,(.int .i64 t9_2)),(10,(.int .i64 t10_2))] (zCD.s2 Q (fun out4_1 t10_1=>X1 (out4_1,t10_1)) region1_2 out4_2 t8_2 t9_2 t10_2)):=by intros; exact ⟨fun _ ⟨_,_,_,_,h⟩=>⟨_,_,h⟩⟩
 have hL2:∀ (region1_1:Int) (t8_1:Sl) (t9_1:Int),LH 2 (fun x:Sl×Int=>[(1,(.int .i64 region1_1)),(4,(Sl.val x.1)),(8,(Sl.val t8_1)),(9,(.int .i64 t9_1)),(10,(.int .i64 x.2))]) (fun X x=>zCD.b1 Q (fun out4_1 t10_1=>X (out4_1,t10_1)) region1_1 t8_1 t9_1 x.1 x.2):=by intros; exact ⟨⟩
 exact g_walk 24 h Tryz.func59
def zH7 (global0:Sl) (region1:Int) (last2:Int) (Q:(Array Value)→Bool→K):K :=
 New 3 #[(.int .i64 last2)] fun last5 =>
 New 48 #[(.int .i64 0),(.int .i64 0),(.int .i64 0),(.int .u64 0),(.int .u64 0),(.int .i64 0),(.int .i64 0),(Sl.val ⟨none,0,0⟩),(Sl.val ⟨none,0,0⟩),(Sl.val ⟨none,0,0⟩),(.int .i64 0),(Sl.val ⟨none,0,0⟩)] fun t6 =>
 New 4 #[(.bool false)] fun t7 =>
 zIx.call global0 region1 fun t11 =>
 RangeJ Tryz.prog t11 .ret (fun (x12:(Array Value))=>[(.agg x12)]) (fun BG1 KN1 KJ1 (x12:(Array Value)) =>
  New 48 #[(.int .i64 0),(.int .i64 0),(.int .i64 0),(.int .u64 0),(.int .u64 0),(.int .i64 0),(.int .i64 0),(Sl.val ⟨none,0,0⟩),(Sl.val ⟨none,0,0⟩),(Sl.val ⟨none,0,0⟩),(.int .i64 0),(Sl.val ⟨none,0,0⟩)] fun p8 =>
  StN p8 12 x12 <|
  BG1 <|
  Ld (p8.add 1) (Value.int .i64) fun t14 =>
  Ld last5 (Value.int .i64) fun t15 =>
  Ite (decide (t15 < t14))
   (LdN p8 12 fun t17 =>
   StN t6 12 t17 <|
   St t7 (.bool true) <|
   KJ1)
   (KN1))
  (fun D1 =>
   StN t6 12 #[(.int .i64 0),(.int .i64 0),(.int .i64 0),(.int .u64 0),(.int .u64 0),(.int .i64 0),(.int .i64 0),(Sl.val ⟨none,0,0⟩),(Sl.val ⟨none,0,0⟩),(Sl.val ⟨none,0,0⟩),(.int .i64 0),(Sl.val ⟨none,0,0⟩)] <|
   St t7 (.bool false) <|
   TakeD D1 <|
   LdN t6 12 fun r0 =>
   Ld t7 Value.bool fun r1 =>
   Q r0 r1)
  (fun D1 =>
   TakeD D1 <|
   LdN t6 12 fun r0 =>
   Ld t7 Value.bool fun r1 =>
   Q r0 r1)
def zIx (global0:Sl) (region1:Int) (Q:Value→K):K :=
 New 63 #[(Sl.val global0)] fun global2 =>
 New 3 #[(.int .i64 region1)] fun region3 =>
 Q (.func (.func 204) #[] #[(.pointer (some global2)),(.pointer (some region3))])
def zCq.s2 (Q:K) (X1:Int→K) (yield0_2:Value) (t2_2:Addr) (f4_2:(Option Addr)) (t8_2:Sl) (t9_2:Int) (t10_2:Int):K :=
 Ar (IntKind.wrap .i64 (t10_2 + 1)) fun t33 =>
 X1 t33
def zCq.s3 (Q:K) (X1:Int→K) (yield0_3:Value) (t2_3:Addr) (f4_3:(Option Addr)) (i5_3:Int) (o6_3:Addr) (t8_3:Sl) (t9_3:Int) (t10_3:Int) (t25_3:Bool):K :=
 Ite t25_3
  (zCq.s2 Q X1 yield0_3 t2_3 f4_3 t8_3 t9_3 t10_3)
  (LdN o6_3 10 fun t28 =>
  zDY.call t28 fun t29 =>
  Bld #[(.int .i64 0),(.int .i64 0),(.int .i64 0),(.int .u64 0),(.int .u64 0),(.int .i64 0),(.int .i64 0),(Sl.val ⟨none,0,0⟩),(Sl.val ⟨none,0,0⟩),(Sl.val ⟨none,0,0⟩),(.int .i64 0),(Sl.val ⟨none,0,0⟩)] ([(0,1),(1,1),(2,10)][·]?) [(0,(.int .i64 2)),(1,(.int .i64 i5_3)),(2,(.agg t29))] fun t30 =>
  CallY Tryz.prog yield0_3 [(.agg t30)] <| Ans1 (fun (t31:Bool)=>Value.bool t31) fun t31 =>
  Ite (!t31)
   (Q)
   (zCq.s2 Q X1 yield0_3 t2_3 f4_3 t8_3 t9_3 t10_3))
def zCq.b1 (Q:K)  (X1:Int→K) (yield0_1:Value) (t2_1:Addr) (f4_1:(Option Addr)) (t8_1:Sl) (t9_1:Int) (t10_1:Int):K :=
 Ite (decide (t10_1 < t9_1))
  (Idx t8_1 t10_1 10 fun t13 =>
  LdN t13 10 fun t14 =>
  New 40 #[(.int .i64 0),(.int .u64 0),(.int .u64 0),(.int .i64 0),(.int .i64 0),(Sl.val ⟨none,0,0⟩),(Sl.val ⟨none,0,0⟩),(Sl.val ⟨none,0,0⟩),(.int .i64 0),(Sl.val ⟨none,0,0⟩)] fun o6 =>
  StN o6 10 t14 <|
  Dr <| WithS fun S =>
  LdNS S o6 10 fun t16 =>
  zDR.call f4_1 t16 fun t17 =>
  Sv S <|
  Ite (!t17)
   (zCq.s3 Q X1 yield0_1 t2_1 f4_1 t10_1 o6 t8_1 t9_1 t10_1 true)
   (LdNS S o6 10 fun t20 =>
   LdS S t2_1 (Value.int .i64) fun t22 =>
   zBM.call t20 fun t21 =>
   Sv S <|
   zBs.call t21 t22 fun t23 =>
   zCq.s3 Q X1 yield0_1 t2_1 f4_1 t10_1 o6 t8_1 t9_1 t10_1 (!t23)))
  (Q)
def zCq (yield0:Value) (t1:Addr) (t2:Addr) (Q:K):K :=
 zIV.call  fun t7 =>
 Ld t1 Sl.val fun t8 =>
 LoopK (α:=Int) (fun X x=>zCq.b1 Q X yield0 t2 t7 t8 (t8.n:Int) x) 0
end Go.Proofs.YtdemfamgieonbaaGreat
