/- Texts of the claim SchedSerial, one behind the other. -/
import Derived.Test.YtdemfamgieonbaaGreatSchedSerialM3
import Derived.Lib.ConvBytes
set_option linter.all false
set_option maxRecDepth 100000
namespace Go.Proofs.YtdemfamgieonbaaGreat
section
open Go Go.Sep Go.Sep.Bt
abbrev WX:=List (List UInt8×(Rec×Sl))
abbrev wV (x:Rec×Sl):Value:=.agg (zII x.1 x.2)
abbrev wB (p:List UInt8×(Rec×Sl)):zC:=Bytes yK p.2.2 p.2.1.val
abbrev zAf (rb st mb:Nat) (os:Sl) (X:WX) (O:OX) (Γ:List zC):List zC :=
 blk rb (.cells [.pointer (some ⟨st,0,none⟩),.map (some mb),os.val].toArray zBB (0,0))::xE qb wV mb X::Sep.stars (X.map wB)::SlC yC 2 os (O.flatMap oF)::Sep.stars (O.map oB)::Γ
theorem zQM:zFt Tryz.prog uw .string yc:=⟨9,by kernel_rfl,by kernel_rfl⟩
abbrev zXO:Rec×Sl:=(⟨false,[],0,0⟩,⟨none,0,0⟩)
theorem zUj:zBl Tryz.prog yc (wV zXO):=zIj
def qz (n:Nat) (M:zy) (W:List (List UInt8×Rec)) (k:List UInt8):Rec:=(y8 k W).getD (zx n M (bs k))
abbrev qJ (X:WX):List (List UInt8×Rec):=X.map fun p=>(p.1,p.2.1)
section
variable {B:World} {Γ Δ:List zC} {rb st mb n:Nat} {os:Sl} {X:WX} {O:OX} {M:zy} {k:List UInt8}
theorem zOV {α:Type} {F:α→zC} {l:List α} {x:α} {w:World} (hx:x ∈ l) (h:Holds B (Sep.stars (l.map F)::Γ) w):∃ Δ,Holds B (F x::Δ) w:=by
 obtain ⟨A,C,rfl⟩:=List.append_of_mem hx
 exact ⟨_,((Holds.flat.1 h).perm zG4).perm List.perm_middle⟩
theorem zKW {E:Nat} {w:World} {s:Sl} {xs:List UInt8} (h:Holds B (Bytes E s xs::Γ) w):RdB w s xs:=h.rdC List.mem_cons_self
theorem zHy {Q:Array Value→K} (hk:k.length < 1000000000000) (hX:∀ p ∈ X,p.2.1.ok)
  (hin:∀ r s,y8 k X = some (r,s)→r.ok→(∀ w,Holds B (zAf rb st mb os X O (zk st n M::Γ)) w→RdB w s r.val)→HG B (zAf rb st mb os X O (zk st n M::Γ)) (Q (zII r s)))
  (hout:y8 k X = none→∀ s,(zx n M (bs k)).ok→HG B (Bytes yK s (zx n M (bs k)).val::zAf rb st mb os X O (zk st n M::Γ)) (Q (zII (zx n M (bs k)) s))) :
  HG B (zAf rb st mb os X O (zk st n M::Γ)) (zAa.call (some ⟨rb,0,none⟩) (bs k) Q):=fun w hw=>by
 refine zLG _ _ _ _ ?_
 refine hg hw ?_
 clear hw w
 unfold zAa
 refine zH fun t4=>?_
 refine uP ?_
 refine yB (b:=rb) (x:=some mb) ?_
 refine zZO (b:=mb) (enc:=qb) (cV:=wV) (cG:=Value.agg) (g:=fun x=>zII x.1 x.2) (z:=zXO) (a:=k) (fun _=>rfl) zQM zFy zUj ?_
 refine zH fun x5=>?_
 cases hm:y8 k X with
 | some p=>
  obtain ⟨r,s⟩:=p
  have hmem:=zE2 hm
  have hok:=hX _ hmem
  simp only [Option.getD_some,Option.isSome_some]
  refine qA (b:=x5) (l':=jh r s) ?_
  refine s_t ?_
  refine qI (b:=x5) (l':=jh r s) ?_
  refine qA (b:=t4) (l':=jh r s) ?_
  refine qI (b:=t4) (l':=jh r s) ?_
  refine zB (Δ:=zAf rb st mb os X O (zk st n M::Γ)) ?_
  refine hin r s hm hok fun w hw=>?_
  obtain ⟨Δ,h1⟩:=zOV hmem (hw.tail.tail)
  exact zKW h1
 | none=>
  simp only [Option.getD_none,Option.isSome_none]
  refine qA (b:=x5) (l':=jh zXO.1 zXO.2) ?_
  refine s_f ?_
  refine yB (b:=rb) (x:=some ⟨st,0,none⟩) ?_
  refine zO st ?_
  refine zAn (k:=bs k) (by simpa [ByteArray.size] using hk) fun s hok=>?_
  refine qA (b:=t4) (l':=jh (zx n M (bs k)) s) ?_
  refine qI (b:=t4) (l':=jh (zx n M (bs k)) s) ?_
  exact zB (hout hm s hok)
theorem zKX {Q:K} {has:Bool} {val:List UInt8} {vs:Sl} (hk:k.length < 1000000000000) (hX:∀ p ∈ X,p.2.1.ok) (hv:val.length ≤ 1000000000) (hr:∀ w,Holds B (zAf rb st mb os X O (zk st n M::Γ)) w→RdB w vs val)
  (h:∀ s,({ qz n M (qJ X) k with has:=has,val:=val }:Rec).ok→HG B (zAf rb st mb os (vS k ({ qz n M (qJ X) k with has:=has,val:=val },s) X) O (zk st n M::Γ)) Q) :
  HG B (zAf rb st mb os X O (zk st n M::Γ)) (zAA.call (some ⟨rb,0,none⟩) (bs k) has vs Q):=fun w hw=>by
 refine zLH _ _ _ _ _ _ ?_
 refine hg hw ?_
 clear hw w
 unfold zAA
 have rest:∀ (r:Rec) (s:Sl),r = qz n M (qJ X) k→r.ok→HG B (zAf rb st mb os X O (zk st n M::Γ)) (New yc [.bool false,Sl.val ⟨none,0,0⟩,.int .i64 0,.int .u64 0].toArray fun x8=>
   StN x8 4 (zII r s) <| vK.call vs fun t14=>St x8 (.bool has) <| St (x8.add 1) (Sl.val t14) <| Dr <| Nn (some ⟨rb,0,none⟩) fun t18=>Ld (t18.add 1) Value.map fun t20=>LdN x8 4 fun t22=>
   DoU Tryz.prog (Instr.mapUpdate uw (.map t20) (.string (bs k)) (.agg t22)) Q):=fun r s hr2 hok=>by
  refine zH fun x8=>?_
  refine qA (b:=x8) (l':=jh r s) ?_
  refine zBz (fun w hw=>hr w hw.tail) hv fun s' _=>?_
  refine zCB (b:=x8) ?_
  refine zCB (b:=x8) ?_
  refine vo ?_
  refine uP ?_
  refine yB (b:=rb) (x:=some mb) ?_
  refine qI (b:=x8) (l':=jh { r with has:=has,val:=val } s') ?_
  refine zW4 (b:=mb) (enc:=qb) (cV:=wV) (v:=(({ r with has:=has,val:=val }:Rec),s')) (cG:=Value.agg) rfl zQM zFy ?_
  rw [hr2] at hok ⊢
  refine zB (Δ:=wB (k,(({ qz n M (qJ X) k with has:=has,val:=val }:Rec),s'))::Sep.stars (X.map wB)::blk rb (.cells [.pointer (some ⟨st,0,none⟩),.map (some mb),os.val].toArray zBB (0,0))::xE qb wV mb (vS k (({ qz n M (qJ X) k with has:=has,val:=val }:Rec),s') X)::SlC yC 2 os (O.flatMap oF)::Sep.stars (O.map oB)::zk st n M::Γ) ?_
  refine zW5 ?_
  exact zB (h s' ⟨hok.1,hok.2.1,hv⟩)
 have hmg:y8 k (qJ X) = (y8 k X).map (·.1):=zFu _ _ _
 refine zHy hk hX (fun r s hm hok _=>?_) fun hm s hok=>?_
 ·refine rest r s ?_ hok
  unfold qz; rw [hmg,hm]; rfl
 ·refine zB (Δ:=zAf rb st mb os X O (zk st n M::Γ)) ?_
  refine rest _ s ?_ hok
  unfold qz; rw [hmg,hm]; rfl
end
def OpM.ok (o:OpM):Prop:=o.key.length < 1000000000000∧o.val.length ≤ 1000000000∧-9223372036854775808 ≤ o.n∧o.n ≤ 9223372036854775807
abbrev WM:=List (List UInt8×Rec)
abbrev OM:=List (Bool×List UInt8)
def numOf (v:List UInt8):Int:=IntKind.wrap .i64 (zKS v:Int)
abbrev valOf (n:Int):List UInt8:=zF1 (uOf n) 8
def zC4 (a b:Int):Bool:=decide (0 < b∧9223372036854775807 - b < a∨b < 0∧a < -9223372036854775808 - b)
def setW (n:Nat) (M:zy) (W:WM) (k:List UInt8) (has:Bool) (val:List UInt8):WM:=vS k { qz n M W k with has:=has,val:=val } W
def zFa (n:Nat) (M:zy) (W:WM) (k:List UInt8) (d:Int):WM×Int :=
 if (qz n M W k).has = true∧(qz n M W k).val.length ≠ 8 then (W,110) else
 if zC4 (if (qz n M W k).has then numOf (qz n M W k).val else 0) d then (W,111) else
 (setW n M W k true (valOf ((if (qz n M W k).has then numOf (qz n M W k).val else 0) + d)),0)
def stepW (n:Nat) (M:zy) (W:WM) (O:OM) (o:OpM):WM×OM×Int :=
 if o.kind = 1 then (W,O++[((qz n M W o.key).has,(qz n M W o.key).val)],0) else
 if o.kind = 7 then (W,O++[(true,o.val)],0) else
 if o.kind = 2 then (setW n M W o.key true o.val,O,0) else
 if o.kind = 3 then (setW n M W o.key false [],O,0) else
 if o.kind = 4 then (W,O,if (qz n M W o.key).has = true∧(qz n M W o.key).val = o.val then 0 else 110) else
 if o.kind = 5 then (W,O,if (qz n M W o.key).has then 110 else 0) else
 if o.kind = 6 then ((zFa n M W o.key o.n).1,O,(zFa n M W o.key o.n).2) else (W,O,0)
theorem zIx (n:Int):-9223372036854775808 ≤ IntKind.wrap .i64 n∧IntKind.wrap .i64 n ≤ 9223372036854775807:=by
 simp only [IntKind.wrap,IntKind.signed,IntKind.bits]
 simp
 omega
theorem zOW (n:Int):(valOf n).length = 8:=zVZ _ _
section
variable {B:World} {Γ Δ:List zC} {rb st mb n:Nat} {os:Sl} {X:WX} {O:OX} {M:zy} {k:List UInt8}
theorem zJo {r:Rec} {s:Sl}:qJ (vS k (r,s) X) = vS k r (qJ X):=(zRU (fun p:Rec×Sl=>p.1) k (r,s) X).symm
theorem zLz {r:Rec} {s:Sl} (hX:∀ p ∈ X,p.2.1.ok) (hr:r.ok):∀ p ∈ vS k (r,s) X,p.2.1.ok:=fun p hp=>by
 rcases zFs k X with ⟨_,h2,_,_⟩ | ⟨j,x,hj,h0,_,_,h2,_⟩
 ·rw [h2] at hp
  rcases List.mem_append.1 hp with hp | hp
  ·exact hX p hp
  ·rw [List.mem_singleton.1 hp]; exact hr
 ·rw [h2] at hp
  rcases List.mem_or_eq_of_mem_set hp with hp | rfl
  ·exact hX p hp
  ·exact hr
theorem zVa {Q:Int→K} {o:OpM} {osl:Sl} (ho:o.ok) (hX:∀ p ∈ X,p.2.1.ok)
  (h:∀ X',qJ X' = (zFa n M (qJ X) o.key o.n).1→(∀ p ∈ X',p.2.1.ok)→HG B (zAf rb st mb os X' O (zk st n M::Γ)) (Q (zFa n M (qJ X) o.key o.n).2)) :
  HG B (zAf rb st mb os X O (zk st n M::Γ)) (qL.call (some ⟨rb,0,none⟩) (opF (o,osl)).toArray Q):=fun w hw=>by
 refine zLI _ _ _ _ ?_
 refine hg hw ?_
 clear hw w
 obtain ⟨hk,hv,hn1,hn2⟩:=ho
 have hmg:y8 o.key (qJ X) = (y8 o.key X).map (·.1):=zFu _ _ _
 unfold qL
 refine zH fun o3=>?_
 refine yB (b:=o3) (x:=bs o.key) ?_
 have sum:∀ (a:Int) (E:zC),-9223372036854775808 ≤ a→a ≤ 9223372036854775807→¬ ((qz n M (qJ X) o.key).has = true∧(qz n M (qJ X) o.key).val.length ≠ 8)→a = (if (qz n M (qJ X) o.key).has then numOf (qz n M (qJ X) o.key).val else 0) →
   HG B (blk o3 (.cells (opF (o,osl)).toArray qj (0,0))::zAf rb st mb os X O (zk st n M::Γ)) (qL.s1 Q (some ⟨rb,0,none⟩) ⟨o3,0,none⟩ a):=fun a E ha1 ha2 hn8 hae=>by
  have done:∀ t,t = zC4 a o.n→HG B (blk o3 (.cells (opF (o,osl)).toArray qj (0,0))::zAf rb st mb os X O (zk st n M::Γ)) (qL.s2 Q (some ⟨rb,0,none⟩) ⟨o3,0,none⟩ a t):=fun t ht=>by
   unfold qL.s2
   refine zF (fun hb=>?_) fun hb=>?_
   ·have e:zFa n M (qJ X) o.key o.n = (qJ X,111):=by unfold zFa; rw [if_neg hn8,← hae,if_pos (by rw [← ht,hb])]
    rw [e] at h
    exact zB (h X rfl hX)
   ·have hov:¬ zC4 a o.n = true:=by rw [← ht,hb]; simp
    have e:zFa n M (qJ X) o.key o.n = (setW n M (qJ X) o.key true (valOf (a + o.n)),0):=by unfold zFa; rw [if_neg hn8,← hae,if_neg hov]
    rw [e] at h
    refine vo ?_
    refine zNe ?_
    refine jC (b:=o3) (x:=bs o.key) ?_
    refine jC (b:=o3) (x:=o.n) ?_
    refine qB ?_ (by simp only [zC4,decide_eq_true_eq] at hov; omega) (by simp only [zC4,decide_eq_true_eq] at hov; omega)
    refine fun w hw=>zLO hw fun vs w hw=>?_
    refine hg hw ?_
    clear hw w
    refine zBC ?_
    refine zB (Δ:=zAf rb st mb os X O (zk st n M::Bytes yK vs (valOf (a + o.n))::Γ)) ?_
    refine zKX (val:=valOf (a + o.n)) hk hX (by rw [zOW]; omega) (fun w hw=>?_) fun s hok=>?_
    ·exact zKW (hw.drops (Δ:=Bytes yK vs (valOf (a + o.n))::Γ))
    ·refine zB (Δ:=zAf rb st mb os (vS o.key (({ qz n M (qJ X) o.key with has:=true,val:=valOf (a + o.n) }:Rec),s) X) O (zk st n M::Γ)) ?_
     exact h _ zJo (zLz hX hok)
  unfold qL.s1
  refine yB (b:=o3) (x:=o.n) ?_
  refine zF (fun hb=>?_) fun hb=>?_
  ·have hb':0 < o.n:=by simpa using hb
   refine yB (b:=o3) (x:=o.n) ?_
   refine qB ?_
   refine zF (fun hc=>?_) fun hc=>?_
   ·refine done _ ?_
    have:9223372036854775807 - o.n < a:=by simpa using hc
    symm; simp only [zC4,decide_eq_true_eq]; omega
   ·have hc':¬ 9223372036854775807 - o.n < a:=by simpa using hc
    refine yB (b:=o3) (x:=o.n) ?_
    refine s_f ?_
    refine done _ ?_
    symm; simp only [zC4,decide_eq_false_iff_not]; omega
  ·have hb':¬ 0 < o.n:=by simpa using hb
   refine yB (b:=o3) (x:=o.n) ?_
   refine zF (fun hc=>?_) fun hc=>?_
   ·have hc':o.n < 0:=by simpa using hc
    refine yB (b:=o3) (x:=o.n) ?_
    refine qB ?_
    refine done _ ?_
    simp only [zC4,hb',hc',false_and,true_and,false_or]
   ·have hc':¬ o.n < 0:=by simpa using hc
    refine done _ ?_
    simp only [zC4,hb',hc',false_and,or_self,decide_false]
 have rest:∀ (r:Rec) (s:Sl) (A:zC),r = qz n M (qJ X) o.key→(∀ w,Holds B (A::blk o3 (.cells (opF (o,osl)).toArray qj (0,0))::zAf rb st mb os X O (zk st n M::Γ)) w→RdB w s r.val) →
   HG B (A::blk o3 (.cells (opF (o,osl)).toArray qj (0,0))::zAf rb st mb os X O (zk st n M::Γ)) (New yc [.bool false,Sl.val ⟨none,0,0⟩,.int .i64 0,.int .u64 0].toArray fun x5=>StN x5 4 (zII r s) <| Ld x5 Value.bool fun t13=>Ite t13
    (Ld (x5.add 1) Sl.val fun t16=>zAF.call t16 fun t17x0 t17x1=>Ite (!t17x1) (Q 110) (qL.s1 Q (some ⟨rb,0,none⟩) ⟨o3,0,none⟩ t17x0)) (qL.s1 Q (some ⟨rb,0,none⟩) ⟨o3,0,none⟩ 0)):=fun r s A hr hrd=>by
  subst hr
  refine zH fun x5=>?_
  refine qA (b:=x5) (l':=jh (qz n M (qJ X) o.key) s) ?_
  refine yB (b:=x5) (x:=(qz n M (qJ X) o.key).has) ?_
  refine zF (fun hb=>?_) fun hb=>?_
  ·refine yB (b:=x5) (x:=s) ?_
   refine fun w hw=>zKU (hrd w hw.tail) ?_
   refine hg hw ?_
   clear hw w
   refine zF (fun hc=>?_) fun hc=>?_
   ·have hc':(qz n M (qJ X) o.key).val.length ≠ 8:=by simpa using hc
    have e:zFa n M (qJ X) o.key o.n = (qJ X,110):=by unfold zFa; rw [if_pos ⟨hb,hc'⟩]
    rw [e] at h
    exact zB (h X rfl hX)
   ·have hc':(qz n M (qJ X) o.key).val.length = 8:=by simpa using hc
    rw [if_pos hc']
    refine zB (Δ:=blk o3 (.cells (opF (o,osl)).toArray qj (0,0))::zAf rb st mb os X O (zk st n M::Γ)) ?_
    refine sum _ A (zIx _).1 (zIx _).2 (fun h5=>h5.2 hc') ?_
    rw [if_pos hb]; rfl
  ·refine zB (Δ:=blk o3 (.cells (opF (o,osl)).toArray qj (0,0))::zAf rb st mb os X O (zk st n M::Γ)) ?_
   refine sum _ A (by omega) (by omega) (fun h5=>by rw [hb] at h5; exact absurd h5.1 (by simp)) ?_
   rw [hb]; rfl
 refine zB (Δ:=zAf rb st mb os X O (zk st n M::blk o3 (.cells (opF (o,osl)).toArray qj (0,0))::Γ)) ?_
 refine zHy hk hX (fun r s hm hok hrd=>?_) fun hm s hok=>?_
 ·refine fun w hw=>?_
  refine hg (show Holds B (pur True::_) w from Holds.pur.2 ⟨trivial,hw⟩) ?_
  clear hw w
  refine zB (Δ:=pur True::blk o3 (.cells (opF (o,osl)).toArray qj (0,0))::zAf rb st mb os X O (zk st n M::Γ)) ?_
  refine rest r s _ ?_ fun w hw=>hrd w hw.drops
  unfold qz; rw [hmg,hm]; rfl
 ·refine zB (Δ:=Bytes yK s (zx n M (bs o.key)).val::blk o3 (.cells (opF (o,osl)).toArray qj (0,0))::zAf rb st mb os X O (zk st n M::Γ)) ?_
  refine rest _ s _ ?_ fun w hw=>zKW hw
  unfold qz; rw [hmg,hm]; rfl
theorem zNt {a b:Sl} {xs ys:List UInt8} {q:Bool→K} (ha:∀ w,Holds B Γ w→RdB w a xs) (hb:∀ w,Holds B Γ w→RdB w b ys) (h:HG B Γ (q (decide (xs = ys)))):HG B Γ (bytes_Equal.call a b q):=fun w hw=>by
 refine zMa _ _ _ _ ?_
 unfold bytes_Equal
 refine zWj (by kernel_rfl) (ha w hw) ?_
 refine zWj (by kernel_rfl) (hb w hw) ?_
 have e:((bs xs).toList == (bs ys).toList) = decide (xs = ys):=by rw [xY,xY]; by_cases h:xs = ys <;> simp [h]
 show q ((bs xs).toList == (bs ys).toList) w
 rw [e]
 exact h w hw
theorem zVb {x:(Bool×List UInt8)×Sl} {q:K} (h:HG B (Sep.stars ((O++[x]).map oB)::Γ) q):HG B (oB x::Sep.stars (O.map oB)::Γ) q:=by
 have:=zAb (F:=oB) (A:=O) (C:=[]) (x:=x) h
 rwa [List.append_nil] at this
theorem zOX {os':Sl} {x:(Bool×List UInt8)×Sl} {q:K} (h:HG B (zAf rb st mb os' X (O++[x]) Γ) q) :
  HG B (oB x::Sep.stars (O.map oB)::SlC yC 2 os' (O.flatMap oF++oF x)::blk rb (.cells [.pointer (some ⟨st,0,none⟩),.map (some mb),os'.val].toArray zBB (0,0))::xE qb wV mb X::Sep.stars (X.map wB)::Γ) q:=by
 refine zVb ?_
 have e:O.flatMap oF++oF x = (O++[x]).flatMap oF:=by simp
 rw [e]
 exact zB h
theorem zSz {Q:Int→K} {o:OpM} {osl:Sl} (ho:o.ok) (hX:∀ p ∈ X,p.2.1.ok) (hO:O.length < 1000000) (hv:∀ w,Holds B Γ w→RdB w osl o.val)
  (h:∀ os' X' O',qJ X' = (stepW n M (qJ X) (O.map Prod.fst) o).1→O'.map Prod.fst = (stepW n M (qJ X) (O.map Prod.fst) o).2.1→(∀ p ∈ X',p.2.1.ok)→HG B (zAf rb st mb os' X' O' (zk st n M::Γ)) (Q (stepW n M (qJ X) (O.map Prod.fst) o).2.2)) :
  HG B (zAf rb st mb os X O (zk st n M::Γ)) (yM.call (some ⟨rb,0,none⟩) (opF (o,osl)).toArray Q):=fun w hw=>by
 refine zKN _ _ _ _ ?_
 refine hg hw ?_
 clear hw w
 have hk:=ho.1
 have hvl:=ho.2.1
 have hmg:y8 o.key (qJ X) = (y8 o.key X).map (·.1):=zFu _ _ _
 unfold yM
 refine zH fun o3=>?_
 refine yB (b:=o3) (x:=bs o.key) ?_
 have rest:∀ (r:Rec) (s:Sl) (A:zC),r = qz n M (qJ X) o.key→r.ok→(∀ w,Holds B (A::blk o3 (.cells (opF (o,osl)).toArray qj (0,0))::zAf rb st mb os X O (zk st n M::Γ)) w→RdB w s r.val) →
   HG B (A::blk o3 (.cells (opF (o,osl)).toArray qj (0,0))::zAf rb st mb os X O (zk st n M::Γ)) ((fun t9=>New yc [.bool false,Sl.val ⟨none,0,0⟩,.int .i64 0,.int .u64 0].toArray fun x5=>StN x5 4 t9<|
 Ld (⟨o3,0,none⟩:Addr) (Value.int .i64) fun t11=>
 Ite (decide (t11 = 1))
  (Dr <| yh fun S=>
  Nn (some ⟨rb,0,none⟩) fun t16=>
  LdS S (t16.add 2) Sl.val fun t18=>
  LdS S x5 Value.bool fun t20=>
  LdS S (x5.add 1) Sl.val fun t22=>
  vK.call t22 fun t23=>
  Sv S<|
  Bld #[(.bool false),(Sl.val ⟨none,0,0⟩)] (fun i=>some (i * 2,2)) [(0,(.agg #[(.bool t20),(Sl.val t23)]))] fun ct25=>
  New yC ct25 fun t25=>
  Sv S<|
  Do Tryz.prog (Builtin.append_ #[zCU,zCU] zCU #[(Sl.val t18),(Sl.val (Sl.mk (some t25) 1 1))]) Sl.val fun t26=>
  St (t16.add 2) (Sl.val t26)<|
  yM.s1 Q)
  (Ite (decide (t11 = 7))
   (Dr <| yh fun S=>
   Nn (some ⟨rb,0,none⟩) fun t33=>
   LdS S (t33.add 2) Sl.val fun t35=>
   LdS S ((⟨o3,0,none⟩:Addr).add 2) Sl.val fun t37=>
   vK.call t37 fun t38=>
   Sv S<|
   Bld #[(.bool false),(Sl.val ⟨none,0,0⟩)] (fun i=>some (i * 2,2)) [(0,(.agg #[(.bool true),(Sl.val t38)]))] fun ct40=>
   New yC ct40 fun t40=>
   Sv S<|
   Do Tryz.prog (Builtin.append_ #[zCU,zCU] zCU #[(Sl.val t35),(Sl.val (Sl.mk (some t40) 1 1))]) Sl.val fun t41=>
   St (t33.add 2) (Sl.val t41)<|
   yM.s1 Q)
   (Ite (decide (t11 = 2))
    (Ld ((⟨o3,0,none⟩:Addr).add 1) Value.string fun t48=>
    Ld ((⟨o3,0,none⟩:Addr).add 2) Sl.val fun t50=>
    zAA.call (some ⟨rb,0,none⟩) t48 true t50<|
    yM.s1 Q)
    (Ite (decide (t11 = 3))
     (Ld ((⟨o3,0,none⟩:Addr).add 1) Value.string fun t56=>
     zAA.call (some ⟨rb,0,none⟩) t56 false (Sl.mk none 0 0)<|
     yM.s1 Q)
     (Ite (decide (t11 = 4))
      (Ld x5 Value.bool fun t61=>
      Ite (!t61)
       (yM.s2 Q true)
       (Ld (x5.add 1) Sl.val fun t65=>
       Ld ((⟨o3,0,none⟩:Addr).add 2) Sl.val fun t67=>
       bytes_Equal.call t65 t67 fun t68=>
       yM.s2 Q (!t68)))
      (Ite (decide (t11 = 5))
       (Ld x5 Value.bool fun t74=>
       Ite t74
        (Q 110)
        (yM.s1 Q))
       (Ite (decide (t11 = 6))
        (LdN (⟨o3,0,none⟩:Addr) 4 fun t78=>
        qL.call (some ⟨rb,0,none⟩) t78 fun t79=>
        Q t79)
        (yM.s1 Q)))))))) (zII r s)):=fun r s A hr hok hrd=>by
  subst hr
  dsimp only
  refine zH fun x5=>?_
  refine qA (b:=x5) (l':=jh (qz n M (qJ X) o.key) s) ?_
  refine yB (b:=o3) (x:=o.kind) ?_
  refine yS os fun a1 a2 a3 a4=>?_
  rw [zX _ 2 zGJ] at a1
  refine zF (fun hb=>?_) fun hb1=>?_
  ·have hb':o.kind = 1:=by simpa using hb
   have e:stepW n M (qJ X) (O.map Prod.fst) o = (qJ X,O.map Prod.fst++[((qz n M (qJ X) o.key).has,(qz n M (qJ X) o.key).val)],0):=by unfold stepW; rw [if_pos hb']
   rw [e] at h
   refine vo ?_
   refine zNe ?_
   refine uP ?_
   refine jC (b:=rb) (x:=os) ?_
   refine jC (b:=x5) (x:=(qz n M (qJ X) o.key).has) ?_
   refine jC (b:=x5) (x:=s) ?_
   refine zBz (fun w hw=>hrd w hw.tail) hok.2.2 fun s' _=>?_
   refine zBC ?_
   refine zBf (cs:=oF (((qz n M (qJ X) o.key).has,(qz n M (qJ X) o.key).val),s')) ?_
   refine zH fun t=>?_
   refine zBC ?_
   refine qN (esz:=2) (s:=os) (x:=⟨some ⟨t,0,none⟩,1,1⟩) (us:=oF (((qz n M (qJ X) o.key).has,(qz n M (qJ X) o.key).val),s')) (jX rfl) (by simp [oF,yu]) (by simp only; omega) fun os' hos'=>?_
   refine zCB (b:=rb) ?_
   unfold yM.s1
   refine zB (Δ:=oB (((qz n M (qJ X) o.key).has,(qz n M (qJ X) o.key).val),s')::Sep.stars (O.map oB)::SlC yC 2 os' (O.flatMap oF++oF (((qz n M (qJ X) o.key).has,(qz n M (qJ X) o.key).val),s'))::blk rb (.cells [.pointer (some ⟨st,0,none⟩),.map (some mb),os'.val].toArray zBB (0,0))::xE qb wV mb X::Sep.stars (X.map wB)::zk st n M::Γ) ?_
   refine zOX ?_
   exact h os' X _ rfl (by simp) hX
  have hb1':¬ o.kind = 1:=by simpa using hb1
  refine zF (fun hb=>?_) fun hb7=>?_
  ·have hb':o.kind = 7:=by simpa using hb
   have e:stepW n M (qJ X) (O.map Prod.fst) o = (qJ X,O.map Prod.fst++[(true,o.val)],0):=by unfold stepW; rw [if_neg hb1',if_pos hb']
   rw [e] at h
   refine vo ?_
   refine zNe ?_
   refine uP ?_
   refine jC (b:=rb) (x:=os) ?_
   refine jC (b:=o3) (x:=osl) ?_
   refine zBz (fun w hw=>hv w hw.drops) hvl fun s' _=>?_
   refine zBC ?_
   refine zBf (cs:=oF ((true,o.val),s')) ?_
   refine zH fun t=>?_
   refine zBC ?_
   refine qN (esz:=2) (s:=os) (x:=⟨some ⟨t,0,none⟩,1,1⟩) (us:=oF ((true,o.val),s')) (jX rfl) (by simp [oF,yu]) (by simp only; omega) fun os' hos'=>?_
   refine zCB (b:=rb) ?_
   unfold yM.s1
   refine zB (Δ:=oB ((true,o.val),s')::Sep.stars (O.map oB)::SlC yC 2 os' (O.flatMap oF++oF ((true,o.val),s'))::blk rb (.cells [.pointer (some ⟨st,0,none⟩),.map (some mb),os'.val].toArray zBB (0,0))::xE qb wV mb X::Sep.stars (X.map wB)::zk st n M::Γ) ?_
   refine zOX ?_
   exact h os' X _ rfl (by simp) hX
  have hb7':¬ o.kind = 7:=by simpa using hb7
  refine zF (fun hb=>?_) fun hb2=>?_
  ·have hb':o.kind = 2:=by simpa using hb
   have e:stepW n M (qJ X) (O.map Prod.fst) o = (setW n M (qJ X) o.key true o.val,O.map Prod.fst,0):=by unfold stepW; rw [if_neg hb1',if_neg hb7',if_pos hb']
   rw [e] at h
   refine yB (b:=o3) (x:=bs o.key) ?_
   refine yB (b:=o3) (x:=osl) ?_
   refine zB (Δ:=zAf rb st mb os X O (zk st n M::Γ)) ?_
   refine zKX hk hX hvl (fun w hw=>hv w hw.drops) fun s hok=>?_
   exact h os _ O zJo rfl (zLz hX hok)
  have hb2':¬ o.kind = 2:=by simpa using hb2
  refine zF (fun hb=>?_) fun hb3=>?_
  ·have hb':o.kind = 3:=by simpa using hb
   have e:stepW n M (qJ X) (O.map Prod.fst) o = (setW n M (qJ X) o.key false [],O.map Prod.fst,0):=by unfold stepW; rw [if_neg hb1',if_neg hb7',if_neg hb2',if_pos hb']
   rw [e] at h
   refine yB (b:=o3) (x:=bs o.key) ?_
   refine zB (Δ:=zAf rb st mb os X O (zk st n M::Γ)) ?_
   refine zKX (val:=[]) hk hX (by simp) (fun w hw=>RdC.none') fun s hok=>?_
   exact h os _ O zJo rfl (zLz hX hok)
  have hb3':¬ o.kind = 3:=by simpa using hb3
  refine zF (fun hb=>?_) fun hb4=>?_
  ·have hb':o.kind = 4:=by simpa using hb
   have e:stepW n M (qJ X) (O.map Prod.fst) o = (qJ X,O.map Prod.fst,if (qz n M (qJ X) o.key).has = true∧(qz n M (qJ X) o.key).val = o.val then 0 else 110):=by unfold stepW; rw [if_neg hb1',if_neg hb7',if_neg hb2',if_neg hb3',if_pos hb']
   rw [e] at h
   have fin:=h os X O rfl rfl hX
   refine yB (b:=x5) (x:=(qz n M (qJ X) o.key).has) ?_
   refine zF (fun hc=>?_) fun hc=>?_
   ·have hc':(qz n M (qJ X) o.key).has = false:=by simpa using hc
    rw [if_neg (by rw [hc']; simp)] at fin
    unfold yM.s2
    refine s_t ?_
    exact zB fin
   ·have hc':(qz n M (qJ X) o.key).has = true:=by simpa using hc
    refine yB (b:=x5) (x:=s) ?_
    refine yB (b:=o3) (x:=osl) ?_
    refine zNt (fun w hw=>hrd w hw.tail) (fun w hw=>hv w hw.drops) ?_
    unfold yM.s2
    refine zF (fun hd=>?_) fun hd=>?_
    ·have hd':¬ (qz n M (qJ X) o.key).val = o.val:=by simpa using hd
     rw [if_neg fun x=>hd' x.2] at fin
     exact zB fin
    ·have hd':(qz n M (qJ X) o.key).val = o.val:=by simpa using hd
     rw [if_pos ⟨hc',hd'⟩] at fin
     exact zB fin
  have hb4':¬ o.kind = 4:=by simpa using hb4
  refine zF (fun hb=>?_) fun hb5=>?_
  ·have hb':o.kind = 5:=by simpa using hb
   have e:stepW n M (qJ X) (O.map Prod.fst) o = (qJ X,O.map Prod.fst,if (qz n M (qJ X) o.key).has then 110 else 0):=by unfold stepW; rw [if_neg hb1',if_neg hb7',if_neg hb2',if_neg hb3',if_neg hb4',if_pos hb']
   rw [e] at h
   have fin:=h os X O rfl rfl hX
   refine yB (b:=x5) (x:=(qz n M (qJ X) o.key).has) ?_
   refine zF (fun hc=>?_) fun hc=>?_
   ·simp only [hc,if_true] at fin
    exact zB fin
   ·simp only [hc,Bool.false_eq_true,if_false] at fin
    exact zB fin
  have hb5':¬ o.kind = 5:=by simpa using hb5
  refine zF (fun hb=>?_) fun hb6=>?_
  ·have hb':o.kind = 6:=by simpa using hb
   have e:stepW n M (qJ X) (O.map Prod.fst) o = ((zFa n M (qJ X) o.key o.n).1,O.map Prod.fst,(zFa n M (qJ X) o.key o.n).2):=by unfold stepW; rw [if_neg hb1',if_neg hb7',if_neg hb2',if_neg hb3',if_neg hb4',if_neg hb5',if_pos hb']
   rw [e] at h
   refine qI (b:=o3) (l':=opF (o,osl)) ?_
   refine zB (Δ:=zAf rb st mb os X O (zk st n M::Γ)) ?_
   exact zVa ho hX fun X' h1 h2=>h os X' O h1 rfl h2
  ·have hb6':¬ o.kind = 6:=by simpa using hb6
   have e:stepW n M (qJ X) (O.map Prod.fst) o = (qJ X,O.map Prod.fst,0):=by unfold stepW; rw [if_neg hb1',if_neg hb7',if_neg hb2',if_neg hb3',if_neg hb4',if_neg hb5',if_neg hb6']
   rw [e] at h
   exact zB (h os X O rfl rfl hX)
 refine zB (Δ:=zAf rb st mb os X O (zk st n M::blk o3 (.cells (opF (o,osl)).toArray qj (0,0))::Γ)) ?_
 refine zHy hk hX (fun r s hm hok hrd=>?_) fun hm s hok=>?_
 ·refine fun w hw=>?_
  refine hg (show Holds B (pur True::_) w from Holds.pur.2 ⟨trivial,hw⟩) ?_
  clear hw w
  refine zB (Δ:=pur True::blk o3 (.cells (opF (o,osl)).toArray qj (0,0))::zAf rb st mb os X O (zk st n M::Γ)) ?_
  refine rest r s _ ?_ hok fun w hw=>hrd w hw.drops
  unfold qz; rw [hmg,hm]; rfl
 ·refine zB (Δ:=Bytes yK s (zx n M (bs o.key)).val::blk o3 (.cells (opF (o,osl)).toArray qj (0,0))::zAf rb st mb os X O (zk st n M::Γ)) ?_
  refine rest _ s _ ?_ hok fun w hw=>zKW hw
  unfold qz; rw [hmg,hm]; rfl
end
end
section
open Go Go.Sep Go.Sep.Bt
def zbN (t:TxX):Prop:=(∀ k ∈ t.writes,k.length < 1000000000000)∧(∀ x ∈ t.ops,x.1.ok)∧t.ops.length < 1000000∧t.writes.length < 1000000∧t.reads.length < 1000000∧∀ k ∈ t.reads,k.length < 1000000000000
def zDk (n:Nat) (M:zy) (to:Int):List (List UInt8)→WM→WM×Int
 | [],W=>(W,0)
 | k::ks,W=>if (qz n M W k).cnt = 18446744073709551615 then (W,111) else zDk n M to ks (vS k { qz n M W k with home:=to,cnt:=(qz n M W k).cnt + 1 } W)
theorem zEC {n:Nat} {M:zy} {to:Int} {k:List UInt8} {ks:List (List UInt8)} {W:WM}:zDk n M to (k::ks) W = if (qz n M W k).cnt = 18446744073709551615 then (W,111) else zDk n M to ks (vS k { qz n M W k with home:=to,cnt:=(qz n M W k).cnt + 1 } W):=rfl
theorem zHz {n:Nat} {M:zy} {to:Int} {W:WM}:zDk n M to [] W = (W,0):=rfl
def zCY (n:Nat) (M:zy):List OpX→WM→OM→WM×OM×Int
 | [],W,O=>(W,O,0)
 | x::xs,W,O=>if (stepW n M W O x.1).2.2 ≠ 0 then stepW n M W O x.1 else zCY n M xs (stepW n M W O x.1).1 (stepW n M W O x.1).2.1
def vT (n:Nat) (M:zy) (t:TxX):WM×OM×Int :=
 if t.kind = 2 then ((zDk n M t.to t.writes []).1,[],(zDk n M t.to t.writes []).2) else zCY n M t.ops [] []
section
variable {B:World} {Γ Δ:List zC} {rb st mb n:Nat} {os:Sl} {X:WX} {O:OX} {M:zy} {k:List UInt8}
theorem zH0 {r r':Rec} {s:Sl} (hm:y8 k X = some (r,s)) (hv:r'.val = r.val):(vS k (r',s) X).map wB = X.map wB:=by
 rcases zFs k X with ⟨h1,_⟩ | ⟨j,x,hj,h0,_,h1,h2,_⟩
 ·rw [h1] at hm; cases hm
 ·rw [h1] at hm
  injection hm with hm
  subst hm
  rw [h2,List.map_set]
  apply List.ext_getElem?
  intro i
  rw [List.getElem?_set]
  split
  ·rename_i h3
   subst h3
   simp only [List.getElem?_map,h0,Option.map_some,List.length_map,hj,if_true]
   show some (Bytes yK s r'.val) = some (Bytes yK s r.val)
   rw [hv]
  ·rfl
theorem zS0 {Q:Int→K} {t:TxX} (hX:∀ p ∈ X,p.2.1.ok) (htx:zbN t) (ht:∀ w,Holds B Γ w→RdC w t.ws 1 (t.writes.map qb))
  (h:∀ X',qJ X' = (zDk n M t.to t.writes (qJ X)).1→(∀ p ∈ X',p.2.1.ok)→HG B (zAf rb st mb os X' O (zk st n M::Γ)) (Q (zDk n M t.to t.writes (qJ X)).2)) :
  HG B (zAf rb st mb os X O (zk st n M::Γ)) (jT.call (some ⟨rb,0,none⟩) (txL t).toArray Q):=fun w hw=>by
 refine zKM _ _ _ _ ?_
 have hlen:t.ws.n = t.writes.length:=by have:=(ht w hw.drops).len; simpa using this.symm
 refine hg hw ?_
 clear hw w
 unfold jT
 refine zH fun t3=>?_
 refine yB (b:=t3) (x:=t.ws) ?_
 refine zB (Δ:=zAf rb st mb os X O (zk st n M::blk t3 (.cells (txL t).toArray yU (0,0))::Γ)) ?_
 refine xW (α:=Int) (ι:=WX×Nat) (fun x i=>x = (i.2:Int)∧i.2 ≤ t.writes.length∧(∀ p ∈ i.1,p.2.1.ok)∧zDk n M t.to (t.writes.drop i.2) (qJ i.1) = zDk n M t.to t.writes (qJ X))
  (fun x i=>zAf rb st mb os i.1 O (zk st n M::blk t3 (.cells (txL t).toArray yU (0,0))::Γ)) (fun x i=>t.writes.length - i.2) (X,0) ⟨rfl,Nat.zero_le _,hX,rfl⟩ ?_
 rintro k' _ ⟨X1,j⟩ ⟨rfl,hj,hX1,he⟩ hk'
 simp only at hj hX1 he hk' ⊢
 unfold jT.b1
 refine zF (fun hb=>?_) fun hb=>?_
 ·have hjl:j < t.writes.length:=by simp only [decide_eq_true_eq] at hb; omega
  have hd:t.writes.drop j = t.writes[j]::t.writes.drop (j + 1):=List.drop_eq_getElem_cons hjl
  have hkl:t.writes[j].length < 1000000000000:=htx.1 _ (List.getElem_mem hjl)
  have hge:t.writes[j]? = some t.writes[j]:=List.getElem?_eq_getElem hjl
  rw [hd] at he
  generalize t.writes[j] = key at he hkl hge
  refine jY (L:=t.writes) (fun w hw=>ht w hw.drops) hge ?_
  have hmg:y8 key (qJ X1) = (y8 key X1).map (·.1):=zFu _ _ _
  rw [zEC] at he
  have rest:∀ (r:Rec) (s:Sl) (A:zC),r = qz n M (qJ X1) key→r.ok→(∀ r':Rec,r'.val = r.val→∀ q:K,HG B (Sep.stars ((vS key (r',s) X1).map wB)::blk rb (.cells [.pointer (some ⟨st,0,none⟩),.map (some mb),os.val].toArray zBB (0,0))::xE qb wV mb (vS key (r',s) X1)::SlC yC 2 os (O.flatMap oF)::Sep.stars (O.map oB)::zk st n M::blk t3 (.cells (txL t).toArray yU (0,0))::Γ) q→HG B (A::Sep.stars (X1.map wB)::blk rb (.cells [.pointer (some ⟨st,0,none⟩),.map (some mb),os.val].toArray zBB (0,0))::xE qb wV mb (vS key (r',s) X1)::SlC yC 2 os (O.flatMap oF)::Sep.stars (O.map oB)::zk st n M::blk t3 (.cells (txL t).toArray yU (0,0))::Γ) q) →
    HG B (A::zAf rb st mb os X1 O (zk st n M::blk t3 (.cells (txL t).toArray yU (0,0))::Γ)) ((fun t17=>New yc [.bool false,Sl.val ⟨none,0,0⟩,.int .i64 0,.int .u64 0].toArray fun x7=>
  StN x7 4 t17<|
  Ld (x7.add 3) (Value.int .u64) fun t19=>
  Ite (decide (t19 = 18446744073709551615))
   (Q 111)
   (Ld ((⟨t3,0,none⟩:Addr).add 4) (Value.int .i64) fun t22=>
   St (x7.add 2) (.int .i64 t22)<|
   Ld (x7.add 3) (Value.int .u64) fun t25=>
   Ar (IntKind.wrap .u64 (t25 + 1)) fun t26=>
   St (x7.add 3) (.int .u64 t26)<|
   Dr<|
   Nn (some ⟨rb,0,none⟩) fun t29=>
   Ld (t29.add 1) Value.map fun t31=>
   LdN x7 4 fun t33=>
   DoU Tryz.prog (Instr.mapUpdate uw (.map t31) (.string (bs key)) (.agg t33))<|
   Ar (IntKind.wrap .i64 ((j:Int) + 1)) fun t34=>
   k' t34)) (zII r s)):=fun r s A hr hok hA=>by
   subst hr
   dsimp only
   refine zH fun x7=>?_
   refine qA (b:=x7) (l':=jh (qz n M (qJ X1) key) s) ?_
   refine yB (b:=x7) (x:=(qz n M (qJ X1) key).cnt) ?_
   refine zF (fun hc=>?_) fun hc=>?_
   ·rw [if_pos (by simpa using hc)] at he
    have:=h X1 (by rw [← he]) hX1
    rw [← he] at this
    exact zB this
   ·have hc':¬ (qz n M (qJ X1) key).cnt = 18446744073709551615:=by simpa using hc
    rw [if_neg hc'] at he
    refine yB (b:=t3) (x:=t.to) ?_
    refine zCB (b:=x7) ?_
    refine yB (b:=x7) (x:=(qz n M (qJ X1) key).cnt) ?_
    obtain ⟨o1,o2,o3⟩:=hok
    refine zAW (zA0 (by omega) (by omega)) ?_
    refine zCB (b:=x7) ?_
    refine vo ?_
    refine uP ?_
    refine yB (b:=rb) (x:=some mb) ?_
    refine qI (b:=x7) (l':=jh { qz n M (qJ X1) key with home:=t.to,cnt:=(qz n M (qJ X1) key).cnt + 1 } s) ?_
    refine zW4 (b:=mb) (enc:=qb) (cV:=wV) (v:=(({ qz n M (qJ X1) key with home:=t.to,cnt:=(qz n M (qJ X1) key).cnt + 1 }:Rec),s)) (cG:=Value.agg) rfl zQM zFy ?_
    have hwl:=htx.2.2.2.1
    refine qB ?_
    refine zB (Δ:=A::Sep.stars (X1.map wB)::blk rb (.cells [.pointer (some ⟨st,0,none⟩),.map (some mb),os.val].toArray zBB (0,0))::xE qb wV mb (vS key ({ qz n M (qJ X1) key with home:=t.to,cnt:=(qz n M (qJ X1) key).cnt + 1 },s) X1)::SlC yC 2 os (O.flatMap oF)::Sep.stars (O.map oB)::zk st n M::blk t3 (.cells (txL t).toArray yU (0,0))::Γ) ?_
    refine hA { qz n M (qJ X1) key with home:=t.to,cnt:=(qz n M (qJ X1) key).cnt + 1 } rfl _ ?_
    refine zB (Δ:=zAf rb st mb os (vS key ({ qz n M (qJ X1) key with home:=t.to,cnt:=(qz n M (qJ X1) key).cnt + 1 },s) X1) O (zk st n M::blk t3 (.cells (txL t).toArray yU (0,0))::Γ)) ?_
    refine hk' _ (vS key ({ qz n M (qJ X1) key with home:=t.to,cnt:=(qz n M (qJ X1) key).cnt + 1 },s) X1,j + 1) ⟨by simp,hjl,zLz hX1 ⟨by simp only; omega,by simp only; omega,o3⟩,?_⟩ (by simp only; omega)
    simp only
    rw [zJo]
    exact he
  refine zHy hkl hX1 (fun r s hm hok hrd=>?_) fun hm s hok=>?_
  ·refine fun w hw=>?_
   refine hg (show Holds B (pur True::_) w from Holds.pur.2 ⟨trivial,hw⟩) ?_
   clear hw w
   refine rest r s _ (by unfold qz; rw [hmg,hm]; rfl) hok fun r' hr' q hq=>?_
   rw [zH0 hm hr'] at hq
   exact zB hq
  ·refine rest _ s _ (by unfold qz; rw [hmg,hm]; rfl) hok fun r' hr' q hq=>?_
   rw [show Bytes yK s (zx n M (bs key)).val = wB (key,(r',s)) by show _ = Bytes yK s r'.val; rw [hr']]
   exact zW5 hq
 ·have hjl:j = t.writes.length:=by simp only [decide_eq_false_iff_not] at hb; omega
  rw [hjl,List.drop_length,zHz] at he
  have:=h X1 (by rw [← he]) hX1
  rw [← he] at this
  exact zB this
end
def zB5 (x:List UInt8×(Rec×Sl)):List Value:=qb x.1::jh x.2.1 x.2.2
theorem zHN (x:List UInt8×(Rec×Sl)):(zB5 x).length = 5:=rfl
def zBu {ν:Type} (W:List (List UInt8×ν)):List (List UInt8×ν):=W.mergeSort fun p q=>decide (p.1 ≤ q.1)
theorem zM0 {ν:Type} (W:List (List UInt8×ν)):(zBu W).map Prod.fst = zC3 (W.map Prod.fst):=List.map_mergeSort (fun a _ b _=>rfl)
theorem zVc (X:WX):qJ (zBu X) = zBu (qJ X):=List.map_mergeSort (fun a _ b _=>rfl)
theorem zAU {ν:Type} (W:List (List UInt8×ν)):(zBu W).Perm W:=List.mergeSort_perm _ _
abbrev uS {ν:Type} (W:List (List UInt8×ν)):Prop:=(W.map Prod.fst).Nodup
theorem zKY {ν:Type} {W:List (List UInt8×ν)} {k:List UInt8} {v:ν} (h:uS W):uS (vS k v W):=by
 unfold uS
 rw [zE1]
 split
 ·exact h
 ·rename_i hk
  refine List.nodup_append.2 ⟨h,by simp,fun a ha b hb=>?_⟩
  rw [List.mem_singleton.1 hb]
  exact fun e=>hk (e ▸ ha)
theorem zJp {ν:Type} {W:List (List UInt8×ν)} {k:List UInt8} {v:ν} (h:uS W) (hm:(k,v) ∈ W):y8 k W = some v:=by
 induction W with
 | nil=>cases hm
 | cons p W ih=>
  have h1:=List.nodup_cons.1 (show (p.1::W.map Prod.fst).Nodup from h)
  unfold y8
  rcases List.mem_cons.1 hm with rfl | hm
  ·rw [if_pos rfl]
  ·rw [if_neg (show ¬ k = p.1 from fun e=>h1.1 (by rw [← e]; exact List.mem_map.2 ⟨_,hm,rfl⟩))]
   exact ih h1.2 hm
theorem zOY {n:Nat} {M:zy} {W:WM} {O:OM} {o:OpM} (h:uS W):uS (stepW n M W O o).1:=by
 unfold stepW setW
 repeat' split
 all_goals first | exact h | exact zKY h | skip
 unfold zFa setW
 repeat' split
 all_goals first | exact h | exact zKY h
theorem zXP {n:Nat} {M:zy} {W:WM} {O:OM} {o:OpM}:(stepW n M W O o).2.1.length ≤ O.length + 1:=by
 unfold stepW
 repeat' split
 all_goals simp
theorem zRl {n:Nat} {M:zy}:∀ {xs:List OpX} {W:WM} {O:OM},uS W→uS (zCY n M xs W O).1
 | [],_,_,h=>h
 | x::xs,W,O,h=>by
  unfold zCY
  split
  ·exact zOY h
  ·exact zRl (zOY h)
theorem zOZ {n:Nat} {M:zy} {to:Int}:∀ {ks:List (List UInt8)} {W:WM},uS W→uS (zDk n M to ks W).1
 | [],_,h=>h
 | k::ks,W,h=>by
  rw [zEC]
  split
  ·exact h
  ·exact zOZ (zKY h)
theorem zM1 {n:Nat} {M:zy} {t:TxX}:uS (vT n M t).1:=by
 unfold vT
 split
 ·exact zOZ (by simp [uS])
 ·exact zRl (by simp [uS])
theorem zE4 {n:Nat} {M:zy} {x:OpX} {xs:List OpX} {W:WM} {O:OM}:zCY n M (x::xs) W O = if (stepW n M W O x.1).2.2 ≠ 0 then stepW n M W O x.1 else zCY n M xs (stepW n M W O x.1).1 (stepW n M W O x.1).2.1:=rfl
theorem zRm {n:Nat} {M:zy} {W:WM} {O:OM}:zCY n M [] W O = (W,O,0):=rfl
section
variable {B:World} {Γ Δ:List zC} {rb st mb n t4:Nat} {os:Sl} {X:WX} {O:OX} {M:zy} {k:List UInt8}
theorem zVd {Q:Array Value→Sl→K} {e:Int} (hX:uS X) (hXl:X.length ≤ 1000000)
  (hbad:e ≠ 0→HG B Γ (Q #[.int .i64 e,Sl.val ⟨none,0,0⟩] ⟨none,0,0⟩))
  (hgood:e = 0→∀ rows,HG B (SlC yC 2 os (O.flatMap oF)::Sep.stars (O.map oB)::SlC yY 5 rows ((zBu X).flatMap zB5)::Sep.stars ((zBu X).map wB)::Γ) (Q #[.int .i64 0,os.val] rows)) :
  HG B (blk t4 (.cells [.int .i64 0,Sl.val ⟨none,0,0⟩].toArray yx (0,0))::zAf rb st mb os X O Γ) (vk.s1 Q ⟨t4,0,none⟩ ⟨rb,0,none⟩ e):=by
 unfold vk.s1
 refine zF (fun hb=>?_) fun hb=>?_
 ·refine qA (b:=t4) (l':=[.int .i64 e,Sl.val ⟨none,0,0⟩]) ?_
  refine qI (b:=t4) (l':=[.int .i64 e,Sl.val ⟨none,0,0⟩]) ?_
  exact zB (hbad (by simpa using hb))
 have h0:e = 0:=by simpa using hb
 have hgood:=hgood h0
 refine yB (b:=rb) (x:=some mb) ?_
 refine zO mb ?_
 refine fun w hw=>zJm hXl hw fun ks w hw=>?_
 refine hg hw ?_
 clear hw w
 rw [← zM0]
 generalize hR:zBu X = R at *
 have hRm:∀ x ∈ R,y8 x.1 X = some x.2:=fun x hx=>zJp hX (by rw [← hR] at hx; exact (zAU X).subset hx)
 have hRl:R.length ≤ 1000000:=by rw [← hR,(zAU X).length_eq]; exact hXl
 have hperm:(R.map wB).Perm (X.map wB):=by rw [← hR]; exact (zAU X).map _
 refine yS ks fun c1 c2 c3 c4=>?_
 have hkn:ks.n = R.length:=by simpa using c1.symm
 refine fun w hw=>?_
 refine hg (show Holds B (SlC yY 5 ⟨none,0,0⟩ []::_) w from hw.zAm _ _) ?_
 clear hw w
 refine xW (α:=Sl×Int) (ι:=Nat) (fun x i=>x.2 = (i:Int)∧i ≤ R.length)
  (fun x i=>SlC yY 5 x.1 ((R.take i).flatMap zB5)::SlS ks (R.map Prod.fst)::xE qb wV mb X::blk t4 (.cells [.int .i64 0,Sl.val ⟨none,0,0⟩].toArray yx (0,0))::blk rb (.cells [.pointer (some ⟨st,0,none⟩),.map (some mb),os.val].toArray zBB (0,0))::Sep.stars (X.map wB)::SlC yC 2 os (O.flatMap oF)::Sep.stars (O.map oB)::Γ) (fun x i=>R.length - i) 0 ⟨rfl,Nat.zero_le _⟩ ?_
 rintro k' ⟨rows,jj⟩ j ⟨hj,hjl⟩ hk'
 simp only at hj hjl hk' ⊢
 subst hj
 unfold vk.b2
 refine yS rows fun d1 d2 d3 d4=>?_
 rw [zX _ 5 zHN,List.length_take,Nat.min_eq_left hjl] at d1
 refine zF (fun hb2=>?_) fun hb2=>?_
 ·have hjl2:j < R.length:=by simp only [decide_eq_true_eq] at hb2; omega
  have hge:(R.map Prod.fst)[j]? = some R[j].1:=by rw [List.getElem?_map,List.getElem?_eq_getElem hjl2]; rfl
  have hmx:=hRm _ (List.getElem_mem hjl2)
  have htk:R.take (j + 1) = R.take j++[R[j]]:=List.take_succ_eq_append_getElem hjl2
  generalize R[j] = x at hge hmx htk
  refine jY (L:=R.map Prod.fst) (fun w hw=>(yP (s:=ks) hw).1) hge ?_
  refine yB (b:=rb) (x:=some mb) ?_
  refine zZP (b:=mb) (enc:=qb) (cV:=wV) (cG:=Value.agg) (g:=fun x=>zII x.1 x.2) (z:=zXO) (a:=x.1) (fun _=>rfl) zQM zFy zUj ?_
  rw [hmx]
  refine zUK (cs:=zB5 x) ?_ rfl
  refine zBf (cs:=zB5 x) ?_
  refine zPq (s:=rows) (m:=1) (us:=zB5 x) (fun rows' hrows'=>?_)
  refine qB ?_
  have e1:(R.take j).flatMap zB5++zB5 x = (R.take (j + 1)).flatMap zB5:=by rw [htk]; simp
  rw [e1]
  exact hk' (rows',(j:Int) + 1) (j + 1) ⟨by simp,hjl2⟩ (by omega)
 ·have hjl2:j = R.length:=by simp only [decide_eq_false_iff_not] at hb2; omega
  refine yB (b:=rb) (x:=os) ?_
  refine qA (b:=t4) (l':=[.int .i64 0,os.val]) ?_
  refine qI (b:=t4) (l':=[.int .i64 0,os.val]) ?_
  rw [hjl2,List.take_length]
  refine ze (Sep.stars (X.map wB)) ?_
  refine fun w hw=>?_
  refine hg (show Holds B (Sep.stars (R.map wB)::_) w from Holds.flat.2 ((Holds.flat.1 hw).perm (hperm.symm.append_right _))) ?_
  exact zB (hgood rows)
theorem zXQ (X:WX):(qJ X).map Prod.fst = X.map Prod.fst:=by simp [qJ,Function.comp_def]
theorem zM2 {ν:Type} (W:List (List UInt8×ν)) (k:List UInt8) (v:ν):(vS k v W).length ≤ W.length + 1:=by
 have h:=congrArg List.length (zE1 W k v)
 rw [List.length_map] at h
 rw [h]
 split
 ·simp
 ·simp
theorem zVe {n:Nat} {M:zy} {W:WM} {O:OM} {o:OpM}:(stepW n M W O o).1.length ≤ W.length + 1:=by
 unfold stepW setW
 repeat' split
 all_goals first | exact zM2 _ _ _ | (simp only; omega) | skip
 unfold zFa setW
 repeat' split
 all_goals first | exact zM2 _ _ _ | (simp only; omega)
theorem zM3 {n:Nat} {M:zy}:∀ {xs:List OpX} {W:WM} {O:OM},(zCY n M xs W O).1.length ≤ W.length + xs.length
 | [],_,_=>by simp [zCY]
 | x::xs,W,O=>by
  rw [zE4]
  have:=zVe (n:=n) (M:=M) (W:=W) (O:=O) (o:=x.1)
  split
  ·simp only [List.length_cons]; omega
  ·have h2:=zM3 (n:=n) (M:=M) (xs:=xs) (W:=(stepW n M W O x.1).1) (O:=(stepW n M W O x.1).2.1)
   simp only [List.length_cons]; omega
theorem zKZ {n:Nat} {M:zy} {to:Int}:∀ {ks:List (List UInt8)} {W:WM},(zDk n M to ks W).1.length ≤ W.length + ks.length
 | [],_=>by simp [zDk]
 | k::ks,W=>by
  rw [zEC]
  split
  ·simp only [List.length_cons]; omega
  ·exact Nat.le_trans zKZ (Nat.le_trans (Nat.add_le_add_right (zM2 _ _ _) _) (by simp only [List.length_cons]; omega))
theorem zRn {Q:Array Value→Sl→K} {t:TxX} (htx:zbN t) (ht:∀ w,Holds B Γ w→zCX w t)
  (hbad:(vT n M t).2.2 ≠ 0→HG B (zk st n M::Γ) (Q #[.int .i64 (vT n M t).2.2,Sl.val ⟨none,0,0⟩] ⟨none,0,0⟩))
  (hgood:(vT n M t).2.2 = 0→∀ (os:Sl) (O:OX) (rows:Sl) (R:WX),O.map Prod.fst = (vT n M t).2.1→qJ R = zBu (vT n M t).1→(∀ p ∈ R,p.2.1.ok)→HG B (SlC yC 2 os (O.flatMap oF)::Sep.stars (O.map oB)::SlC yY 5 rows (R.flatMap zB5)::Sep.stars (R.map wB)::zk st n M::Γ) (Q #[.int .i64 0,os.val] rows)) :
  HG B (zk st n M::Γ) (vk.call (some ⟨st,0,none⟩) (txL t).toArray Q):=fun w hw=>by
 refine zRg _ _ _ _ ?_
 have hon:t.os.n = t.ops.length:=zA3 zBF (by omega) (ht w hw.drops).2.2.1
 refine hg hw ?_
 clear hw w
 unfold vk
 refine zH fun t3=>?_
 refine zH fun t4=>?_
 refine zJe (enc:=qb) (cV:=wV) fun mb=>?_
 refine zH fun rb=>?_
 refine yB (b:=t3) (x:=t.kind) ?_
 refine fun w hw=>?_
 refine hg (show Holds B (Sep.stars (([]:WX).map wB)::_) w from Holds.flat.2 hw) ?_
 clear hw w
 refine fun w hw=>?_
 refine hg (show Holds B (Sep.stars (([]:OX).map oB)::_) w from Holds.flat.2 hw) ?_
 clear hw w
 refine fun w hw=>?_
 refine hg (show Holds B (SlC yC 2 ⟨none,0,0⟩ (([]:OX).flatMap oF)::_) w from hw.zAm _ _) ?_
 clear hw w
 have fin:∀ (os:Sl) (X:WX) (O:OX) (e:Int),qJ X = (vT n M t).1→O.map Prod.fst = (vT n M t).2.1→e = (vT n M t).2.2→(∀ p ∈ X,p.2.1.ok)→HG B (blk t4 (.cells [.int .i64 0,Sl.val ⟨none,0,0⟩].toArray yx (0,0))::zAf rb st mb os X O (zk st n M::Γ)) (vk.s1 Q ⟨t4,0,none⟩ ⟨rb,0,none⟩ e):=fun os X O e h1 h2 h3 h4=>by
  have hko:uS X:=by unfold uS; rw [← zXQ,h1]; exact zM1
  have hwl:X.length ≤ 1000000:=by
   have e1:X.length = (qJ X).length:=by simp
   rw [e1,h1]
   unfold vT
   have:=htx.2.2
   split
   ·have h5:=zKZ (n:=n) (M:=M) (to:=t.to) (ks:=t.writes) (W:=[])
    simp only [List.length_nil] at h5
    simp only; omega
   ·have h5:=zM3 (n:=n) (M:=M) (xs:=t.ops) (W:=[]) (O:=[])
    simp only [List.length_nil] at h5
    omega
  refine zVd hko hwl (fun h5=>?_) fun h5 rows=>?_
  ·rw [h3]; exact hbad (by rw [← h3]; exact h5)
  ·refine hgood (by rw [← h3]; exact h5) os O rows (zBu X) h2 (by rw [zVc,h1]) fun p hp=>h4 p ((zAU X).subset hp)
 refine zF (fun hb=>?_) fun hb=>?_
 ·have hk2:t.kind = 2:=by simpa using hb
  have hr:vT n M t = ((zDk n M t.to t.writes []).1,[],(zDk n M t.to t.writes []).2):=by unfold vT; rw [if_pos hk2]
  refine qI (b:=t3) (l':=txL t) ?_
  refine zB (Δ:=zAf rb st mb ⟨none,0,0⟩ [] [] (zk st n M::blk t4 (.cells [.int .i64 0,Sl.val ⟨none,0,0⟩].toArray yx (0,0))::Γ)) ?_
  refine zS0 (by simp) htx (fun w hw=>(ht w hw.tail).2.1) fun X' h1 h2=>?_
  refine zB (Δ:=blk t4 (.cells [.int .i64 0,Sl.val ⟨none,0,0⟩].toArray yx (0,0))::zAf rb st mb ⟨none,0,0⟩ X' [] (zk st n M::Γ)) ?_
  exact fin _ X' [] _ (by rw [hr]; exact h1) (by rw [hr]; rfl) (by rw [hr]; rfl) h2
 ·have hk2:¬ t.kind = 2:=by simpa using hb
  have hr:vT n M t = zCY n M t.ops [] []:=by unfold vT; rw [if_neg hk2]
  refine yB (b:=t3) (x:=t.os) ?_
  refine zB (Δ:=zAf rb st mb ⟨none,0,0⟩ [] [] (zk st n M::blk t4 (.cells [.int .i64 0,Sl.val ⟨none,0,0⟩].toArray yx (0,0))::Γ)) ?_
  refine xW (α:=Int×Int) (ι:=Sl×WX×OX×Nat) (fun x i=>x.1 = 0∧x.2 = (i.2.2.2:Int)∧i.2.2.2 ≤ t.ops.length∧(∀ p ∈ i.2.1,p.2.1.ok)∧i.2.2.1.length ≤ i.2.2.2∧zCY n M (t.ops.drop i.2.2.2) (qJ i.2.1) (i.2.2.1.map Prod.fst) = zCY n M t.ops [] [])
   (fun x i=>zAf rb st mb i.1 i.2.1 i.2.2.1 (zk st n M::blk t4 (.cells [.int .i64 0,Sl.val ⟨none,0,0⟩].toArray yx (0,0))::Γ)) (fun x i=>t.ops.length - i.2.2.2) (⟨none,0,0⟩,[],[],0) ⟨rfl,rfl,Nat.zero_le _,by simp,Nat.le_refl _,rfl⟩ ?_
  rintro k' ⟨_,_⟩ ⟨os1,X1,O1,j⟩ ⟨rfl,rfl,hjl,hX1,hO1,he⟩ hk'
  simp only at hjl hX1 hO1 he hk' ⊢
  unfold vk.b3
  refine zF (fun hb2=>?_) fun hb2=>?_
  ·have hjl2:j < t.ops.length:=by simp only [decide_eq_true_eq] at hb2; omega
   have hge:t.ops[j]? = some t.ops[j]:=List.getElem?_eq_getElem hjl2
   have hmem:t.ops[j] ∈ t.ops:=List.getElem_mem hjl2
   rw [List.drop_eq_getElem_cons hjl2] at he
   generalize t.ops[j] = x at hge hmem he
   obtain ⟨o,osl⟩:=x
   refine zAc opF zBF (fun w hw=>(ht w hw.drops).2.2.1) hge ?_
   refine zH fun o9=>?_
   refine qA (b:=o9) (l':=opF (o,osl)) ?_
   refine qI (b:=o9) (l':=opF (o,osl)) ?_
   refine zB (Δ:=zAf rb st mb os1 X1 O1 (zk st n M::blk t4 (.cells [.int .i64 0,Sl.val ⟨none,0,0⟩].toArray yx (0,0))::Γ)) ?_
   have hol:=htx.2.2.1
   refine zSz (htx.2.1 _ hmem) hX1 (by omega) (fun w hw=>(ht w hw.tail).2.2.2 _ hmem) fun os2 X2 O2 h1 h2 h3=>?_
   rw [zE4] at he
   refine zF (fun hc=>?_) fun hc=>?_
   ·have hc':(stepW n M (qJ X1) (O1.map Prod.fst) o).2.2 ≠ 0:=by simpa using hc
    rw [if_pos hc'] at he
    refine zB (Δ:=blk t4 (.cells [.int .i64 0,Sl.val ⟨none,0,0⟩].toArray yx (0,0))::zAf rb st mb os2 X2 O2 (zk st n M::Γ)) ?_
    exact fin os2 X2 O2 _ (by rw [hr,← he,h1]) (by rw [hr,← he,h2]) (by rw [hr,← he]) h3
   ·have hc':(stepW n M (qJ X1) (O1.map Prod.fst) o).2.2 = 0:=by simpa using hc
    rw [if_neg (by simp [hc'])] at he
    refine qB ?_
    rw [hc']
    refine hk' (0,(j:Int) + 1) (os2,X2,O2,j + 1) ⟨rfl,by simp,hjl2,h3,?_,?_⟩ (by simp only; omega)
    ·have e1:=congrArg List.length h2
     have e2:=zXP (n:=n) (M:=M) (W:=qJ X1) (O:=O1.map Prod.fst) (o:=o)
     simp only [List.length_map] at e1 e2
     simp only; omega
    ·simp only
     rw [h1,h2]; exact he
  ·have hjl2:j = t.ops.length:=by simp only [decide_eq_false_iff_not] at hb2; omega
   rw [hjl2,List.drop_length,zRm] at he
   refine zB (Δ:=blk t4 (.cells [.int .i64 0,Sl.val ⟨none,0,0⟩].toArray yx (0,0))::zAf rb st mb os1 X1 O1 (zk st n M::Γ)) ?_
   exact fin os1 X1 O1 _ (by rw [hr,← he]) (by rw [hr,← he]) (by rw [hr,← he]) hX1
end
end
section
open Go Go.Sep Go.Sep.Bt
def zIy (n:Nat) (M:zy) (k:ByteArray) (xs:List UInt8):zy:=zB3 M k { zx n M k with has:=true,val:=xs }
def zLP (n:Nat) (M:zy) (k:ByteArray):zy:=zB3 M k { zx n M k with has:=false,val:=[] }
def zDL (n:Nat) (M:zy) (x:List UInt8×Rec):zy:=if (zx n M (bs x.1)).cnt ≠ x.2.cnt then (je n M (bs x.1) x.2.home).1 else M
def zBj (n:Nat) (M:zy) (x:List UInt8×Rec):zy:=if x.2.has then zIy n (zDL n M x) (bs x.1) x.2.val else zLP n (zDL n M x) (bs x.1)
def jZ (n:Nat) (M:zy) (W:WM):zy:=W.foldl (zBj n) M
theorem zM4 (n:Nat) (M:zy) (k:ByteArray) (to:Int):(je n M k to).1.length ≤ M.length + 1:=by
 unfold je
 split
 ·simp
 split
 ·simp
 exact zRP _ _ _
theorem zM5 (n:Nat) (M:zy) (x:List UInt8×Rec):(zDL n M x).length ≤ M.length + 1:=by
 unfold zDL
 split
 ·exact zM4 _ _ _ _
 ·omega
theorem zM6 (n:Nat) (M:zy) (x:List UInt8×Rec):(zBj n M x).length ≤ M.length + 2:=by
 have h:=zM5 n M x
 unfold zBj zIy zLP
 split
 ·exact Nat.le_trans (zHA _ _ _) (by omega)
 ·exact Nat.le_trans (zHA _ _ _) (by omega)
section
variable {B:World} {Γ Δ:List zC} {st n:Nat} {M:zy}
instance (priority:=high) zbo {b n m:Nat}:zDa (((⟨b,0,none⟩:Addr).add n).add m) b (n + m):=⟨by rw [uT,uT,Nat.zero_add]⟩
abbrev zcR (x:List UInt8×(Rec×Sl)):List Value:=[qb x.1,.bool x.2.1.has,x.2.2.val,.int .i64 x.2.1.home,.int .u64 x.2.1.cnt]
theorem zXR {s:Sl} {R:WX} {Q:K} (hr:∀ w,Holds B Γ w→RdC w s 5 (R.flatMap zB5)) (hv:∀ x ∈ R,∀ w,Holds B Γ w→RdB w x.2.2 x.2.1.val) (hR:∀ x ∈ R,x.1.length < 1000000000∧x.2.1.ok) (hL:M.length + 2 * R.length < 100000000)
  (h:HG B (zk st n (jZ n M (qJ R))::Γ) Q):HG B (zk st n M::Γ) (xg.call (some ⟨st,0,none⟩) s Q):=fun w hw=>by
 refine zNi _ _ _ _ ?_
 have hsn:s.n = R.length:=zA3 zHN (by omega) (hr w hw.tail)
 refine hg hw ?_
 clear hw w
 unfold xg
 refine xW (α:=Int) (ι:=Nat×zy) (fun x i=>x = (i.1:Int)∧i.1 ≤ R.length∧i.2 = jZ n M (qJ (R.take i.1))∧i.2.length ≤ M.length + 2 * i.1) (fun x i=>zk st n i.2::Γ) (fun x i=>R.length - i.1) (0,M) ⟨rfl,Nat.zero_le _,rfl,Nat.le_refl _⟩ ?_
 rintro k' _ ⟨i,N⟩ ⟨rfl,hi,hN,hNl⟩ hk'
 simp only at hi hN hNl hk' ⊢
 unfold xg.b1
 refine zF (fun hb=>?_) fun hb=>?_
 ·have hil:i < R.length:=by simp only [decide_eq_true_eq] at hb; omega
  have hge:R[i]? = some R[i]:=List.getElem?_eq_getElem hil
  have hmem:R[i] ∈ R:=List.getElem_mem hil
  have htk:R.take (i + 1) = R.take i++[R[i]]:=List.take_succ_eq_append_getElem hil
  generalize R[i] = x at hge hmem htk
  obtain ⟨hxk,hxo⟩:=hR x hmem
  have hsz:(bs x.1).size = x.1.length:=rfl
  refine zAc zB5 zHN (fun w hw=>hr w hw.tail) hge ?_
  refine zH fun w5=>?_
  refine qA (b:=w5) (l':=zcR x) ?_
  repeat refine zT ?_
  refine zO st ?_
  refine zAn (by omega) fun sl hok=>?_
  repeat refine zT ?_
  have next:∀ N2,N2 = zDL n N (x.1,x.2.1)→HG B (blk w5 (.cells (zcR x).toArray yY (0,0))::zk st n N2::Γ) (xg.s3 Q k' (some ⟨st,0,none⟩) ⟨w5,0,none⟩ s (s.n:Int) (i:Int)):=fun N2 hN2=>by
   have hl0:=zM5 n N (x.1,x.2.1)
   have hl1:=zM6 n N (x.1,x.2.1)
   have fin:HG B (zk st n (zBj n N (x.1,x.2.1))::Γ) (xg.s2 Q k' (some ⟨st,0,none⟩) s (s.n:Int) (i:Int)):=by
    unfold xg.s2
    refine qB ?_
    refine hk' ((i:Int) + 1) (i + 1,zBj n N (x.1,x.2.1)) ⟨by simp,hil,?_,by simp only; omega⟩ (by simp only; omega)
    simp only [htk,qJ,List.map_append,List.map_cons,List.map_nil,jZ,List.foldl_append,List.foldl_cons,List.foldl_nil]
    rw [hN]; rfl
   unfold xg.s3
   repeat refine zT ?_
   refine zF (fun hc=>?_) fun hc=>?_
   ·repeat refine zT ?_
    refine zO st ?_
    refine zMm (by omega) (by rw [hN2]; omega) (fun w hw=>hv x hmem w hw.drops) hxo.2.2 ?_
    have e:zB3 N2 (bs x.1) { zx n N2 (bs x.1) with has:=true,val:=x.2.1.val } = zBj n N (x.1,x.2.1):=by
     unfold zBj zIy; rw [if_pos hc,← hN2]
    rw [e]
    exact zB fin
   ·repeat refine zT ?_
    refine zO st ?_
    refine zKH (by omega) (by rw [hN2]; omega) ?_
    have e:zB3 N2 (bs x.1) { zx n N2 (bs x.1) with has:=false,val:=[] } = zBj n N (x.1,x.2.1):=by
     unfold zBj zLP; rw [if_neg (by simp [hc]),← hN2]
    rw [e]
    exact zB fin
  refine zF (fun hc=>?_) fun hc=>?_
  ·have hc':(zx n N (bs x.1)).cnt ≠ x.2.1.cnt:=by simpa using hc
   repeat refine zT ?_
   refine zO st ?_
   refine zMh (M:=N) (by omega) (by omega) ?_
   exact zB (next _ (by unfold zDL; rw [if_pos hc']))
  ·have hc':¬ (zx n N (bs x.1)).cnt ≠ x.2.1.cnt:=by simpa using hc
   exact zB (next _ (by unfold zDL; rw [if_neg hc']))
 ·have hil:i = R.length:=by simp only [decide_eq_false_iff_not] at hb; omega
  rw [hil,List.take_length] at hN
  rw [hN]
  exact h
end
end
section
open Go Go.Sep Go.Sep.Bt
section
variable {B:World} {Γ Δ:List zC}
end
end
section
open Go Go.Sep
def zIc:Sh:=(.fld 0 1 (.int .i64) (.fld 1 1 (.sl .str 1) (.fld 2 1 (.sl .str 1) (.fld 3 1 (.sl (.fld 0 1 (.int .i64) (.fld 1 1 .str (.fld 2 1 (.sl (.int .u8) 1) (.fld 3 1 (.int .i64) .nil)))) 4) (.fld 4 1 (.int .i64) .nil)))))
def zK4:Sh:=(.sl (.int .i64) 1)
theorem zcS:zPm Tryz.prog 9 42 = zK4:=by kernel_rfl
def zBO:Sh:=(.sl (.fld 0 1 (.int .i64) (.fld 1 1 (.int .i64) (.fld 2 5 (.fld 0 1 (.int .i64) (.fld 1 1 (.sl .str 1) (.fld 2 1 (.sl .str 1) (.fld 3 1 (.sl (.fld 0 1 (.int .i64) (.fld 1 1 .str (.fld 2 1 (.sl (.int .u8) 1) (.fld 3 1 (.int .i64) .nil)))) 4) (.fld 4 1 (.int .i64) .nil))))) .nil))) 7)
theorem zcT:zPm Tryz.prog 9 70 = zBO:=by kernel_rfl
end
end Go.Proofs.YtdemfamgieonbaaGreat
namespace Go.Proofs.YtdemfamgieonbaaGreat
open Go Go.Sep Go.Sep.Bt
section
variable {B:World} {Γ Δ:List zC} {k:K} {st sd n:Nat} {M:zy} {P:Pool}
theorem zbO {s:Sl} {xs:List UInt8} (h:HG B (vw (P++[(s,xs)])::Γ) k):HG B (Bytes yK s xs::vw P::Γ) k:=by
 have:=zAb (F:=fun p:Sl×List UInt8=>Bytes yK p.1 p.2) (A:=P) (C:=[]) (x:=(s,xs)) h
 rwa [List.append_nil] at this
theorem zRo {k:ByteArray} {v:Sl} {xs:List UInt8} {Q:K} (hk:k.size < 1000000000000) (hL:M.length < 1000000) (hr:∀ w,Holds B Γ w→RdB w v xs) (hx:xs.length ≤ 90000000)
  (h:∀ P',(∀ x ∈ P,x ∈ P')→HG B (uO sd n (zIy n M k xs) P'::vw P'::Γ) Q):HG B (uO sd n M P::vw P::Γ) (zAR.call (some ⟨sd,0,none⟩) k v Q):=fun w hw=>by
 refine zIt _ _ _ _ _ ?_
 have hvn:v.n = xs.length:=by have:=(hr w hw.drops).len; simpa using this.symm
 refine hg hw ?_
 clear hw w
 unfold zAR
 refine zGI hk (by omega) fun sl hok hv=>?_
 have hsp:zIy n M k xs = zB3 M k { zx n M k with has:=true,val:=xs }:=rfl
 rw [hsp] at h
 generalize zx n M k = r at *
 refine zH fun r6=>?_
 refine qA (b:=r6) (l':=jh r sl) ?_
 repeat refine zT ?_
 refine zH fun t12=>?_
 repeat refine zT ?_
 refine jy (A':=SlC yK 1 ⟨some ⟨t12,0,none⟩,0,0⟩ []) (zAB (vs:=[]) rfl (by simp)) ?_
 refine qN (s:=⟨some ⟨t12,0,none⟩,0,0⟩) (us:=xs.map ji) (fun w hw=>hr w hw.drops) (zFA _) (by simp only; omega) fun s' hs'=>?_
 rw [List.nil_append]
 repeat refine zT ?_
 show HG B (Bytes yK s' xs::_) _
 refine zB (Δ:=Bytes yK s' xs::vw P::uO sd n M P::Γ) ?_
 refine zbO ?_
 refine zO sd ?_
 refine zQL (P':=P++[(s',xs)]) (fun x hx=>List.mem_append_left _ hx) ?_
 obtain ⟨o1,o2,o3⟩:=hok
 refine zLy (r:={ r with has:=true,val:=xs }) ⟨o1,o2,by simp only; omega⟩ (.inr (by simp)) (by omega) ?_
 have h2:=h (P++[(s',xs)]) (fun x hx=>List.mem_append_left _ hx)
 exact zB h2
end
end Go.Proofs.YtdemfamgieonbaaGreat
namespace Go.Proofs.YtdemfamgieonbaaGreat
open Go Go.Sep Go.RowKit
end Go.Proofs.YtdemfamgieonbaaGreat
namespace Go.Proofs.YtdemfamgieonbaaGreat
section
open Go Go.Sep
def vZ (t:TxX) (o:OpM):Bool :=
 if 32 < o.val.length∨o.kind < 1∨7 < o.kind then false
 else if o.kind = 7 then decide (o.key = []) && decide (o.n = 0)
 else if o.key ∉ t.writes∧(o.key ∉ t.reads∨o.kind = 2∨o.kind = 3∨o.kind = 6) then false
 else if o.kind ≠ 6∧o.n ≠ 0 then false
 else decide (o.kind = 2) || (decide (o.kind = 4) || decide (o.val.length = 0))
abbrev zDl (L:List TX):Prop:=L.Pairwise (· < ·)
abbrev zAg (n:Int) (t:TxX):Prop:=n < 1∨3 < n∨¬ zDl t.reads∨¬ zDl t.writes∨8 < t.reads.length∨8 < t.writes.length∨8 < t.reads.length + t.writes.length
abbrev zGK (t:TxX):Prop:=(∃ k ∈ t.reads++t.writes,k.length < 1∨16 < k.length)∨∃ k ∈ t.reads,k ∈ t.writes
def xR (n:Int) (t:TxX):Bool :=
 if zAg n t then false
 else if zGK t then false
 else if t.kind = 2 then decide (t.reads.length = 0) && (decide (t.ops.length = 0) && (decide (t.writes.length = 1) && (decide (0 ≤ t.to) && decide (t.to < n))))
 else if t.kind ≠ 1∨t.to ≠ 0∨16 < t.ops.length then false
 else t.ops.all fun x=>vZ t x.1
theorem zFH {a b:TxX} (h:zEk a b) (n:Int):xR n a = xR n b:=by
 obtain ⟨h1,h2,h3,h4,h5⟩:=h
 have hl:a.ops.length = b.ops.length:=by have:=congrArg List.length h5; simpa using this
 have ho:(a.ops.all fun x=>vZ a x.1) = (b.ops.all fun x=>vZ b x.1):=by
  have e:∀ o,vZ a o = vZ b o:=fun o=>by unfold vZ; rw [h3,h4]
  have e2:∀ (t:TxX),(t.ops.all fun x=>vZ b x.1) = ((t.ops.map Prod.fst).all fun o=>vZ b o):=fun t=>by rw [List.all_map]; rfl
  simp only [e]
  rw [e2 a,e2 b,h5]
 unfold xR zAg zGK
 rw [h1,h2,h3,h4,hl,ho]
theorem zOa {α β:Type} (f:α→β) (L:List α):L.flatMap (fun x=>[f x]) = L.map f:=by induction L <;> simp_all
section
variable {B:World} {Γ Δ:List zC} {k:K}
theorem zQN {α:Type} {a:Addr} {cs:List Value} {c:α→Value} {x:α} {k:α→K} (hn:∀ w,Holds B Γ w→RdN w a cs.toArray) (hv:cs[0]? = some (c x)) (h:HG B Γ (k x)):HG B Γ (Ld a c k):=fun w hw=>⟨x,by
 have:=hn w hw 0 (by have:=(List.getElem?_eq_some_iff.1 hv).1; simpa using this)
 rw [add0] at this
 rw [this]; simpa using hv,h w hw⟩
theorem zFT {α:Type} (f:α→List Value) {esz:Nat} {L:List α} {s:Sl} {j:Nat} {jj:Int} {x:α} {k:Addr→K} (hf:∀ x,(f x).length = esz) (he:0 < esz) (hr:∀ w,Holds B Γ w→RdC w s esz (L.flatMap f)) (hx:L[j]? = some x) (h:∀ t,(∀ w,RdC w s esz (L.flatMap f)→RdN w t (f x).toArray)→HG B Γ (k t)) (hj:jj = (j:Int):=by first | rfl | omega) :
  HG B Γ (Idx s jj esz k):=fun w hw=>by
 subst hj
 have hrw:=hr w hw
 have hj:j < L.length:=(List.getElem?_eq_some_iff.1 hx).1
 have hn:L.length = s.n:=by
  have:=hrw.len; rw [zX f esz hf] at this
  exact Nat.eq_of_mul_eq_mul_right he this
 cases ha:s.a with
 | none=>have:=hrw.nil ha; omega
 | some a=>
  refine ⟨a,_,ha,by omega,by omega,rfl,h _ (fun w' hw'=>?_) w hw⟩
  simp only [Int.toNat_natCast]
  exact zPn f esz hf hw' ha hx
theorem zK5 {s:Sl} {L:List TX} {Q:Bool→K} (hL:L.length < 1000000000) (hr:∀ w,Holds B Γ w→RdC w s 1 (L.map qb)) (h:HG B Γ (Q (decide (zDl L)))):HG B Γ (jV.call s Q):=fun w hw=>by
 refine zLD _ _ _ ?_
 have hn:s.n = L.length:=by have:=(hr w hw).len; simpa using this.symm
 refine Sep.hg hw ?_
 clear hw w
 unfold jV
 refine zAP (α:=Int) (fun x=>∃ i:Nat,x = (i:Int)∧1 ≤ i∧i ≤ L.length + 1∧zDl (L.take i)) (fun x=>L.length + 1 - x.toNat) ⟨1,rfl,Nat.le_refl _,by omega,?_⟩ fun k' x hx hk'=>?_
 ·match L with
  | []=>exact List.Pairwise.nil
  | x::L=>exact List.pairwise_singleton _ _
 obtain ⟨i,rfl,hi1,hi,hp⟩:=hx
 unfold jV.b1
 refine zF (fun hb=>?_) fun hb=>?_
 ·have hil:i < L.length:=by simp only [decide_eq_true_eq] at hb; omega
  obtain ⟨j,rfl⟩:∃ j,i = j + 1:=⟨i - 1,by omega⟩
  have g1:L[j]? = some L[j]:=List.getElem?_eq_getElem (by omega)
  have g2:L[j + 1]? = some L[j + 1]:=List.getElem?_eq_getElem hil
  have t1:L.take (j + 1) = L.take j++[L[j]]:=List.take_succ_eq_append_getElem (by omega)
  have t2:L.take (j + 1 + 1) = L.take (j + 1)++[L[j + 1]]:=List.take_succ_eq_append_getElem hil
  have hpi:zDl L→L[j] < L[j + 1]:=fun h=>(List.pairwise_iff_getElem.1 h) j (j + 1) (by omega) hil (by omega)
  generalize L[j] = x at g1 t1 hpi
  generalize L[j + 1] = y at g2 t2 hpi
  refine vo ?_
  refine qB ?_
  refine jY hr g1 ?_ (by omega)
  refine jY hr g2 ?_ (by omega)
  rw [xY,xY,zBx]
  refine zF (fun hc=>?_) fun hc=>?_
  ·have hxy:¬ x < y:=by simpa using hc
   rw [show decide (zDl L) = false from decide_eq_false fun h=>hxy (hpi h)] at h
   exact h
  ·have hxy:x < y:=by simpa using hc
   refine qB ?_
   refine hk' _ ⟨j + 2,by simp; omega,by omega,by omega,?_⟩ (by omega)
   rw [show j + 2 = j + 1 + 1 from rfl,t2]
   refine List.pairwise_append.2 ⟨hp,List.pairwise_singleton _ _,fun a ha b hb=>?_⟩
   rw [List.mem_singleton.1 hb]
   rw [t1] at ha hp
   rcases List.mem_append.1 ha with ha | ha
   ·exact List.lt_trans ((List.pairwise_append.1 hp).2.2 a ha x (by simp)) hxy
   ·rw [List.mem_singleton.1 ha]; exact hxy
 ·have hil:L.length ≤ i:=by simp only [decide_eq_false_iff_not] at hb; omega
  rw [List.take_of_length_le hil] at hp
  rw [show decide (zDl L) = true from decide_eq_true hp] at h
  exact h
theorem zZX {t:TxX} {x:OpX} {Q:Bool→K} (hr:∀ w,Holds B Γ w→zCX w t) (hl:t.reads.length < 100000000∧t.writes.length < 100000000) (hx:∀ w,Holds B Γ w→RdB w x.2 x.1.val) (h:HG B Γ (Q (vZ t x.1))):HG B Γ (qR.call (txL t).toArray (opF x).toArray Q):=fun w hw=>by
 refine zRN _ _ _ _ ?_
 have hxl:x.2.n = x.1.val.length:=by have:=(hx w hw).len; simpa using this.symm
 refine Sep.hg hw ?_
 clear hw w
 unfold qR
 refine zH fun t2=>?_
 refine zH fun o3=>?_
 have fin:HG B (blk o3 (.cells (opF x).toArray qj (0,0))::blk t2 (.cells (txL t).toArray yU (0,0))::Γ) (Q (vZ t x.1)):=zB h
 generalize hR:vZ t x.1 = R at fin
 unfold vZ at hR
 have S4:∀ b,(b = true ↔ x.1.kind ≠ 6∧x.1.n ≠ 0)→(if x.1.kind ≠ 6∧x.1.n ≠ 0 then false else decide (x.1.kind = 2) || (decide (x.1.kind = 4) || decide (x.1.val.length = 0))) = R→HG B (blk o3 (.cells (opF x).toArray qj (0,0))::blk t2 (.cells (txL t).toArray yU (0,0))::Γ) (qR.s4 Q ⟨o3,0,none⟩ b):=fun b hb hR=>by
  unfold qR.s4 qR.s5
  refine zF (fun hb1=>?_) fun hb1=>?_
  ·rw [if_pos (hb.1 hb1)] at hR
   rw [hR]; exact fin
  ·rw [if_neg fun h=>by rw [hb.2 h] at hb1; cases hb1] at hR
   repeat refine zT ?_
   refine zF (fun hc=>?_) fun hc=>?_
   ·rw [hc] at hR
    rw [show true = R by rw [← hR]; rfl]; exact fin
   ·repeat refine zT ?_
    rw [hc] at hR
    refine zF (fun hd=>?_) fun hd=>?_
    ·rw [hd] at hR
     rw [show true = R by rw [← hR]; rfl]; exact fin
    ·repeat refine zT ?_
     rw [hd] at hR
     rw [show decide ((x.2.n:Int) = 0) = R by rw [← hR,hxl]; simp only [Bool.false_or]; exact decide_eq_decide.2 (by omega)]
     exact fin
 have S3:∀ b,(b = true ↔ x.1.key ∉ t.writes∧(x.1.key ∉ t.reads∨x.1.kind = 2∨x.1.kind = 3∨x.1.kind = 6))→(if x.1.key ∉ t.writes∧(x.1.key ∉ t.reads∨x.1.kind = 2∨x.1.kind = 3∨x.1.kind = 6) then false else if x.1.kind ≠ 6∧x.1.n ≠ 0 then false else decide (x.1.kind = 2) || (decide (x.1.kind = 4) || decide (x.1.val.length = 0))) = R→HG B (blk o3 (.cells (opF x).toArray qj (0,0))::blk t2 (.cells (txL t).toArray yU (0,0))::Γ) (qR.s3 Q ⟨o3,0,none⟩ b):=fun b hb hR=>by
  unfold qR.s3
  refine zF (fun hb1=>?_) fun hb1=>?_
  ·rw [if_pos (hb.1 hb1)] at hR
   rw [hR]; exact fin
  ·rw [if_neg fun h=>by rw [hb.2 h] at hb1; cases hb1] at hR
   repeat refine zT ?_
   refine zF (fun hc=>?_) fun hc=>?_
   ·have hc':x.1.kind ≠ 6:=by simpa using hc
    repeat refine zT ?_
    exact S4 _ (by simp [hc']) hR
   ·have hc':x.1.kind = 6:=by simpa using hc
    exact S4 _ (by simp [hc']) hR
 have S1:∀ b,(b = true ↔ 32 < x.1.val.length∨x.1.kind < 1∨7 < x.1.kind)→HG B (blk o3 (.cells (opF x).toArray qj (0,0))::blk t2 (.cells (txL t).toArray yU (0,0))::Γ) (qR.s1 Q ⟨t2,0,none⟩ ⟨o3,0,none⟩ b):=fun b hb=>by
  unfold qR.s1 qR.s2
  refine zF (fun hb1=>?_) fun hb1=>?_
  ·rw [if_pos (hb.1 hb1)] at hR
   rw [hR]; exact fin
  ·rw [if_neg fun h=>by rw [hb.2 h] at hb1; cases hb1] at hR
   repeat refine zT ?_
   refine zF (fun hc=>?_) fun hc=>?_
   ·have hc':x.1.kind = 7:=by simpa using hc
    rw [if_pos hc'] at hR
    repeat refine zT ?_
    rw [xY]
    refine zF (fun hd=>?_) fun hd=>?_
    ·have hd':x.1.key = []:=by simpa using hd
     repeat refine zT ?_
     rw [show decide (x.1.n = 0) = R by rw [← hR,hd']; rfl]
     exact fin
    ·have hd':x.1.key ≠ []:=by simpa using hd
     rw [show false = R by rw [← hR,decide_eq_false hd']; rfl]
     exact fin
   ·have hc':x.1.kind ≠ 7:=by simpa using hc
    rw [if_neg hc'] at hR
    repeat refine zT ?_
    refine zLw (L:=t.writes) (key:=x.1.key) (by omega) (fun w hw=>(hr w hw.drops).2.1) ?_
    by_cases hw1:x.1.key ∈ t.writes
    ·rw [decide_eq_true hw1]
     refine s_f ?_
     exact S3 _ (by simp [hw1]) hR
    rw [decide_eq_false hw1]
    refine s_t ?_
    repeat refine zT ?_
    refine zLw (L:=t.reads) (key:=x.1.key) (by omega) (fun w hw=>(hr w hw.drops).1) ?_
    by_cases hr1:x.1.key ∈ t.reads
    ·rw [decide_eq_true hr1]
     refine s_f ?_
     repeat refine zT ?_
     refine zF (fun hd=>?_) fun hd=>?_
     ·exact S3 _ (by
              have:x.1.kind = 2:=by simpa using hd
              simp [hw1,this]) hR
     repeat refine zT ?_
     refine zF (fun he=>?_) fun he=>?_
     ·exact S3 _ (by
              have:x.1.kind = 3:=by simpa using he
              simp [hw1,this]) hR
     repeat refine zT ?_
     refine S3 _ ?_ hR
     have h2:¬ x.1.kind = 2:=by simpa using hd
     have h3:¬ x.1.kind = 3:=by simpa using he
     simp [hw1,hr1,h2,h3]
    ·rw [decide_eq_false hr1]
     refine s_t ?_
     exact S3 _ (by simp [hw1,hr1]) hR
 repeat refine zT ?_
 refine zF (fun hb=>?_) fun hb=>?_
 ·exact S1 _ (by
          have:32 < x.1.val.length:=by simp only [decide_eq_true_eq] at hb; omega
          simp [this])
 have h32:¬ 32 < x.1.val.length:=by simp only [decide_eq_false_iff_not] at hb; omega
 repeat refine zT ?_
 refine zF (fun hc=>?_) fun hc=>?_
 ·exact S1 _ (by
          have:x.1.kind < 1:=by simpa using hc
          simp [this])
 have h1:¬ x.1.kind < 1:=by simpa using hc
 repeat refine zT ?_
 refine S1 _ ?_
 simp [h32,h1]
theorem zS1 {t:TxX} {n:Int} {Q:Bool→K} (hr:∀ w,Holds B Γ w→zCX w t) (hl:t.reads.length < 10000000∧t.writes.length < 10000000∧t.ops.length < 10000000) (h:HG B Γ (Q (xR n t))):HG B Γ (zo.call (txL t).toArray n Q):=fun w hw=>by
 refine zMc _ _ _ _ ?_
 obtain ⟨n1,n2,n3⟩:=zLx (hr w hw)
 refine Sep.hg hw ?_
 clear hw w
 unfold zo
 refine zH fun t2=>?_
 have fin:HG B (blk t2 (.cells (txL t).toArray yU (0,0))::Γ) (Q (xR n t)):=zB h
 generalize hR:xR n t = R at fin
 unfold xR at hR
 have S1:∀ b,(b = true ↔ zAg n t)→HG B (blk t2 (.cells (txL t).toArray yU (0,0))::Γ) (zo.s1 Q n ⟨t2,0,none⟩ b):=fun b hb=>by
  unfold zo.s1
  refine zF (fun hb1=>?_) fun hb1=>?_
  ·rw [if_pos (hb.1 hb1)] at hR
   rw [hR]; exact fin
  rw [if_neg fun h=>by rw [hb.2 h] at hb1; cases hb1] at hR
  refine vo ?_
  refine zBE [blk t2 (.cells (txL t).toArray yU (0,0))] ?_
  repeat refine zT ?_
  refine zH fun t9=>?_
  refine jy (A':=SlC ug 1 ⟨some ⟨t9,0,none⟩,0,0⟩ []) (zAB (vs:=[]) rfl (by simp)) ?_
  repeat refine zT ?_
  refine qN (s:=⟨some ⟨t9,0,none⟩,0,0⟩) (us:=t.reads.map qb) (fun w hw=>(hr w hw.drops).1) (fun v hv=>by obtain ⟨y,_,rfl⟩:=List.mem_map.1 hv; rfl) (by simp only; omega) fun a1 ha1=>?_
  repeat refine zT ?_
  refine qN (s:=a1) (us:=t.writes.map qb) (fun w hw=>(hr w hw.drops).2.1) (fun v hv=>by obtain ⟨y,_,rfl⟩:=List.mem_map.1 hv; rfl) (by simp only at ha1; omega) fun all hall=>?_
  rw [show []++t.reads.map qb++t.writes.map qb = (t.reads++t.writes).map qb by simp]
  have hln:(t.reads++t.writes).length = t.reads.length + t.writes.length:=List.length_append
  have halln:all.n = t.reads.length + t.writes.length:=by simp only at ha1; omega
  have fin2:HG B (SlS all (t.reads++t.writes)::blk t2 (.cells (txL t).toArray yU (0,0))::Γ) (Q R):=zB fin
  refine zAP (α:=Int) (fun x=>∃ i:Nat,x = (i:Int)∧i ≤ (t.reads++t.writes).length∧(∀ k ∈ (t.reads++t.writes).take i,1 ≤ k.length∧k.length ≤ 16)∧∀ k ∈ t.reads.take i,k ∉ t.writes) (fun x=>(t.reads++t.writes).length - x.toNat) ⟨0,rfl,Nat.zero_le _,by simp,by simp⟩ fun k1 x hx hk1=>?_
  obtain ⟨i,rfl,hi,hs1,hs2⟩:=hx
  unfold zo.b2
  refine zF (fun hc=>?_) fun hc=>?_
  ·have hil:i < (t.reads++t.writes).length:=by simp only [decide_eq_true_eq] at hc; omega
   have hge:(t.reads++t.writes)[i]? = some (t.reads++t.writes)[i]:=List.getElem?_eq_getElem hil
   have hmem:(t.reads++t.writes)[i] ∈ t.reads++t.writes:=List.getElem_mem hil
   have htk:(t.reads++t.writes).take (i + 1) = (t.reads++t.writes).take i++[(t.reads++t.writes)[i]]:=List.take_succ_eq_append_getElem hil
   have hrt:t.reads.take (i + 1) = t.reads.take i++if i < t.reads.length then [(t.reads++t.writes)[i]] else []:=by
    by_cases hir:i < t.reads.length
    ·rw [if_pos hir,List.take_succ_eq_append_getElem hir,List.getElem_append_left hir]
    ·rw [if_neg hir,List.take_of_length_le (by omega),List.take_of_length_le (by omega),List.append_nil]
   generalize (t.reads++t.writes)[i] = x at hge hmem htk hrt
   have hsz:(bs x).size = x.length:=rfl
   have S3:∀ b,(b = true ↔ (x.length < 1∨16 < x.length)∨(i < t.reads.length∧x ∈ t.writes))→HG B (SlS all (t.reads++t.writes)::blk t2 (.cells (txL t).toArray yU (0,0))::Γ) (zo.s3 Q k1 n ⟨t2,0,none⟩ all (i:Int) b):=fun b hb=>by
    unfold zo.s3
    refine zF (fun hb1=>?_) fun hb1=>?_
    ·have:zGK t:=by
      rcases hb.1 hb1 with h | ⟨h,h'⟩
      ·exact .inl ⟨x,hmem,h⟩
      ·refine .inr ⟨x,?_,h'⟩
       rw [List.getElem?_append_left h] at hge
       exact List.mem_of_getElem? hge
     rw [if_pos this] at hR
     rw [hR]; exact fin2
    ·have hnb:¬ ((x.length < 1∨16 < x.length)∨(i < t.reads.length∧x ∈ t.writes)):=fun h=>by rw [hb.2 h] at hb1; cases hb1
     refine qB ?_
     refine hk1 _ ⟨i + 1,by simp,hil,fun y hy=>?_,fun y hy=>?_⟩ (by omega)
     ·rw [htk] at hy
      rcases List.mem_append.1 hy with hy | hy
      ·exact hs1 y hy
      ·rw [List.mem_singleton.1 hy]; omega
     ·rw [hrt] at hy
      rcases List.mem_append.1 hy with hy | hy
      ·exact hs2 y hy
      ·split at hy
       ·rename_i hir
        rw [List.mem_singleton.1 hy]
        exact fun hxw=>hnb (.inr ⟨hir,hxw⟩)
       ·cases hy
   refine vo ?_
   refine jY (L:=t.reads++t.writes) (fun w hw=>(yP (s:=all) hw).1) hge ?_
   refine zF (fun hd=>?_) fun hd=>?_
   ·exact S3 _ (by
            have:x.length < 1:=by simp only [decide_eq_true_eq] at hd; omega
            simp [this])
   refine jY (L:=t.reads++t.writes) (fun w hw=>(yP (s:=all) hw).1) hge ?_
   have hd':¬ x.length < 1:=by simp only [decide_eq_false_iff_not] at hd; omega
   refine zF (fun he=>?_) fun he=>?_
   ·exact S3 _ (by
            have:16 < x.length:=by simp only [decide_eq_true_eq] at he; omega
            simp [this])
   have he':¬ 16 < x.length:=by simp only [decide_eq_false_iff_not] at he; omega
   repeat refine zT ?_
   refine zF (fun hf=>?_) fun hf=>?_
   ·have hir:i < t.reads.length:=by simp only [decide_eq_true_eq] at hf; omega
    refine zFT (fun x:TX=>[qb x]) (L:=t.reads++t.writes) (esz:=1) (fun _=>rfl) (by omega) (fun w hw=>by rw [zOa]; exact (yP (s:=all) hw).1) hge (fun t86 ht86=>?_) rfl
    repeat refine zT ?_
    refine zQN (cs:=[qb x]) (x:=bs x) (fun w hw=>ht86 w (by rw [zOa]; exact (yP (s:=all) hw).1)) rfl ?_
    refine zLw (L:=t.writes) (key:=x) (by omega) (fun w hw=>(hr w hw.drops).2.1) ?_
    exact S3 _ (by
            rw [decide_eq_true_eq]; constructor
            ·exact fun h=>.inr ⟨hir,h⟩
            ·rintro ((h | h) | h)
             ·exact absurd h hd'
             ·exact absurd h he'
             ·exact h.2)
   ·have hir:¬ i < t.reads.length:=by simp only [decide_eq_false_iff_not] at hf; omega
    exact S3 _ (by
            constructor
            ·exact fun h=>by cases h
            ·rintro ((h | h) | h)
             ·exact absurd h hd'
             ·exact absurd h he'
             ·exact absurd h.1 hir)
  have hil:i = (t.reads++t.writes).length:=by simp only [decide_eq_false_iff_not] at hc; omega
  rw [hil,List.take_length] at hs1
  rw [List.take_of_length_le (by omega)] at hs2
  rw [if_neg (by
   rintro (⟨k,hk,h⟩ | ⟨k,hk,h⟩)
   ·have:=hs1 k hk; omega
   ·exact hs2 k hk h)] at hR
  have S4:∀ b,b = R→HG B (SlS all (t.reads++t.writes)::blk t2 (.cells (txL t).toArray yU (0,0))::Γ) (zo.s4 Q k1 b):=fun b hb=>by
   unfold zo.s4
   rw [hb]; exact fin2
  repeat refine zT ?_
  refine zF (fun hd=>?_) fun hd=>?_
  ·have hk2:t.kind = 2:=by simpa using hd
   rw [if_pos hk2] at hR
   repeat refine zT ?_
   refine zF (fun he=>?_) fun he=>?_
   rotate_left
   ·refine S4 _ ?_
    rw [← hR,show decide (t.reads.length = 0) = false from decide_eq_false (by simp only [decide_eq_false_iff_not] at he; omega)]; rfl
   rw [show decide (t.reads.length = 0) = true from decide_eq_true (by simp only [decide_eq_true_eq] at he; omega),Bool.true_and] at hR
   repeat refine zT ?_
   refine zF (fun he2=>?_) fun he2=>?_
   rotate_left
   ·refine S4 _ ?_
    rw [← hR,show decide (t.ops.length = 0) = false from decide_eq_false (by simp only [decide_eq_false_iff_not] at he2; omega)]; rfl
   rw [show decide (t.ops.length = 0) = true from decide_eq_true (by simp only [decide_eq_true_eq] at he2; omega),Bool.true_and] at hR
   repeat refine zT ?_
   refine zF (fun he3=>?_) fun he3=>?_
   rotate_left
   ·refine S4 _ ?_
    rw [← hR,show decide (t.writes.length = 1) = false from decide_eq_false (by simp only [decide_eq_false_iff_not] at he3; omega)]; rfl
   rw [show decide (t.writes.length = 1) = true from decide_eq_true (by simp only [decide_eq_true_eq] at he3; omega),Bool.true_and] at hR
   repeat refine zT ?_
   refine zF (fun he4=>?_) fun he4=>?_
   rotate_left
   ·refine S4 _ ?_
    rw [← hR,he4]; rfl
   rw [he4,Bool.true_and] at hR
   repeat refine zT ?_
   exact S4 _ hR
  have hk2:¬ t.kind = 2:=by simpa using hd
  rw [if_neg hk2] at hR
  have S5:∀ b,(b = true ↔ t.kind ≠ 1∨t.to ≠ 0∨16 < t.ops.length)→HG B (SlS all (t.reads++t.writes)::blk t2 (.cells (txL t).toArray yU (0,0))::Γ) (zo.s5 Q k1 ⟨t2,0,none⟩ b):=fun b hb=>by
   unfold zo.s5
   refine zF (fun hb1=>?_) fun hb1=>?_
   ·rw [if_pos (hb.1 hb1)] at hR
    rw [hR]; exact fin2
   rw [if_neg fun h=>by rw [hb.2 h] at hb1; cases hb1] at hR
   refine zAP (α:=Int) (fun x=>∃ i:Nat,x = (i:Int)∧i ≤ t.ops.length∧((t.ops.take i).all fun x=>vZ t x.1) = true) (fun x=>t.ops.length - x.toNat) ⟨0,rfl,Nat.zero_le _,by simp⟩ fun k6 x hx hk6=>?_
   obtain ⟨m,rfl,hm,hs3⟩:=hx
   unfold zo.b6
   repeat refine zT ?_
   refine zF (fun hc6=>?_) fun hc6=>?_
   ·have hml:m < t.ops.length:=by simp only [decide_eq_true_eq] at hc6; omega
    have hge:t.ops[m]? = some t.ops[m]:=List.getElem?_eq_getElem hml
    have hmem:t.ops[m] ∈ t.ops:=List.getElem_mem hml
    have htk:t.ops.take (m + 1) = t.ops.take m++[t.ops[m]]:=List.take_succ_eq_append_getElem hml
    generalize t.ops[m] = x at hge hmem htk
    repeat refine zT ?_
    refine zAc opF zBF (fun w hw=>(hr w hw.drops).2.2.1) hge ?_
    refine zZX (t:=t) (x:=x) (fun w hw=>hr w hw.drops) ⟨by omega,by omega⟩ (fun w hw=>(hr w hw.drops).2.2.2 x hmem) ?_
    by_cases ho:vZ t x.1 = true
    ·rw [ho]
     refine s_f ?_
     refine qB ?_
     refine hk6 _ ⟨m + 1,by simp,hml,?_⟩ (by omega)
     rw [htk,List.all_append,hs3]; simpa using ho
    ·have ho':vZ t x.1 = false:=by simpa using ho
     rw [ho']
     refine s_t ?_
     rw [show false = R by rw [← hR]; symm; rw [List.all_eq_false]; exact ⟨x,hmem,by simpa using ho'⟩]
     exact fin2
   ·have hml:m = t.ops.length:=by simp only [decide_eq_false_iff_not] at hc6; omega
    rw [hml,List.take_length] at hs3
    rw [show true = R by rw [← hR,hs3]]
    exact fin2
  repeat refine zT ?_
  refine zF (fun he=>?_) fun he=>?_
  ·exact S5 _ (by
           have:t.kind ≠ 1:=by simpa using he
           simp [this])
  have hk1':t.kind = 1:=by simpa using he
  repeat refine zT ?_
  refine zF (fun hf=>?_) fun hf=>?_
  ·exact S5 _ (by
           have:t.to ≠ 0:=by simpa using hf
           simp [this])
  have hto:t.to = 0:=by simpa using hf
  repeat refine zT ?_
  refine S5 _ ?_
  simp [hk1',hto]
  omega
 refine zF (fun hb=>S1 _ (by
                  have:n < 1:=by simpa using hb
                  simp [zAg,this])) fun hb=>?_
 have hn1:¬ n < 1:=by simpa using hb
 refine zF (fun hb=>S1 _ (by
                  have:3 < n:=by simpa using hb
                  simp [zAg,this])) fun hb=>?_
 have hn3:¬ 3 < n:=by simpa using hb
 repeat refine zT ?_
 refine zK5 (L:=t.reads) (by omega) (fun w hw=>(hr w hw.drops).1) ?_
 by_cases hr1:zDl t.reads
 rotate_left
 ·rw [decide_eq_false hr1]
  exact s_t (S1 _ (by simp [zAg,hr1]))
 rw [decide_eq_true hr1]
 refine s_f ?_
 repeat refine zT ?_
 refine zK5 (L:=t.writes) (by omega) (fun w hw=>(hr w hw.drops).2.1) ?_
 by_cases hr2:zDl t.writes
 rotate_left
 ·rw [decide_eq_false hr2]
  exact s_t (S1 _ (by simp [zAg,hr2]))
 rw [decide_eq_true hr2]
 refine s_f ?_
 repeat refine zT ?_
 refine zF (fun hb=>S1 _ (by
                  have:8 < t.reads.length:=by simp only [decide_eq_true_eq] at hb; omega
                  simp [zAg,this])) fun hb=>?_
 have h8:¬ 8 < t.reads.length:=by simp only [decide_eq_false_iff_not] at hb; omega
 repeat refine zT ?_
 refine zF (fun hb=>S1 _ (by
                  have:8 < t.writes.length:=by simp only [decide_eq_true_eq] at hb; omega
                  simp [zAg,this])) fun hb=>?_
 have h9:¬ 8 < t.writes.length:=by simp only [decide_eq_false_iff_not] at hb; omega
 repeat refine zT ?_
 refine zAW (e':=(t.reads.length + t.writes.length:Int)) (by rw [wrap64 (by omega) (by omega)]; omega) ?_
 refine S1 _ ?_
 simp only [zAg,hn1,hn3,hr1,hr2,h8,h9,not_true,false_or,decide_eq_true_eq]
 omega
end
end
section
open Go Go.Sep Go.Sep.Bt
section
variable {B:World} {Γ Δ:List zC} {Q:Bool→K}
theorem zS2 {r:Rec} {a b:Sl} (ha:∀ w,Holds B Γ w→RdB w a r.val) (hb:∀ w,Holds B Γ w→RdB w b r.val) (h:HG B Γ (Q true)):HG B Γ (xO.call (jh r a).toArray (jh r b).toArray Q):=fun w hw=>by
 refine zIL _ _ _ _ ?_
 refine Sep.hg hw ?_
 clear hw w
 unfold xO
 refine zH fun a2=>?_
 refine zH fun b3=>?_
 repeat refine zT ?_
 refine s_t ?_ (by simp)
 repeat refine zT ?_
 refine zOT (xs:=r.val) (fun w hw=>ha w hw.drops) ?_
 repeat refine zT ?_
 refine zOT (xs:=r.val) (fun w hw=>hb w hw.drops) ?_
 refine s_t ?_ (by simp)
 repeat refine zT ?_
 refine s_t ?_ (by simp)
 repeat refine zT ?_
 unfold xO.s1
 rw [show decide (r.cnt = r.cnt) = true by simp]
 exact zB h
theorem zXS {a b:Sl} {X Y:List zAG} (hX:X.length < 100000000) (hXY:X.map zAw = Y.map zAw) (ha:∀ w,Holds B Γ w→RdC w a 5 (X.flatMap xL)) (hb:∀ w,Holds B Γ w→RdC w b 5 (Y.flatMap xL))
  (hva:∀ x ∈ X,∀ w,Holds B Γ w→RdB w x.2.2 x.2.1.val) (hvb:∀ x ∈ Y,∀ w,Holds B Γ w→RdB w x.2.2 x.2.1.val) (h:HG B Γ (Q true)):HG B Γ (jG.call a b Q):=fun w hw=>by
 refine zNh _ _ _ _ ?_
 have han:=zA3 uo (by omega) (ha w hw)
 have hbn:=zA3 uo (by omega) (hb w hw)
 have hlen:X.length = Y.length:=by have:=congrArg List.length hXY; simpa using this
 refine Sep.hg hw ?_
 clear hw w
 unfold jG
 refine s_f ?_ (by simp; omega)
 refine zAP (α:=Int) (fun x=>∃ i:Nat,x = (i:Int)∧i ≤ X.length) (fun x=>X.length - x.toNat) ⟨0,rfl,Nat.zero_le _⟩ fun k' x hx hk'=>?_
 obtain ⟨i,rfl,hi⟩:=hx
 unfold jG.b1
 refine zF (fun hc=>?_) fun hc=>h
 have hil:i < X.length:=by simp only [decide_eq_true_eq] at hc; omega
 have g1:X[i]? = some X[i]:=List.getElem?_eq_getElem hil
 have g2:Y[i]? = some Y[i]:=List.getElem?_eq_getElem (by omega)
 have m1:X[i] ∈ X:=List.getElem_mem hil
 have m2:Y[i] ∈ Y:=List.getElem_mem (by omega)
 have he:zAw X[i] = zAw Y[i]:=by
  have:=congrArg (·[i]?) hXY
  simp only [List.getElem?_map,g1,g2,Option.map_some,Option.some.injEq] at this
  exact this
 generalize X[i] = x at g1 m1 he
 generalize Y[i] = y at g2 m2 he
 obtain ⟨xk,xr,xs⟩:=x
 obtain ⟨yk,yr,ys⟩:=y
 obtain ⟨rfl,rfl⟩:xk = yk∧xr = yr:=by simpa using he
 refine vo ?_
 refine zFT xL uo (by omega) ha g1 fun t1 ht1=>?_
 refine zFT xL uo (by omega) hb g2 fun t2 ht2=>?_
 refine zQN (cs:=xL (xk,xr,xs)) (x:=xk) (fun w hw=>ht1 w (ha w hw)) rfl ?_
 refine zQN (cs:=xL (xk,xr,ys)) (x:=xk) (fun w hw=>ht2 w (hb w hw)) rfl ?_
 refine s_f ?_ (by simp)
 refine zFT xL uo (by omega) ha g1 fun t3 ht3=>?_
 refine zFT xL uo (by omega) hb g2 fun t4 ht4=>?_
 have part:∀ {t:Addr} {z:zAG} {s:Sl} {Z:List zAG} {k:Array Value→K},(∀ w,RdC w s 5 (Z.flatMap xL)→RdN w t (xL z).toArray)→(∀ w,Holds B Γ w→RdC w s 5 (Z.flatMap xL))→HG B Γ (k (jh z.2.1 z.2.2).toArray)→HG B Γ (LdN (t.add 1) 4 k):=fun {t z s Z k} ht hz hk w hw=>⟨_,rfl,fun i hi=>by
  have:=ht w (hz w hw) (1 + i) (by simp at hi ⊢; omega)
  have e:(t.add 1).add i = t.add (1 + i):=by simp [Addr.add,Nat.add_assoc]
  rw [e,this]
  simp [Nat.add_comm 1 i],hk w hw⟩
 refine part (z:=(xk,xr,xs)) ht3 ha ?_
 refine part (z:=(xk,xr,ys)) ht4 hb ?_
 refine zS2 (hva _ m1) (hvb _ m2) ?_
 unfold jG.s2
 refine s_f ?_
 refine qB ?_
 exact hk' _ ⟨i + 1,by simp,hil⟩ (by omega)
theorem zXT {a b:Sl} {c:Int} {X Y:OX} (hX:X.length < 100000000) (hXY:X.map Prod.fst = Y.map Prod.fst) (ha:∀ w,Holds B Γ w→RdC w a 2 (X.flatMap oF)) (hb:∀ w,Holds B Γ w→RdC w b 2 (Y.flatMap oF))
  (hva:∀ x ∈ X,∀ w,Holds B Γ w→RdB w x.2 x.1.2) (hvb:∀ x ∈ Y,∀ w,Holds B Γ w→RdB w x.2 x.1.2) (h:HG B Γ (Q true)):HG B Γ (vO.call #[.int .i64 c,a.val] #[.int .i64 c,b.val] Q):=fun w hw=>by
 refine zNk _ _ _ _ ?_
 have han:=zA3 zGJ (by omega) (ha w hw)
 have hbn:=zA3 zGJ (by omega) (hb w hw)
 have hlen:X.length = Y.length:=by have:=congrArg List.length hXY; simpa using this
 refine Sep.hg hw ?_
 clear hw w
 unfold vO
 refine zH fun a2=>?_
 refine zH fun b3=>?_
 repeat refine zT ?_
 refine s_f ?_ (by simp)
 repeat refine zT ?_
 rw [show decide ((a.n:Int) ≠ (b.n:Int)) = false by simp; omega]
 unfold vO.s1
 refine s_f ?_
 refine zAP (α:=Int) (fun x=>∃ i:Nat,x = (i:Int)∧i ≤ X.length) (fun x=>X.length - x.toNat) ⟨0,rfl,Nat.zero_le _⟩ fun k' x hx hk'=>?_
 obtain ⟨i,rfl,hi⟩:=hx
 unfold vO.b2
 repeat refine zT ?_
 refine zF (fun hc=>?_) fun hc=>zB h
 have hil:i < X.length:=by simp only [decide_eq_true_eq] at hc; omega
 have g1:X[i]? = some X[i]:=List.getElem?_eq_getElem hil
 have g2:Y[i]? = some Y[i]:=List.getElem?_eq_getElem (by omega)
 have m1:X[i] ∈ X:=List.getElem_mem hil
 have m2:Y[i] ∈ Y:=List.getElem_mem (by omega)
 have he:X[i].1 = Y[i].1:=by
  have:=congrArg (·[i]?) hXY
  simp only [List.getElem?_map,g1,g2,Option.map_some,Option.some.injEq] at this
  exact this
 generalize X[i] = x at g1 m1 he
 generalize Y[i] = y at g2 m2 he
 obtain ⟨⟨x1,x2⟩,xs⟩:=x
 obtain ⟨⟨y1,y2⟩,ys⟩:=y
 obtain ⟨rfl,rfl⟩:x1 = y1∧x2 = y2:=by simpa using he
 repeat refine zT ?_
 refine zJl oF (c:=Value.bool) (v:=x1) zGJ (fun w hw=>ha w hw.drops) g1 rfl ?_
 repeat refine zT ?_
 refine zJl oF (c:=Value.bool) (v:=x1) zGJ (fun w hw=>hb w hw.drops) g2 rfl ?_
 refine s_f ?_ (by simp)
 repeat refine zT ?_
 refine zHw oF (off:=1) (c:=Sl.val) (v:=xs) zGJ (fun w hw=>ha w hw.drops) g1 rfl ?_
 refine zOT (xs:=x2) (fun w hw=>hva _ m1 w hw.drops) ?_
 repeat refine zT ?_
 refine zHw oF (off:=1) (c:=Sl.val) (v:=ys) zGJ (fun w hw=>hb w hw.drops) g2 rfl ?_
 refine zOT (xs:=x2) (fun w hw=>hvb _ m2 w hw.drops) ?_
 unfold vO.s3
 refine s_f ?_ (by simp)
 refine qB ?_
 exact hk' _ ⟨i + 1,by simp,hil⟩ (by omega)
end
theorem zXU (R:WX):R.flatMap zB5 = (R.map fun x=>((bs x.1,x.2):zAG)).flatMap xL:=by
 rw [List.flatMap_map]; rfl
end
end Go.Proofs.YtdemfamgieonbaaGreat
namespace Go.Sep
section
open Go Go.RowKit Go.MapKept
structure Fnd {α:Type} [DecidableEq α] (P:Program) (kt:TypeId) (enc:α→Value):Prop where
 chk:∀ a w,(Instr.checkKey false 10000 kt (enc a)).run P w = .ok () w
 bits:∀ a,Instr.sameBits 10000 (enc a) (enc a) = true
 find:∀ (β:Type) (cV:β→Value) (es:Array MapEntry) (m:List (α×β)),zFG enc cV es m→∀ a w,((Instr.findKey kt (enc a) es.toList).run P w = .ok none w∧y8 a m = none∧(∀ v,vS a v m = m++[(a,v)])) ∨
  ∃ j x,(Instr.findKey kt (enc a) es.toList).run P w = .ok (some (j,cV x)) w∧j < m.length∧m[j]? = some (a,x)∧y8 a m = some x∧(∀ v,vS a v m = m.set j (a,v))
theorem zdY {α:Type} [DecidableEq α] {P:Program} {kt:TypeId} {cel:α→List Value} (h:zLF P kt cel):Fnd P kt (kyS cel):=⟨fun a w=>h.chk a false w,h.bits,fun β cV es m hr a w=>by
 rcases zHu h hr a w with ⟨g1,g2,g3,_⟩ | ⟨j,x,g1,g2,g3,g4,g5,_⟩
 ·exact .inl ⟨g1,g2,g3⟩
 ·exact .inr ⟨j,x,g1,g2,g3,g4,g5⟩⟩
theorem zRp {p:MapEntry→Bool}:∀ {l:List MapEntry} {j:Nat} {e:MapEntry},l[j]? = some e→p e = true→(∀ i x,i < j→l[i]? = some x→p x = false)→l.findIdx? p = some j
 | [],_,_,h,_,_=>by simp at h
 | a::l,0,e,h,hp,_=>by
  simp at h; subst h
  simp [List.findIdx?_cons,hp]
 | a::l,j + 1,e,h,hp,hn=>by
  have h0:=hn 0 a (by omega) rfl
  rw [List.findIdx?_cons,h0]
  simp only [Bool.false_eq_true,if_false]
  rw [zRp (j:=j) (by simpa using h) hp fun i x hi hx=>hn (i + 1) x (by omega) (by simpa using hx)]
  rfl
section
variable {α β:Type} [DecidableEq α] {P:Program} {B:World} {Γ Δ:List zC} {kt:TypeId} {enc:α→Value} {cV:β→Value} {k:K}
def zS3 (enc:α→Value) (cV:β→Value) (b:Nat) (m:List (α×β)) (z:β) (a:α) (st:Int):zC:=ex fun es:Array MapEntry=>ex fun c:Nat=>fun g=>
 (stamps es c∧∃ m1 j e,zFG enc cV es m1∧j < m1.length∧es[j]? = some e∧(e.born:Int) = st∧e.key = enc a∧(∀ v,m1.set j (a,v) = vS a v m)∧m1 = vS a ((y8 a m).getD z) m)∧blk b (.map es c) g
instance (priority:=high) zc0 {b:Nat} {m:List (α×β)} {z:β} {a:α} {st:Int} {Γ:List zC}:Own b (zS3 enc cV b m z a st::Γ) (zS3 enc cV b m z a st) Γ:=⟨.refl _⟩
theorem zS3.map {m:List (α×β)} {z:β} {a:α} {st:Int} {b:Nat} {w:World} (h:Holds B (zS3 enc cV b m z a st::Δ) w):Holds B (xE enc cV b (vS a ((y8 a m).getD z) m)::Δ) w:=by
 obtain ⟨es,h1⟩:=Holds.ex.1 h
 obtain ⟨c,h1⟩:=Holds.ex.1 h1
 obtain ⟨hst,m1,j,e,hr,hj,he,hbn,hek,hm,h2⟩:=h1.fact fun g hg=>hg.1
 subst h2
 exact xE.shuts ⟨hr,hst⟩ (h1.imp fun g hg=>hg.2)
theorem zH0 {v:β}:∀ {m:List (α×β)} {a:α},y8 a m = some v→vS a v m = m
 | [],_,h=>by simp [y8] at h
 | p::m,a,h=>by
  unfold y8 at h
  unfold vS
  split at h
  ·rename_i hp
   simp only [Option.some.injEq] at h
   rw [if_pos hp,hp,← h]
  ·rename_i hp
   rw [if_neg hp,zH0 h]
theorem zOb (m:List (α×β)) (a:α) (v:β):y8 a (vS a v m) = some v:=by rw [zBh,if_pos rfl]
theorem zXV {T E:TypeId} {b:Nat} {m:List (α×β)} {z:β} {a:α} {k:β→Int→K} (hF:Fnd P kt enc) (hz:zBl P E (cV z)) (h:∀ st,HG B (zS3 enc cV b m z a st::Δ) (k ((y8 a m).getD z) st)) (hT:P.underlying T = some (.map kt E):=by kernel_rfl) [p:Own b Γ (xE enc cV b m) Δ] :
  HG B Γ (Do2 P (Instr.mapEntry T (.map (some b)) (enc a)) (fun x y=>.tuple #[cV x,.int .i64 y]) k):=fun w hw=>by
 obtain ⟨es,c,⟨hr,hst⟩,h1⟩:=xE.opens (hw.perm p.perm)
 have hb:=h1.block
 have hlen:es.size = m.length:=by have:=congrArg List.length hr; simpa using this
 have key:∀ {es' c' v st w'},(Instr.mapEntry T (.map (some b)) (enc a)).run P w = .ok (.tuple #[cV v,goInt st]) w'→v = (y8 a m).getD z→(stamps es' c'∧∃ m1 j e,zFG enc cV es' m1∧j < m1.length∧es'[j]? = some e∧(e.born:Int) = st∧e.key = enc a∧(∀ v,m1.set j (a,v) = vS a v m)∧m1 = vS a ((y8 a m).getD z) m) →
   Holds B (blk b (.map es' c')::Δ) w'→Do2 P (Instr.mapEntry T (.map (some b)) (enc a)) (fun x y=>.tuple #[cV x,.int .i64 y]) k w:=fun {es' c' v st w'} h3 h4 h5 h6=>by
  subst h4
  exact ⟨_,st,w',h3,h st w' (Holds.ex.2 ⟨es',Holds.ex.2 ⟨c',h6.imp fun g hg=>⟨h5,hg⟩⟩⟩)⟩
 rcases hF.find β cV es m hr a w with ⟨g1,g2,h2⟩ | ⟨j,x,g1,hj,h0,g2,h2⟩
 ·obtain ⟨e1,h3⟩:=h1.zGD (P:=P) (es':=es.push { key:=enc a,val:=cV z,born:=c }) (c':=c + 1)
  refine key (es':=es.push { key:=enc a,val:=cV z,born:=c }) (c':=c + 1) (v:=z) (st:=(c:Int)) ?_ (by rw [g2]; rfl) ⟨zG8 hst _ _,m++[(a,z)],m.length,⟨enc a,cV z,c⟩,?_,by simp,?_,rfl,rfl,fun v=>?_,by rw [h2,g2]; rfl⟩ h3
  ·unfold Instr.mapEntry
   simp only [Sem.run_bind,run_underlying hT,Result.andThen,MapKept.run_getObj_map hb,hF.chk,g1,zAx hz,e1,Sem.run_pure]
  ·simp only [zFG,Array.toList_push,List.map_append,List.map_cons,List.map_nil]
   rw [show es.toList.map (fun e=>(e.key,e.val)) = _ from hr]
  ·rw [← hlen]; simp
  ·rw [h2,List.set_append]; simp
 ·have hes:∃ e,es.toList[j]? = some e∧e.key = enc a:=by
   have:=zFS hr j
   rw [h0] at this
   cases he:es.toList[j]? with
   | none=>rw [he] at this; simp at this
   | some e=>
    rw [he] at this
    simp only [Option.map_some,Option.some.injEq,Prod.mk.injEq] at this
    exact ⟨e,rfl,this.1⟩
  obtain ⟨e,he,hek⟩:=hes
  have he2:es[j]? = some e:=by rw [← he,Array.getElem?_toList]
  have hmod:(es.modify j fun e'=>{ e' with key:=enc a }) = es:=by
   apply Array.ext_getElem?
   intro i
   rw [Array.getElem?_modify]
   split
   ·rename_i hij
    subst hij
    rw [he2]
    simp [← hek]
   ·rfl
  obtain ⟨e1,h3⟩:=h1.zGD (P:=P) (es':=es) (c':=c)
  refine key (es':=es) (c':=c) (v:=x) (st:=(e.born:Int)) ?_ (by rw [g2]; rfl) ⟨hst,m,j,e,hr,hj,he2,rfl,hek,fun v=>(h2 v).symm,by rw [g2]; exact (zH0 g2).symm⟩ h3
  unfold Instr.mapEntry
  simp only [Sem.run_bind,run_underlying hT,Result.andThen,MapKept.run_getObj_map hb,hF.chk,g1,he2,Option.map_some,Option.getD_some,hek,Instr.keyThatStays,hF.bits,if_true,Sem.run_pure,hmod,e1]
theorem zS4 {T:TypeId} {b:Nat} {m:List (α×β)} {z:β} {a:α} {v:β} {x:Value} {st:Int} (hx:x = cV v) (h:HG B (xE enc cV b (vS a v m)::Δ) k) [p:Own b Γ (zS3 enc cV b m z a st) Δ] :
  HG B Γ (DoU P (Instr.entryStore T (.map (some b)) (.int .i64 st) x) k):=fun w hw=>by
 subst hx
 obtain ⟨es,h1⟩:=Holds.ex.1 (hw.perm p.perm)
 obtain ⟨c,h1⟩:=Holds.ex.1 h1
 obtain ⟨hst,m1,j,e,hr,hj,he,hbn,hek,hm,_⟩:=h1.fact fun g hg=>hg.1
 have h1:=h1.imp fun g hg=>hg.2
 have hb:=h1.block
 have hidx:es.findIdx? (fun e'=>((e'.born:Nat):Int) == st) = some j:=by
  rw [show es.findIdx? (fun e'=>((e'.born:Nat):Int) == st) = es.toList.findIdx? (fun e'=>((e'.born:Nat):Int) == st) by cases es; simp]
  refine zRp (e:=e) (by rw [← he,Array.getElem?_toList]) (by simp [hbn]) fun i x hi hx=>?_
  simp only [beq_eq_false_iff_ne,ne_eq,← hbn,Int.natCast_inj]
  intro hbe
  have hl:j < es.toList.length:=by
   have:=(Array.getElem?_eq_some_iff.1 he).1; simpa using this
  have h1:(es.toList.map (·.born))[i]? = some e.born:=by rw [List.getElem?_map,hx,← hbe]; rfl
  have h2:(es.toList.map (·.born))[j]? = some e.born:=by rw [List.getElem?_map,Array.getElem?_toList,he]; rfl
  have:=(List.getElem?_inj (by simp at hl ⊢; omega) hst.1).1 (h1.trans h2.symm)
  omega
 obtain ⟨e1,h3⟩:=h1.zGD (P:=P) (es':=es.modify j fun e'=>{ e' with val:=cV v }) (c':=c)
 refine ⟨(),_,?_,h _ (xE.shuts ⟨?_,?_⟩ h3)⟩
 ·unfold Instr.entryStore
  simp only [Sem.run_bind,MapKept.run_getObj_map hb,Result.andThen,asInt,asIntOf,Sem.run_pure,hidx,e1]
 ·rw [← hm]
  simp only [zFG]
  apply List.ext_getElem?
  intro i
  have hi:=zFS hr i
  simp only [List.getElem?_map,Array.getElem?_toList,Array.getElem?_modify] at hi ⊢
  by_cases hij:j = i
  ·subst hij
   rw [List.getElem?_set_self hj,he]
   simp [hek]
  ·rw [List.getElem?_set_ne hij,if_neg hij]
   exact hi
 ·have:(es.modify j fun e'=>{ e' with val:=cV v }) = es.modify j fun e'=>{ e' with key:=enc a,val:=cV v }:=by
   apply Array.ext_getElem?
   intro i
   simp only [Array.getElem?_modify]
   split
   ·rename_i hij
    subst hij
    rw [he]
    simp [← hek]
   ·rfl
  rw [this]
  exact zFY hst _ _ _
end
section
variable {P:Program} {B:World} {Γ Δ:List zC} {k:K}
theorem zaf {k:(World→Prop)→K} (S:World→Prop) (h0:∀ w,Holds B Γ w→S w) (h:HG B Γ (k S)):HG B Γ (yh k):=fun w hw=>⟨S,h0 w hw,h w hw⟩
theorem zXW {S:World→Prop} (h0:∀ w,Holds B Γ w→S w) (h:HG B Γ k):HG B Γ (Sv S k):=fun w hw=>⟨h0 w hw,h w hw⟩
theorem zZY {S:World→Prop} {a:Addr} {n:Nat} {l:List Value} {k:Array Value→K} (h0:∀ w,S w→RdN w a l.toArray) (h:HG B Γ (k l.toArray)) (hn:l.length = n:=by rfl):HG B Γ (vY S a n k):=fun w hw=>⟨l.toArray,by simpa using hn,h0,h w hw⟩
theorem zM7 {S:World→Prop} {α:Type} {a:Addr} {c:α→Value} {x:α} {k:α→K} (h0:∀ w,S w→w.cell? a = some (c x)) (h:HG B Γ (k x)):HG B Γ (LdS S a c k):=fun w hw=>⟨x,h0,h w hw⟩
theorem zbP {S:World→Prop} {α:Type} {s:Sem Value} {c:α→Value} {x:α} {k:α→K} (h0:∀ w,S w→s.run P w = .ok (c x) w) (h:HG B Γ (k x)):HG B Γ (RdS P S s c k):=fun w hw=>⟨x,h0,h w hw⟩
theorem zXX {a:Addr} {b off n:Nat} {l l':List Value} {T:TypeId} {fz:Nat×Nat} {w:World} (hw:Holds B Γ w) [ad:zDa a b off] [p:Own b Γ (blk b (.cells l.toArray T fz)) Δ] (hl:(l.drop off).take n = l':=by rfl) (hn:l'.length = n:=by rfl):RdN w a l'.toArray:=by
 rw [ad.h]; exact zPp (zA6 hw (p:=p)) hl hn
theorem zUk {α β:Type} [DecidableEq α] {kt:TypeId} {cel:α→List Value} {cV:β→Value} {T E:TypeId} {b:Nat} {m:List (α×β)} {z:β} {a:α} {w:World} (hw:Holds B Γ w) (hE:zLF P kt cel) (hz:zBl P E (cV z)) (hT:P.underlying T = some (.map kt E):=by kernel_rfl) [p:Own b Γ (xE (kyS cel) cV b m) Δ] :
  (Instr.lookup T (.map (some b)) (kyS cel a) false).run P w = .ok (cV ((y8 a m).getD z)) w:=by
 obtain ⟨x,h1,rfl⟩:=zJi (B:=B) (Γ:=Γ) (Δ:=Δ) (P:=P) (b:=b) (m:=m) (a:=a) (k:=fun x _=>x = (y8 a m).getD z) hE hz (fun w _=>rfl) hT w hw
 exact h1
end
end
end Go.Sep
namespace Go.Proofs.YtdemfamgieonbaaGreat
section
open Go Go.Sep Go.Sep.Bt
def zJq (v:List UInt8):Int:=if v.length = 8 then numOf v else 0
def zNu (n:Nat) (C:zy) (o:OpM):zy×Int :=
 if (zx n C (bs o.key)).has = true∧(zx n C (bs o.key)).val.length ≠ 8 then (C,110) else
 if zC4 (zJq (zx n C (bs o.key)).val) o.n then (C,111) else (zIy n C (bs o.key) (valOf (zJq (zx n C (bs o.key)).val + o.n)),0)
def jM (n:Nat) (C:zy) (o:OpM):zy×OM×Int :=
 if o.kind = 1 then (C,[((zx n C (bs o.key)).has,(zx n C (bs o.key)).val)],0) else
 if o.kind = 7 then (C,[(true,o.val)],0) else
 if o.kind = 2 then (zIy n C (bs o.key) o.val,[],0) else
 if o.kind = 3 then (zLP n C (bs o.key),[],0) else
 if o.kind = 4 then (C,[],if (zx n C (bs o.key)).has = true∧(zx n C (bs o.key)).val = o.val then 0 else 110) else
 if o.kind = 5 then (C,[],if (zx n C (bs o.key)).has then 110 else 0) else ((zNu n C o).1,[],(zNu n C o).2)
abbrev isW (o:OpM):Bool:=decide (o.kind = 2) || decide (o.kind = 3) || decide (o.kind = 6)
def zDx (n:Nat):List OpX→zy→OM→List TX→zy×OM×List TX×Int
 | [],C,O,T=>(C,O,T,0)
 | x::xs,C,O,T=>if (jM n C x.1).2.2 ≠ 0 then (C,O,T,(jM n C x.1).2.2) else zDx n xs (jM n C x.1).1 (O++(jM n C x.1).2.1) (if isW x.1 then T++[x.1.key] else T)
def zDm (n:Nat) (M:zy) (t:TxX):OM×Int×WM :=
 if t.kind = 2 then (if (je n M (bs (t.writes.headD [])) t.to).2 ≠ 0 then ([],111,[]) else ([],0,[(t.writes.headD [],zx n (je n M (bs (t.writes.headD [])) t.to).1 (bs (t.writes.headD [])))]))
 else if (zDx n t.ops M [] []).2.2.2 ≠ 0 then ([],(zDx n t.ops M [] []).2.2.2,[]) else ((zDx n t.ops M [] []).2.1,0,(xq (zDx n t.ops M [] []).2.2.1).map fun k=>(k,zx n (zDx n t.ops M [] []).1 (bs k)))
theorem opsC_nil {n:Nat} {C:zy} {O:OM} {T:List TX}:zDx n [] C O T = (C,O,T,0):=rfl
theorem opsC_cons {n:Nat} {x:OpX} {xs:List OpX} {C:zy} {O:OM} {T:List TX}:zDx n (x::xs) C O T = if (jM n C x.1).2.2 ≠ 0 then (C,O,T,(jM n C x.1).2.2) else zDx n xs (jM n C x.1).1 (O++(jM n C x.1).2.1) (if isW x.1 then T++[x.1.key] else T):=rfl
theorem zRq (n:Nat) (M:zy) (k:ByteArray) (v:List UInt8):(zIy n M k v).length ≤ M.length + 1:=zHA _ _ _
theorem zXY (n:Nat) (M:zy) (k:ByteArray):(zLP n M k).length ≤ M.length + 1:=zHA _ _ _
theorem zXZ {n:Nat} {C:zy} {o:OpM}:(zNu n C o).1.length ≤ C.length + 1:=by
 unfold zNu
 split
 ·simp
 split
 ·simp
 ·exact zRq _ _ _ _
theorem zVf {n:Nat} {C:zy} {o:OpM}:(jM n C o).1.length ≤ C.length + 1∧(jM n C o).2.1.length ≤ 1:=by
 unfold jM
 repeat' split
 all_goals constructor
 all_goals first | exact zRq _ _ _ _ | exact zXY _ _ _ | exact zXZ | simp
theorem zZZ (L:OX):∀ v ∈ L.flatMap oF,yu v = true:=fun v hv=>by
 obtain ⟨x,_,hx⟩:=List.mem_flatMap.1 hv
 simp only [oF,List.mem_cons,List.not_mem_nil,or_false] at hx
 rcases hx with rfl | rfl <;> rfl
theorem zXa {a b:Int} (ha:-9223372036854775808 ≤ a∧a ≤ 9223372036854775807) (hb:-9223372036854775808 ≤ b∧b ≤ 9223372036854775807) :
  IntKind.wrap .i64 (IntKind.wrap .u64 (IntKind.wrap .u64 a + IntKind.wrap .u64 b)) = if 9223372036854775807 < a + b then a + b - 18446744073709551616 else if a + b < -9223372036854775808 then a + b + 18446744073709551616 else a + b:=by
 simp only [IntKind.wrap,IntKind.signed,IntKind.bits]
 simp
 omega
section
variable {B:World} {Γ Δ:List zC} {st sd n:Nat} {M C:zy} {P:Pool}
theorem zZa {a b:Int} {Q:Int→Bool→K} (ha:-9223372036854775808 ≤ a∧a ≤ 9223372036854775807) (hb:-9223372036854775808 ≤ b∧b ≤ 9223372036854775807)
  (h:HG B Γ (Q (if zC4 a b then 0 else a + b) (!zC4 a b))):HG B Γ (vP.call a b Q):=by
 refine fun w hw=>zQG _ _ _ _ ?_
 refine hg hw ?_
 clear hw w
 unfold vP
 have e:=zXa ha hb
 have fin:∀ (c:Int) (t:Bool),(zC4 a b = true ↔ t = true)→(t = false→c = a + b)→HG B Γ (vP.s1 Q c t):=fun c t h1 h2=>by
  unfold vP.s1
  cases t
  ·have:zC4 a b = false:=by cases ho:zC4 a b with
    | false=>rfl
    | true=>exact absurd (h1.1 ho) (by simp)
   rw [this] at h
   refine s_f ?_
   rw [h2 rfl]; simpa using h
  ·rw [h1.2 rfl] at h
   refine s_t ?_
   simpa using h
 refine zAW rfl ?_
 refine zAW rfl ?_
 refine zAW rfl ?_
 refine zAW e ?_
 have ov:zC4 a b = true ↔ (9223372036854775807 < a + b∨a + b < -9223372036854775808):=by
  unfold zC4
  simp only [decide_eq_true_eq]; omega
 have neg:HG B Γ (Ite (decide (a < 0)) (Ite (decide (b < 0)) (vP.s1 Q (if 9223372036854775807 < a + b then a + b - 18446744073709551616 else if a + b < -9223372036854775808 then a + b + 18446744073709551616 else a + b) (decide ((0:Int) ≤ if 9223372036854775807 < a + b then a + b - 18446744073709551616 else if a + b < -9223372036854775808 then a + b + 18446744073709551616 else a + b)))
   (vP.s1 Q (if 9223372036854775807 < a + b then a + b - 18446744073709551616 else if a + b < -9223372036854775808 then a + b + 18446744073709551616 else a + b) false)) (vP.s1 Q (if 9223372036854775807 < a + b then a + b - 18446744073709551616 else if a + b < -9223372036854775808 then a + b + 18446744073709551616 else a + b) false))∨(0 ≤ a∧0 ≤ b):=by
  by_cases hab:0 ≤ a∧0 ≤ b
  ·exact .inr hab
  left
  refine zF (fun h1=>?_) fun h1=>?_
  ·simp only [decide_eq_true_eq] at h1
   refine zF (fun h2=>?_) fun h2=>?_
   ·simp only [decide_eq_true_eq] at h2
    refine fin _ _ (by rw [ov]; simp only [decide_eq_true_eq]; split <;> (try split) <;> omega) (fun h3=>?_)
    simp only [decide_eq_false_iff_not] at h3
    revert h3
    split <;> (try split) <;> omega
   ·simp only [decide_eq_false_iff_not] at h2
    refine fin _ _ (by rw [ov]; simp; omega) (fun _=>?_)
    split <;> (try split) <;> omega
  ·simp only [decide_eq_false_iff_not] at h1
   refine fin _ _ (by rw [ov]; simp; omega) (fun _=>?_)
   split <;> (try split) <;> omega
 refine zF (fun h1=>?_) fun h1=>?_
 ·simp only [decide_eq_true_eq] at h1
  refine zF (fun h2=>?_) fun h2=>?_
  ·simp only [decide_eq_true_eq] at h2
   refine zF (fun h3=>?_) fun h3=>?_
   ·simp only [decide_eq_true_eq] at h3
    refine fin _ _ (by rw [ov]; simp only [iff_true]; revert h3; split <;> (try split) <;> omega) (fun h=>by cases h)
   ·simp only [decide_eq_false_iff_not] at h3
    refine s_f ?_
    refine fin _ _ (by rw [ov]; simp only [Bool.false_eq_true,iff_false]; revert h3; split <;> (try split) <;> omega) (fun _=>?_)
    revert h3
    split <;> (try split) <;> omega
  ·simp only [decide_eq_false_iff_not] at h2
   exact neg.resolve_right (by omega)
 ·simp only [decide_eq_false_iff_not] at h1
  exact neg.resolve_right (by omega)
theorem zS5 {k:ByteArray} {Q:K} (hk:k.size < 1000000000000) (hL:M.length < 1000000) (h:HG B (uO sd n (zLP n M k) P::Γ) Q):HG B (uO sd n M P::Γ) (jr.call (some ⟨sd,0,none⟩) k Q):=by
 refine fun w hw=>zGi _ _ _ _ ?_
 refine hg hw ?_
 clear hw w
 unfold jr
 refine zGI hk (by omega) fun sl hok hv=>?_
 have hsp:zLP n M k = zB3 M k { zx n M k with has:=false,val:=[] }:=rfl
 rw [hsp] at h
 generalize zx n M k = r at *
 refine zH fun r6=>?_
 refine qA (b:=r6) (l':=jh r sl) ?_
 repeat refine zT ?_
 obtain ⟨o1,o2,o3⟩:=hok
 refine zO sd ?_
 refine zLy (r:={ r with has:=false,val:=[] }) (s:=⟨none,0,0⟩) ⟨o1,o2,by simp⟩ (.inl ⟨rfl,rfl⟩) (by omega) ?_
 exact zB h
theorem zXb {Q:Option Addr→K} (hL:M.length < 1000000) (h:∀ c,HG B (uO c n M P::uO sd n M P::Γ) (Q (some ⟨c,0,none⟩))):HG B (uO sd n M P::Γ) (zAv.call (some ⟨sd,0,none⟩) Q):=by
 refine fun w hw=>zIJ _ _ _ ?_
 refine hg hw ?_
 clear hw w
 refine zKR fun rs X hf=>?_
 have hXl:X.length = M.length:=by rw [hf.mod]; simp
 refine yS rs fun a1 a2 a3 a4=>?_
 rw [zX _ 5 uo] at a1
 unfold zAv
 refine vo ?_
 refine zBE [blk sd (.cells [.int .i64 n,rs.val].toArray zCH (0,0))] ?_
 refine uP ?_
 repeat refine zT ?_
 refine zH fun t7=>?_
 repeat refine zT ?_
 refine jy (A':=SlC yY 5 ⟨some ⟨t7,0,none⟩,0,0⟩ (([]:List zAG).flatMap xL)) (zAB (vs:=[]) rfl (by simp)) ?_
 refine qN (s:=⟨some ⟨t7,0,none⟩,0,0⟩) (esz:=5) (us:=X.flatMap xL) (fun w hw=>(yP (s:=rs) hw).1) (zHK X) (by simp only; omega) fun s2 _=>?_
 rw [List.flatMap_nil,List.nil_append]
 repeat refine zT ?_
 refine zH fun c=>?_
 refine zB (Δ:=zHL sd n rs X (zHL c n s2 X Γ)) ?_
 refine zDj hf ?_
 refine zw s2 ?_
 refine zO c ?_
 refine zDj hf ?_
 exact zB (h c)
abbrev zah (P:Pool) (osl:Sl) (ov:List UInt8) (x:(Bool×List UInt8)×Sl):Prop:=inP P x.2 x.1.2∨(x.2 = osl∧x.1.2 = ov)
theorem zXc {o:OpM} {osl:Sl} {Q:Sl→Int→K} (ho:o.ok) (hv8:o.val.length ≤ 90000000) (hL:C.length < 900000) (hr:∀ w,Holds B Γ w→RdB w osl o.val)
  (h:∀ s P' (O:OX),(∀ x ∈ P,x ∈ P')→O.map Prod.fst = (jM n C o).2.1→(∀ x ∈ O,zah P' osl o.val x)→HG B (SlC yC 2 s (O.flatMap oF)::uO sd n (jM n C o).1 P'::vw P'::Γ) (Q s (jM n C o).2.2)) :
  HG B (uO sd n C P::vw P::Γ) (ql.call (some ⟨sd,0,none⟩) (opF (o,osl)).toArray Q):=by
 obtain ⟨o1,o2,o3,o4⟩:=ho
 have hks:(bs o.key).size < 1000000000000:=o1
 refine fun w hw=>zNl _ _ _ _ ?_
 refine hg hw ?_
 clear hw w
 unfold ql
 refine zH fun o3b=>?_
 refine yB (b:=o3b) (off:=1) (l:=opF (o,osl)) (x:=bs o.key) ?_
 refine zO sd ?_
 refine zGI hks (by omega) fun sl hok hv=>?_
 refine zH fun r6=>?_
 refine qA (b:=r6) (l':=jh (zx n C (bs o.key)) sl) ?_
 refine yB (b:=o3b) (l:=opF (o,osl)) (x:=o.kind) ?_
 have none:∀ {C':zy} {P':Pool} {e:Int} {t:Nat},(∀ x ∈ P,x ∈ P')→jM n C o = (C',[],e)→HG B (blk t (.cells ([]:List Value).toArray yC (0,0))::uO sd n C' P'::vw P'::Γ) (Q (Sl.mk (some ⟨t,0,none⟩) 0 0) e):=fun {C' P' e t} hP he=>by
  have h1:=h ⟨some ⟨t,0,none⟩,0,0⟩ P' [] hP (by rw [he]; rfl) (by simp)
  rw [he] at h1
  exact jy (A':=SlC yC 2 ⟨some ⟨t,0,none⟩,0,0⟩ (([]:OX).flatMap oF)) (zAB (vs:=[]) rfl (by simp)) h1
 have S1:∀ {C':zy} {P':Pool},(∀ x ∈ P,x ∈ P')→jM n C o = (C',[],0)→HG B (uO sd n C' P'::vw P'::Γ) (ql.s1 Q):=fun {C' P'} hP he=>by
  unfold ql.s1
  refine zH fun t=>?_
  exact none hP he
 have one:∀ {x:(Bool×List UInt8)×Sl} {t:Nat},zah P osl o.val x→jM n C o = (C,[x.1],0)→HG B (blk t (.cells [.bool x.1.1,x.2.val].toArray yC (0,0))::uO sd n C P::vw P::Γ) (Q (Sl.mk (some ⟨t,0,Option.none⟩) 1 1) 0):=fun {x t} hx he=>by
  have h1:=h ⟨some ⟨t,0,Option.none⟩,1,1⟩ P [x] (fun x hx=>hx) (by rw [he]; rfl) (by simpa using hx)
  rw [he] at h1
  refine jy (A':=SlC yC 2 ⟨some ⟨t,0,Option.none⟩,1,1⟩ ([x].flatMap oF)) (zAB (vs:=[x].flatMap oF) (by simp [oF]) (by simp [oF])) h1
 refine zF (fun c1=>?_) fun c1=>?_
 ·have hk:o.kind = 1:=by simpa using c1
  repeat refine zT ?_
  refine zH fun t=>?_
  refine zB (Δ:=blk t (.cells [.bool (zx n C (bs o.key)).has,sl.val].toArray yC (0,0))::uO sd n C P::vw P::Γ) ?_
  exact one (x:=(((zx n C (bs o.key)).has,(zx n C (bs o.key)).val),sl)) (.inl hv) (by unfold jM; rw [if_pos hk])
 have k1:o.kind ≠ 1:=by simpa using c1
 refine zF (fun c7=>?_) fun c7=>?_
 ·have hk:o.kind = 7:=by simpa using c7
  refine yB (b:=o3b) (off:=2) (l:=opF (o,osl)) (x:=osl) ?_
  repeat refine zT ?_
  refine zH fun t=>?_
  refine zB (Δ:=blk t (.cells [.bool true,osl.val].toArray yC (0,0))::uO sd n C P::vw P::Γ) ?_
  exact one (x:=((true,o.val),osl)) (.inr ⟨rfl,rfl⟩) (by unfold jM; rw [if_neg k1,if_pos hk])
 have k7:o.kind ≠ 7:=by simpa using c7
 refine zF (fun c2=>?_) fun c2=>?_
 ·have hk:o.kind = 2:=by simpa using c2
  refine yB (b:=o3b) (off:=1) (l:=opF (o,osl)) (x:=bs o.key) ?_
  refine yB (b:=o3b) (off:=2) (l:=opF (o,osl)) (x:=osl) ?_
  refine zB (Δ:=uO sd n C P::vw P::Γ) ?_
  refine zRo hks (by omega) (fun w hw=>hr w hw) hv8 fun P' hP=>?_
  exact S1 hP (by unfold jM; rw [if_neg k1,if_neg k7,if_pos hk])
 have k2:o.kind ≠ 2:=by simpa using c2
 refine zF (fun c3=>?_) fun c3=>?_
 ·have hk:o.kind = 3:=by simpa using c3
  refine yB (b:=o3b) (off:=1) (l:=opF (o,osl)) (x:=bs o.key) ?_
  refine zB (Δ:=uO sd n C P::vw P::Γ) ?_
  refine zS5 hks (by omega) ?_
  exact S1 (fun x hx=>hx) (by unfold jM; rw [if_neg k1,if_neg k7,if_neg k2,if_pos hk])
 have k3:o.kind ≠ 3:=by simpa using c3
 have S2:∀ b:Bool,jM n C o = (C,[],if b then 110 else 0)→HG B (uO sd n C P::vw P::Γ) (ql.s2 Q b):=fun b he=>by
  unfold ql.s2
  cases b
  ·exact s_f (S1 (fun x hx=>hx) he)
  ·refine s_t ?_
   refine zH fun t=>?_
   exact none (fun x hx=>hx) he
 refine zF (fun c4=>?_) fun c4=>?_
 ·have hk:o.kind = 4:=by simpa using c4
  have e4:jM n C o = (C,[],if (zx n C (bs o.key)).has = true∧(zx n C (bs o.key)).val = o.val then 0 else 110):=by unfold jM; rw [if_neg k1,if_neg k7,if_neg k2,if_neg k3,if_pos hk]
  refine yB (b:=r6) (l:=jh (zx n C (bs o.key)) sl) (x:=(zx n C (bs o.key)).has) ?_
  refine zF (fun hh=>?_) fun hh=>?_
  ·have hh':(zx n C (bs o.key)).has = false:=by simpa using hh
   refine zB (S2 true ?_)
   rw [e4,hh']; simp
  ·have hh':(zx n C (bs o.key)).has = true:=by simpa using hh
   refine yB (b:=r6) (off:=1) (l:=jh (zx n C (bs o.key)) sl) (x:=sl) ?_
   refine zOT (xs:=(zx n C (bs o.key)).val) (fun w hw=>hv.rd (hw.drops (Δ:=[vw P]))) ?_
   refine yB (b:=o3b) (off:=2) (l:=opF (o,osl)) (x:=osl) ?_
   refine zOT (xs:=o.val) (fun w hw=>hr w hw.drops) ?_
   refine zB (S2 _ ?_)
   rw [e4,hh']
   by_cases hvv:(zx n C (bs o.key)).val = o.val
   ·simp [hvv]
   ·have:((bs (zx n C (bs o.key)).val).toList == (bs o.val).toList) = false:=by simpa using hvv
    simp [hvv]
 have k4:o.kind ≠ 4:=by simpa using c4
 refine zF (fun c5=>?_) fun c5=>?_
 ·have hk:o.kind = 5:=by simpa using c5
  have e5:jM n C o = (C,[],if (zx n C (bs o.key)).has then 110 else 0):=by unfold jM; rw [if_neg k1,if_neg k7,if_neg k2,if_neg k3,if_neg k4,if_pos hk]
  refine yB (b:=r6) (l:=jh (zx n C (bs o.key)) sl) (x:=(zx n C (bs o.key)).has) ?_
  refine zF (fun hh=>?_) fun hh=>?_
  ·refine zH fun t=>?_
   refine zB (Δ:=blk t (.cells ([]:List Value).toArray yC (0,0))::uO sd n C P::vw P::Γ) ?_
   exact none (fun x hx=>hx) (by rw [e5,hh]; rfl)
  ·refine zB (Δ:=uO sd n C P::vw P::Γ) (S1 (fun x hx=>hx) ?_)
   rw [e5,hh]; rfl
 have k5:o.kind ≠ 5:=by simpa using c5
 have e6:jM n C o = ((zNu n C o).1,[],(zNu n C o).2):=by unfold jM; rw [if_neg k1,if_neg k7,if_neg k2,if_neg k3,if_neg k4,if_neg k5]
 refine yB (b:=r6) (off:=1) (l:=jh (zx n C (bs o.key)) sl) (x:=sl) ?_
 refine fun w hw=>zJn (xs:=(zx n C (bs o.key)).val) (hv.rd (hw.drops (Δ:=[vw P]))) ?_
 refine hg hw ?_
 clear hw w
 rw [show (if (zx n C (bs o.key)).val.length = 8 then IntKind.wrap .i64 (zKS (zx n C (bs o.key)).val:Int) else 0) = zJq (zx n C (bs o.key)).val from rfl]
 have hnr:-9223372036854775808 ≤ zJq (zx n C (bs o.key)).val∧zJq (zx n C (bs o.key)).val ≤ 9223372036854775807:=by
  unfold zJq
  split
  ·exact zIx _
  ·omega
 refine yB (b:=r6) (l:=jh (zx n C (bs o.key)) sl) (x:=(zx n C (bs o.key)).has) ?_
 have S3:∀ b:Bool,(b = true ↔ (zx n C (bs o.key)).has = true∧(zx n C (bs o.key)).val.length ≠ 8)→HG B (blk o3b (.cells (opF (o,osl)).toArray qj (0,0))::uO sd n C P::vw P::Γ) (ql.s3 Q (some ⟨sd,0,Option.none⟩) ⟨o3b,0,Option.none⟩ (zJq (zx n C (bs o.key)).val) b):=fun b hb=>by
  unfold ql.s3
  cases b
  ·have hnb:¬ ((zx n C (bs o.key)).has = true∧(zx n C (bs o.key)).val.length ≠ 8):=fun hh=>by have:=hb.2 hh; cases this
   refine s_f ?_
   refine yB (b:=o3b) (off:=3) (l:=opF (o,osl)) (x:=o.n) ?_
   refine zZa hnr ⟨o3,o4⟩ ?_
   refine zF (fun hh=>?_) fun hh=>?_
   ·have hov:zC4 (zJq (zx n C (bs o.key)).val) o.n = true:=by simpa using hh
    refine zH fun t=>?_
    refine zB (Δ:=blk t (.cells ([]:List Value).toArray yC (0,0))::uO sd n C P::vw P::Γ) ?_
    exact none (fun x hx=>hx) (by rw [e6]; unfold zNu; rw [if_neg hnb,if_pos hov])
   ·have hov:zC4 (zJq (zx n C (bs o.key)).val) o.n = false:=by simpa using hh
    rw [hov,if_neg Bool.false_ne_true]
    refine vo ?_
    refine zBE [blk o3b (.cells (opF (o,osl)).toArray qj (0,0))] ?_
    refine jC (b:=o3b) (off:=1) (l:=opF (o,osl)) (x:=bs o.key) ?_
    refine fun w hw=>zKV hw fun sv w hw=>?_
    refine hg hw ?_
    clear hw w
    refine zBC ?_
    refine zB (Δ:=uO sd n C P::vw P::Bytes yK sv (valOf (zJq (zx n C (bs o.key)).val + o.n))::Γ) ?_
    refine zRo (xs:=valOf (zJq (zx n C (bs o.key)).val + o.n)) hks (by omega) (fun w hw=>(yP (s:=sv) hw).1) (by rw [zOW]; omega) fun P' hP=>?_
    refine zB (Δ:=uO sd n (zIy n C (bs o.key) (valOf (zJq (zx n C (bs o.key)).val + o.n))) P'::vw P'::Γ) (S1 hP ?_)
    rw [e6]; unfold zNu
    rw [if_neg hnb,if_neg (by simp [hov])]
  ·refine s_t ?_
   refine zH fun t=>?_
   refine zB (Δ:=blk t (.cells ([]:List Value).toArray yC (0,0))::uO sd n C P::vw P::Γ) ?_
   exact none (fun x hx=>hx) (by rw [e6]; unfold zNu; rw [if_pos (hb.1 rfl)])
 refine zF (fun hh=>?_) fun hh=>?_
 ·refine zB (S3 _ ?_)
  simp [hh]
 ·refine zB (S3 _ ?_)
  simp [hh]
theorem zXd {s:Sl} {L:List TX} {i:Nat} {x:TX} {k:ByteArray→K} {Γ0:List zC} (hx:L[i]? = some x) (h:HG B Γ (k (bs x))) [o:zB1 s Γ0 (SlS s L) Δ]:HG B Γ (LdS (Holds B Γ0) (elA s i 1) Value.string k):=fun w hw=>by
 refine ⟨bs x,fun w' hw'=>?_,h w hw⟩
 obtain ⟨h0,h1,h2,h3,h4⟩:=yP hw' (p:=o)
 have:=zLo (i:=i) (off:=0) (v:=qb x) h0 h3 (by simp [hx])
 rwa [add0] at this
theorem fm1 (L:List TX):L.flatMap (fun x=>[qb x]) = L.map qb:=by induction L <;> simp_all
theorem zUl {s:Sl} {L:List TX} {j:Nat} {jj:Int} {x:TX} {k:Addr→K} (hr:∀ w,Holds B Γ w→RdC w s 1 (L.map qb)) (hx:L[j]? = some x) (h:∀ t,(∀ w,RdC w s 1 (L.map qb)→w.cell? t = some (qb x))→HG B Γ (k t)) (hj:jj = (j:Int):=by first | rfl | omega):HG B Γ (Idx s jj 1 k):=by
 have e:=fm1 L
 refine zFT (fun x:TX=>[qb x]) (fun _=>rfl) (by omega) (fun w hw=>by rw [e]; exact hr w hw) hx (fun t ht=>h t fun w hw=>?_) hj
 have h1:=ht w (by rw [e]; exact hw) 0 (by simp)
 rw [add0] at h1
 simpa using h1
abbrev zKa (P:Pool) (t:TxX) (O:OX):Prop:=∀ x ∈ O,inP P x.2 x.1.2∨∃ op ∈ t.ops,x.2 = op.2∧x.1.2 = op.1.val
abbrev RowsIn (P:Pool) (R:WX):Prop:=∀ x ∈ R,x.2.1.ok∧inP P x.2.2 x.2.1.val
theorem zKa.mono {P P':Pool} {t:TxX} {O:OX} (h:zKa P t O) (hP:∀ x ∈ P,x ∈ P'):zKa P' t O:=fun x hx=>(h x hx).imp (fun h=>h.mono hP) id
theorem zZb {t:TxX} {Q:Array Value→Sl→K} (hop:∀ x ∈ t.ops,x.1.ok∧x.1.val.length ≤ 90000000) (hl:t.ops.length ≤ 1000) (hM:M.length ≤ 100000) (hwk:∀ k ∈ t.writes,k.length < 1000000000000) (h2:t.kind = 2→t.writes ≠ []) (ht:∀ w,Holds B Γ w→zCX w t)
  (h:∀ P' os (O:OX) rs (R:WX),(∀ x ∈ P,x ∈ P')→O.map Prod.fst = (zDm n M t).1→qJ R = (zDm n M t).2.2→zKa P' t O→RowsIn P' R→HG B (SlC yC 2 os (O.flatMap oF)::SlC yY 5 rs (R.flatMap zB5)::uO sd n M P'::vw P'::Γ) (Q #[.int .i64 (zDm n M t).2.1,os.val] rs)) :
  HG B (uO sd n M P::vw P::Γ) (qZ.call (some ⟨sd,0,none⟩) (txL t).toArray Q):=by
 refine fun w hw=>zQF _ _ _ _ ?_
 refine hg hw ?_
 clear hw w
 have hon:∀ w,Holds B Γ w→t.os.n = t.ops.length:=fun w hw=>zA3 zBF (by omega) (ht w hw).2.2.1
 unfold qZ
 refine zH fun t3=>?_
 refine zH fun t4=>?_
 refine zO sd ?_
 refine zXb (by omega) fun c=>?_
 refine zH fun t18=>?_
 refine zH fun t19=>?_
 refine yB (b:=t3) (l:=txL t) (x:=t.kind) ?_
 have bad:∀ {P':Pool} {e:Int} {t33:Nat},(∀ x ∈ P,x ∈ P')→(zDm n M t) = ([],e,[])→HG B (blk t33 (.cells ([]:List Value).toArray yY (0,0))::uO sd n M P'::vw P'::Γ) (Q #[.int .i64 e,Sl.val ⟨none,0,0⟩] (Sl.mk (some ⟨t33,0,none⟩) 0 0)):=fun {P' e t33} hP he=>by
  have h1:=h P' ⟨none,0,0⟩ [] ⟨some ⟨t33,0,none⟩,0,0⟩ [] hP (by rw [he]; rfl) (by rw [he]; rfl) (by intro x hx; cases hx) (by intro x hx; cases hx)
  rw [he] at h1
  refine jy (A':=SlC yY 5 ⟨some ⟨t33,0,none⟩,0,0⟩ (([]:WX).flatMap zB5)) (zAB (vs:=[]) rfl (by simp)) ?_
  refine fun w hw=>hg (show Holds B (SlC yC 2 ⟨none,0,0⟩ (([]:OX).flatMap oF)::_) w from hw.zAm _ _) h1
 refine zF (fun c2=>?_) fun c2=>?_
 ·have hk2:t.kind = 2:=by simpa using c2
  obtain ⟨k,hk⟩:∃ k,t.writes[0]? = some k:=by
   cases hw:t.writes with
   | nil=>exact absurd hw (h2 hk2)
   | cons k ks=>exact ⟨k,rfl⟩
  have hkd:t.writes.headD [] = k:=by
   cases hw:t.writes with
   | nil=>rw [hw] at hk; cases hk
   | cons k' ks=>rw [hw] at hk; simpa using hk
  have hkm:k ∈ t.writes:=List.mem_of_getElem? hk
  have hks:(bs k).size < 1000000000000:=hwk k hkm
  have hr:zDm n M t = if (je n M (bs k) t.to).2 ≠ 0 then ([],111,[]) else ([],0,[(k,zx n (je n M (bs k) t.to).1 (bs k))]):=by unfold zDm; rw [if_pos hk2,hkd]
  refine vo ?_
  refine yB (b:=t3) (off:=2) (l:=txL t) (x:=t.ws) ?_
  refine jY (L:=t.writes) (j:=0) (fun w hw=>(ht w hw.drops).2.1) hk ?_
  refine yB (b:=t3) (off:=4) (l:=txL t) (x:=t.to) ?_
  refine zO c ?_
  refine zXL hks (by omega) ?_
  refine zF (fun hb=>?_) fun hb=>?_
  ·refine zH fun t33=>?_
   refine qA (b:=t4) (l':=[.int .i64 111,Sl.val ⟨none,0,0⟩]) ?_
   refine qI (b:=t4) (l':=[.int .i64 111,Sl.val ⟨none,0,0⟩]) ?_
   refine zB (Δ:=blk t33 (.cells ([]:List Value).toArray yY (0,0))::uO sd n M P::vw P::Γ) ?_
   exact bad (fun x hx=>hx) (by rw [hr,if_pos (by simpa using hb)])
  ·have hb':¬ (je n M (bs k) t.to).2 ≠ 0:=by simpa using hb
   rw [if_neg hb'] at hr
   refine vo ?_
   refine zaf (fun w=>zCX w t∧w.cell? ((⟨t3,0,none⟩:Addr).add 2) = some t.ws.val) (fun w hw=>⟨ht w hw.drops,?_⟩) ?_
   ·rw [uT]; exact vE (zA6 hw (b:=t3)) rfl
   refine zM7 (x:=t.ws) (fun w hw=>hw.2) ?_
   refine zUl (L:=t.writes) (j:=0) (fun w hw=>(ht w hw.drops).2.1) hk fun a1 ha1=>?_
   refine zM7 (x:=bs k) (fun w hw=>ha1 w hw.1.2.1) ?_
   refine zM7 (x:=t.ws) (fun w hw=>hw.2) ?_
   refine zUl (L:=t.writes) (j:=0) (fun w hw=>(ht w hw.drops).2.1) hk fun a2 ha2=>?_
   refine zM7 (x:=bs k) (fun w hw=>ha2 w hw.1.2.1) ?_
   have hml:=zM4 n M (bs k) t.to
   refine zO c ?_
   refine zGI hks (by omega) fun sl hok hv=>?_
   have hsv:∀ w,Holds B (uO c n (je n M (bs k) t.to).1 P::blk t4 (.cells [.int .i64 0,Sl.val ⟨none,0,0⟩].toArray yx (0,0))::blk t3 (.cells (txL t).toArray yU (0,0))::uO sd n M P::vw P::Γ) w→zCX w t∧w.cell? ((⟨t3,0,none⟩:Addr).add 2) = some t.ws.val:=fun w hw=>⟨ht w hw.drops,by rw [uT]; exact vE (zA6 hw (b:=t3)) rfl⟩
   have fin:∀ t46,HG B (blk t46 (.cells (zB5 (k,(zx n (je n M (bs k) t.to).1 (bs k),sl))).toArray yY (0,0))::blk t4 (.cells [.int .i64 0,Sl.val ⟨none,0,0⟩].toArray yx (0,0))::uO sd n M P::vw P::Γ) (qZ.s1 Q ⟨t4,0,none⟩ (Sl.mk (some ⟨t46,0,none⟩) 1 1)):=fun t46=>by
    unfold qZ.s1
    refine qI (b:=t4) (l':=[.int .i64 0,Sl.val ⟨none,0,0⟩]) ?_
    have h1:=h P ⟨none,0,0⟩ [] ⟨some ⟨t46,0,none⟩,1,1⟩ [(k,(zx n (je n M (bs k) t.to).1 (bs k),sl))] (fun x hx=>hx) (by rw [hr]; rfl) (by rw [hr]; rfl) (by intro x hx; cases hx) (by intro x hx; rw [List.mem_singleton.1 hx]; exact ⟨hok,hv⟩)
    rw [hr] at h1
    refine jy (A':=SlC yY 5 ⟨some ⟨t46,0,none⟩,1,1⟩ ([(k,(zx n (je n M (bs k) t.to).1 (bs k),sl))].flatMap zB5)) (zAB (vs:=[(k,(zx n (je n M (bs k) t.to).1 (bs k),sl))].flatMap zB5) (by simp) (by simp [zB5])) ?_
    refine fun w hw=>hg (show Holds B (SlC yC 2 ⟨none,0,0⟩ (([]:OX).flatMap oF)::_) w from hw.zAm _ _) ?_
    exact zB h1
   refine zXW (fun w hw=>hsv w hw.drops) ?_
   refine zUK (cs:=zB5 (k,(zx n (je n M (bs k) t.to).1 (bs k),sl))) ?_ rfl
   refine zIl ?_ ?_
   ·refine zBf (cs:=zB5 (k,(zx n (je n M (bs k) t.to).1 (bs k),sl))) ?_
    refine zH fun t46=>?_
    refine qA (b:=t4) (l':=[.int .i64 0,Sl.val ⟨none,0,0⟩]) ?_
    exact zB (fin t46)
   ·refine qA (b:=t4) (l':=[.int .i64 0,Sl.val ⟨none,0,0⟩]) ?_
    refine zXW (fun w hw=>hsv w hw.drops) ?_
    refine zBf (cs:=zB5 (k,(zx n (je n M (bs k) t.to).1 (bs k),sl))) ?_
    refine zH fun t46=>?_
    exact zB (fin t46)
 ·have hk2:¬ t.kind = 2:=by simpa using c2
  have hr:zDm n M t = if (zDx n t.ops M [] []).2.2.2 ≠ 0 then ([],(zDx n t.ops M [] []).2.2.2,[]) else ((zDx n t.ops M [] []).2.1,0,(xq (zDx n t.ops M [] []).2.2.1).map fun k=>(k,zx n (zDx n t.ops M [] []).1 (bs k))):=by unfold zDm; rw [if_neg hk2]
  refine zO t18 ?_
  refine jy (A':=SlC yC 2 ⟨some ⟨t18,0,none⟩,0,0⟩ (([]:OX).flatMap oF)) (zAB (vs:=[]) rfl (by simp)) ?_
  refine zO t19 ?_
  refine jy (A':=SlS ⟨some ⟨t19,0,none⟩,0,0⟩ []) (zAB (vs:=[]) rfl (by simp)) ?_
  refine zB (Δ:=SlC yC 2 ⟨some ⟨t18,0,none⟩,0,0⟩ (([]:OX).flatMap oF)::SlS ⟨some ⟨t19,0,none⟩,0,0⟩ []::uO c n M P::vw P::uO sd n M P::blk t3 (.cells (txL t).toArray yU (0,0))::blk t4 (.cells [.int .i64 0,Sl.val ⟨none,0,0⟩].toArray yx (0,0))::Γ) ?_
  refine xW (α:=Sl×Sl×Int) (ι:=zy×OX×List TX×Pool×Nat) (fun x i=>x.2.2 = (i.2.2.2.2:Int)∧i.2.2.2.2 ≤ t.ops.length∧(∀ x ∈ P,x ∈ i.2.2.2.1)∧zKa i.2.2.2.1 t i.2.1∧i.1.length ≤ M.length + i.2.2.2.2∧i.2.1.length ≤ i.2.2.2.2∧i.2.2.1.length ≤ i.2.2.2.2∧(∀ k ∈ i.2.2.1,k.length < 1000000000000)∧zDx n (t.ops.drop i.2.2.2.2) i.1 (i.2.1.map Prod.fst) i.2.2.1 = zDx n t.ops M [] [])
   (fun x i=>SlC yC 2 x.1 (i.2.1.flatMap oF)::SlS x.2.1 i.2.2.1::uO c n i.1 i.2.2.2.1::vw i.2.2.2.1::uO sd n M i.2.2.2.1::blk t3 (.cells (txL t).toArray yU (0,0))::blk t4 (.cells [.int .i64 0,Sl.val ⟨none,0,0⟩].toArray yx (0,0))::Γ) (fun x i=>t.ops.length - i.2.2.2.2) (M,[],[],P,0) ⟨rfl,Nat.zero_le _,fun x hx=>hx,(by intro x hx; cases hx),Nat.le_refl _,Nat.le_refl _,Nat.le_refl _,(by intro x hx; cases hx),rfl⟩ ?_
  rintro k' ⟨os,ts,_⟩ ⟨C,O,T,P',i⟩ ⟨rfl,hi,hPP,hO,hCl,hOl,hTl,hTk,he⟩ hk'
  simp only at hi hPP hO hCl hOl hTl hTk he hk' ⊢
  unfold qZ.b2
  refine yB (b:=t3) (off:=3) (l:=txL t) (x:=t.os) ?_
  refine yS os fun a1 a2 a3 a4=>?_
  rw [zX _ 2 zGJ] at a1
  refine yS ts fun b1 b2 b3 b4=>?_
  refine fun w hw=>hg hw ?_
  have hosn:=hon w hw.drops
  clear hw w
  refine zF (fun hb=>?_) fun hb=>?_
  ·have hil:i < t.ops.length:=by simp only [decide_eq_true_eq] at hb; omega
   have hge:t.ops[i]? = some t.ops[i]:=List.getElem?_eq_getElem hil
   have hmem:t.ops[i] ∈ t.ops:=List.getElem_mem hil
   rw [List.drop_eq_getElem_cons hil] at he
   generalize t.ops[i] = x at hge hmem he
   obtain ⟨o,osl⟩:=x
   obtain ⟨ho1,ho2⟩:=hop _ hmem
   refine yB (b:=t3) (off:=3) (l:=txL t) (x:=t.os) ?_
   refine zAc opF zBF (fun w hw=>(ht w hw.drops).2.2.1) hge ?_
   refine zH fun o10=>?_
   refine qA (b:=o10) (l':=opF (o,osl)) ?_
   refine qI (b:=o10) (l':=opF (o,osl)) ?_
   refine zB (Δ:=uO c n C P'::vw P'::uO sd n M P'::blk o10 (.cells (opF (o,osl)).toArray qj (0,0))::SlC yC 2 os (O.flatMap oF)::SlS ts T::blk t3 (.cells (txL t).toArray yU (0,0))::blk t4 (.cells [.int .i64 0,Sl.val ⟨none,0,0⟩].toArray yx (0,0))::Γ) ?_
   refine zXc ho1 ho2 (by omega) (fun w hw=>(ht w hw.drops).2.2.2 _ hmem) fun s2 P2 O2 hP2 hO2 hI2=>?_
   rw [opsC_cons] at he
   have hst:=zVf (n:=n) (C:=C) (o:=o)
   have hPP2:∀ x ∈ P,x ∈ P2:=fun x hx=>hP2 x (hPP x hx)
   refine zF (fun hc=>?_) fun hc=>?_
   ·have hc':(jM n C o).2.2 ≠ 0:=by simpa using hc
    rw [if_pos hc'] at he
    refine zH fun t69=>?_
    refine qA (b:=t4) (l':=[.int .i64 (jM n C o).2.2,Sl.val ⟨none,0,0⟩]) ?_
    refine qI (b:=t4) (l':=[.int .i64 (jM n C o).2.2,Sl.val ⟨none,0,0⟩]) ?_
    refine zO sd ?_
    refine zQL hP2 ?_
    refine zB (Δ:=blk t69 (.cells ([]:List Value).toArray yY (0,0))::uO sd n M P2::vw P2::Γ) ?_
    refine bad hPP2 ?_
    rw [hr,← he,if_pos hc']
   have hc':¬ (jM n C o).2.2 ≠ 0:=by simpa using hc
   rw [if_neg hc'] at he
   have hO2l:O2.length ≤ 1:=by have:=congrArg List.length hO2; simp only [List.length_map] at this; omega
   refine yS s2 fun d1 d2 d3 d4=>?_
   rw [zX _ 2 zGJ] at d1
   refine qN (s:=os) (esz:=2) (us:=O2.flatMap oF) (fun w hw=>(yP (s:=s2) hw).1) (zZZ O2) (by omega) fun os2 _=>?_
   rw [← List.flatMap_append]
   refine zO sd ?_
   refine zQL hP2 ?_
   have hO3:zKa P2 t (O++O2):=fun x hx=>by
    rcases List.mem_append.1 hx with hx | hx
    ·exact hO.mono hP2 x hx
    ·exact (hI2 x hx).imp id fun hh=>⟨_,hmem,hh⟩
   have S3:∀ ts2 T2,T2 = (if isW o then T++[o.key] else T)→T2.length ≤ T.length + 1→(∀ k ∈ T2,k.length < 1000000000000)→HG B (SlC yC 2 os2 ((O++O2).flatMap oF)::SlS ts2 T2::uO c n (jM n C o).1 P2::vw P2::uO sd n M P2::blk t3 (.cells (txL t).toArray yU (0,0))::blk t4 (.cells [.int .i64 0,Sl.val ⟨none,0,0⟩].toArray yx (0,0))::Γ) (qZ.s3 Q (fun outs7_2 touched8_2 i9_2=>k' (outs7_2,touched8_2,i9_2)) ⟨t3,0,none⟩ ⟨t4,0,none⟩ (some ⟨c,0,none⟩) os2 ts2 (i:Int)):=fun ts2 T2 hT2 hT2l hT2k=>by
    unfold qZ.s3
    refine qB ?_
    refine hk' (os2,ts2,(i:Int) + 1) ((jM n C o).1,O++O2,T2,P2,i + 1) ⟨by simp,hil,hPP2,hO3,by simp only; omega,by simp only [List.length_append]; omega,by simp only; omega,hT2k,?_⟩ (by simp only; omega)
    simp only
    rw [List.map_append,hO2,hT2]; exact he
   have S4:∀ b:Bool,b = isW o→HG B (blk o10 (.cells (opF (o,osl)).toArray qj (0,0))::SlC yC 2 os2 ((O++O2).flatMap oF)::SlS ts T::uO c n (jM n C o).1 P2::vw P2::uO sd n M P2::blk t3 (.cells (txL t).toArray yU (0,0))::blk t4 (.cells [.int .i64 0,Sl.val ⟨none,0,0⟩].toArray yx (0,0))::Γ) (qZ.s4 Q (fun outs7_2 touched8_2 i9_2=>k' (outs7_2,touched8_2,i9_2)) ⟨t3,0,none⟩ ⟨t4,0,none⟩ (some ⟨c,0,none⟩) os2 ts (i:Int) ⟨o10,0,none⟩ b):=fun b hb=>by
    unfold qZ.s4
    cases b
    ·refine s_f ?_
     exact zB (S3 ts T (by rw [← hb]; simp) (by omega) hTk)
    ·refine s_t ?_
     refine yB (b:=o10) (off:=1) (l:=opF (o,osl)) (x:=bs o.key) ?_
     refine zH fun t89=>?_
     refine qN (s:=ts) (esz:=1) (us:=[qb o.key]) (jX rfl) (by simp [yu]) (by simp only; simp only [List.length_map] at b1; omega) fun ts2 _=>?_
     rw [show T.map qb++[qb o.key] = (T++[o.key]).map qb by simp]
     exact zB (S3 ts2 (T++[o.key]) (by rw [← hb]; simp) (by simp) fun k hk=>by
      rcases List.mem_append.1 hk with hk | hk
      ·exact hTk k hk
      ·rw [List.mem_singleton.1 hk]; exact ho1.1)
   refine yB (b:=o10) (l:=opF (o,osl)) (x:=o.kind) ?_
   refine zF (fun h2=>?_) fun h2=>?_
   ·exact zB (S4 true (by simp only [decide_eq_true_eq] at h2; simp [isW,h2]))
   refine yB (b:=o10) (l:=opF (o,osl)) (x:=o.kind) ?_
   refine zF (fun h3=>?_) fun h3=>?_
   ·exact zB (S4 true (by simp only [decide_eq_true_eq] at h3; simp [isW,h3]))
   refine yB (b:=o10) (l:=opF (o,osl)) (x:=o.kind) ?_
   exact zB (S4 _ (by simp only [decide_eq_false_iff_not] at h2 h3; simp [isW,h2,h3]))
  ·have hil:i = t.ops.length:=by simp only [decide_eq_false_iff_not] at hb; omega
   rw [hil,List.drop_length,opsC_nil] at he
   rw [← he] at hr
   simp only [ne_eq,not_true_eq_false,if_false] at hr
   refine zH fun t91=>?_
   refine zVX (t:=⟨0,[],T,[],0,⟨none,0,0⟩,ts,⟨none,0,0⟩⟩) (fun w hw=>RdC.none') (fun w hw=>(yP (s:=ts) hw).1) (by simp) (by simp; omega) fun ks=>?_
   rw [List.nil_append]
   have hkl:=zF0 T
   refine yS ks fun d1 d2 d3 d4=>?_
   have hkn:ks.n = (xq T).length:=by simpa using d1.symm
   refine zO t91 ?_
   refine jy (A':=SlC yY 5 ⟨some ⟨t91,0,none⟩,0,0⟩ (([]:WX).flatMap zB5)) (zAB (vs:=[]) rfl (by simp)) ?_
   refine zB (Δ:=SlC yY 5 ⟨some ⟨t91,0,none⟩,0,0⟩ (([]:WX).flatMap zB5)::SlS ks (xq T)::SlC yC 2 os (O.flatMap oF)::uO c n C P'::vw P'::uO sd n M P'::blk t4 (.cells [.int .i64 0,Sl.val ⟨none,0,0⟩].toArray yx (0,0))::Γ) ?_
   refine xW (α:=Sl×Int) (ι:=WX×Nat) (fun x i=>x.2 = (i.2:Int)∧i.2 ≤ (xq T).length∧qJ i.1 = ((xq T).take i.2).map (fun k=>(k,zx n C (bs k)))∧RowsIn P' i.1)
    (fun x i=>SlC yY 5 x.1 (i.1.flatMap zB5)::SlS ks (xq T)::SlC yC 2 os (O.flatMap oF)::uO c n C P'::vw P'::uO sd n M P'::blk t4 (.cells [.int .i64 0,Sl.val ⟨none,0,0⟩].toArray yx (0,0))::Γ) (fun x i=>(xq T).length - i.2) ([],0) ⟨rfl,Nat.zero_le _,rfl,by intro x hx; cases hx⟩ ?_
   rintro k2 ⟨rs,_⟩ ⟨R,j⟩ ⟨rfl,hj,hR,hRi⟩ hk2
   simp only at hj hR hRi hk2 ⊢
   have hRl:R.length = j:=by have:=congrArg List.length hR; simpa [Nat.min_eq_left hj] using this
   refine yS rs fun e1 e2 e3 e4=>?_
   rw [zX _ 5 zHN] at e1
   unfold qZ.b5
   refine zF (fun hb2=>?_) fun hb2=>?_
   ·have hjl:j < (xq T).length:=by simp only [decide_eq_true_eq] at hb2; omega
    have hge:(xq T)[j]? = some (xq T)[j]:=List.getElem?_eq_getElem hjl
    have htk:(xq T).take (j + 1) = (xq T).take j++[(xq T)[j]]:=List.take_succ_eq_append_getElem hjl
    have hmk:(xq T)[j] ∈ xq T:=List.getElem_mem hjl
    generalize (xq T)[j] = k at hge htk hmk
    have hks:(bs k).size < 1000000000000:=hTk k (zE3.1 hmk)
    refine vo ?_
    refine zBE [SlS ks (xq T)] ?_
    refine vg (s:=ks) (i:=j) ?_
    refine vg (s:=ks) (i:=j) ?_
    refine zXd (s:=ks) hge ?_
    refine zXd (s:=ks) hge ?_
    refine zO c ?_
    refine zGI hks (by omega) fun sl hok hv=>?_
    refine zBC ?_
    refine zUK (cs:=zB5 (k,(zx n C (bs k),sl))) ?_ rfl
    refine zBf (cs:=zB5 (k,(zx n C (bs k),sl))) ?_
    refine zH fun t113=>?_
    refine qN (s:=rs) (esz:=5) (us:=zB5 (k,(zx n C (bs k),sl))) (jX rfl) (by intro v hv; simp only [zB5,jh,List.mem_cons,List.not_mem_nil,or_false] at hv; rcases hv with rfl | rfl | rfl | rfl | rfl <;> rfl) (by simp only; omega) fun rs2 _=>?_
    rw [show R.flatMap zB5++zB5 (k,(zx n C (bs k),sl)) = (R++[(k,(zx n C (bs k),sl))]).flatMap zB5 by simp only [List.flatMap_append,List.flatMap_cons,List.flatMap_nil,List.append_nil]]
    refine qB ?_
    refine zB (hk2 (rs2,(j:Int) + 1) (R++[(k,(zx n C (bs k),sl))],j + 1) ⟨by simp,hjl,?_,fun x hx=>?_⟩ (by simp only; omega))
    ·simp only
     rw [htk,List.map_append,← hR]
     simp only [qJ,List.map_append]; rfl
    ·rcases List.mem_append.1 hx with hx | hx
     ·exact hRi x hx
     ·rw [List.mem_singleton.1 hx]; exact ⟨hok,hv⟩
   ·have hjl:j = (xq T).length:=by simp only [decide_eq_false_iff_not] at hb2; omega
    rw [hjl,List.take_length] at hR
    refine qA (b:=t4) (l':=[.int .i64 0,os.val]) ?_
    refine qI (b:=t4) (l':=[.int .i64 0,os.val]) ?_
    have h1:=h P' os O rs R hPP (by rw [hr]) (by rw [hr]; exact hR) hO hRi
    rw [hr] at h1
    exact zB h1
theorem zcU {t:Addr} {z:zAG} {s:Sl} {Z:List zAG} {k:Array Value→K} (ht:∀ w,RdC w s 5 (Z.flatMap xL)→RdN w t (xL z).toArray) (hz:∀ w,Holds B Γ w→RdC w s 5 (Z.flatMap xL)) (hk:HG B Γ (k (jh z.2.1 z.2.2).toArray)):HG B Γ (LdN (t.add 1) 4 k):=fun w hw=>⟨_,rfl,fun i hi=>by
 have:=ht w (hz w hw) (1 + i) (by simp at hi ⊢; omega)
 have e:(t.add 1).add i = t.add (1 + i):=by simp [Addr.add,Nat.add_assoc]
 rw [e,this]
 simp [Nat.add_comm 1 i],hk w hw⟩
def zEl (M:zy) (W:WM):zy:=W.foldl (fun M x=>zB3 M (bs x.1) x.2) M
theorem zOc (M:zy) (W:WM):(zEl M W).length ≤ M.length + W.length:=by
 unfold zEl
 induction W generalizing M with
 | nil=>simp
 | cons x W ih=>
  have h1:=ih (zB3 M (bs x.1) x.2)
  have h2:=zHA M (bs x.1) x.2
  simp only [List.foldl_cons,List.length_cons]; omega
theorem zVg {rs:Sl} {R:WX} {Q:K} (hr:∀ w,Holds B Γ w→RdC w rs 5 (R.flatMap zB5)) (hR:RowsIn P R) (hL:M.length + R.length < 1000000) (h:HG B (uO sd n (zEl M (qJ R)) P::Γ) Q):HG B (uO sd n M P::Γ) (zAj.call (some ⟨sd,0,none⟩) rs Q):=fun w hw=>by
 refine zMs _ _ _ _ ?_
 have hsn:rs.n = R.length:=zA3 zHN (by omega) (hr w hw.tail)
 refine hg hw ?_
 clear hw w
 have hr6:∀ {X:zC} w,Holds B (X::Γ) w→RdC w rs 5 ((R.map fun x=>((bs x.1,x.2):zAG)).flatMap xL):=fun w hw=>by rw [← zXU]; exact hr w hw.tail
 unfold zAj
 refine xW (α:=Int) (ι:=Nat) (fun x i=>x = (i:Int)∧i ≤ R.length) (fun x i=>uO sd n (zEl M (qJ (R.take i))) P::Γ) (fun x i=>R.length - i) 0 ⟨rfl,Nat.zero_le _⟩ ?_
 rintro k' _ i ⟨rfl,hi⟩ hk'
 unfold zAj.b1
 refine zF (fun hb=>?_) fun hb=>?_
 ·have hil:i < R.length:=by simp only [decide_eq_true_eq] at hb; omega
  have hge:(R.map fun x=>((bs x.1,x.2):zAG))[i]? = some (bs R[i].1,R[i].2):=by rw [List.getElem?_map,List.getElem?_eq_getElem hil]; rfl
  have htk:R.take (i + 1) = R.take i++[R[i]]:=List.take_succ_eq_append_getElem hil
  obtain ⟨g1,g2⟩:=hR _ (List.getElem_mem hil)
  generalize R[i] = x at hge htk g1 g2
  refine vo ?_
  refine zFT xL uo (by omega) hr6 hge fun t1 ht1=>?_
  refine zFT xL uo (by omega) hr6 hge fun t2 ht2=>?_
  refine zQN (cs:=xL (bs x.1,x.2)) (x:=bs x.1) (fun w hw=>ht1 w (hr6 w hw)) rfl ?_
  refine zcU (z:=(bs x.1,x.2)) ht2 hr6 ?_
  have hml:=zOc M (qJ (R.take i))
  simp only [List.length_map,List.length_take] at hml
  refine zLy (r:=x.2.1) g1 g2 (by omega) ?_
  refine qB ?_
  have h2:=hk' ((i:Int) + 1) (i + 1) ⟨by simp,hil⟩ (by omega)
  rw [htk] at h2
  simp only [qJ,zEl,List.map_append,List.map_cons,List.map_nil,List.foldl_append,List.foldl_cons,List.foldl_nil] at h2 ⊢
  exact h2
 ·have hil:i = R.length:=by simp only [decide_eq_false_iff_not] at hb; omega
  rw [hil,List.take_length]
  exact h
end
end
section
open Go Go.Sep Go.RowKit
theorem zXe {α β:Type} (f:α→β) (L:List α):L.flatMap (fun x=>[f x]) = L.map f:=by induction L <;> simp_all
theorem zbQ {w:World} {cs:List Value} (hc:cs.length = 4) (y:Rdy w (.fld 0 1 (.int .i64) (.fld 1 1 .str (.fld 2 1 (.sl (.int .u8) 1) (.fld 3 1 (.int .i64) .nil)))) cs) :
  ∃ x:OpX,cs = opF x∧RdB w x.2 x.1.val∧-9223372036854775808 ≤ x.1.n∧x.1.n ≤ 9223372036854775807:=by
 match cs,hc with
 | [a,b,c,d],_=>
  obtain ⟨⟨x0,e0,_⟩,⟨x1,e1,_⟩,⟨s,e2,_,_,h1,h2⟩,⟨x3,e3,w3⟩,_⟩:=y
  cases e0; cases e1; cases e2; cases e3
  simp [Lit.wf,IntKind.min,IntKind.max,IntKind.signed,IntKind.bits] at w3
  obtain ⟨xs,_,h3⟩:=zWg h1 h2
  obtain ⟨l,rfl⟩:=zKy x1
  exact ⟨(⟨x0,l,xs,x3⟩,s),rfl,h3,by simp only; omega⟩
theorem zOd {w:World} {s:Sl} (h1:s.a = none→s.n = 0∧s.c = 0) (h2:∀ a i,s.a = some a→i < s.n→∃ cs',cs'.length = 1∧(∀ j,j < 1→w.cell? (a.add (i * 1 + j)) = cs'[j]?)∧Rdy w .str cs'):∃ L:List (List UInt8),RdC w s 1 (L.map qb):=by
 obtain ⟨L,_,hL,_⟩:=zJS (fun x:List UInt8=>[qb x]) (fun _=>True) (fun _=>rfl) h1 h2 fun cs hc hr=>by
  obtain ⟨b,rfl,_⟩:=hr
  obtain ⟨x,rfl⟩:=zKy b
  exact ⟨x,rfl,trivial⟩
 exact ⟨L,by rw [zXe] at hL; exact hL⟩
theorem zZc {w:World} {cs:Array Value} (hc:cs.size = 5) (y:Rdy w zIc (Value.agg cs).cells.toList):∃ t:TxX,cs = (txL t).toArray∧zCX w t∧∀ x ∈ t.ops,-9223372036854775808 ≤ x.1.n∧x.1.n ≤ 9223372036854775807:=by
 obtain ⟨l⟩:=cs
 match l,hc with
 | [a,b,c,d,e],_=>
  obtain ⟨⟨x0,e0,_⟩,⟨rs,e1,_,_,r1,r2⟩,⟨ws,e2,_,_,w1,w2⟩,⟨os,e3,_,_,o1,o2⟩,⟨x4,e4,_⟩,_⟩:=y
  cases e0; cases e1; cases e2; cases e3; cases e4
  obtain ⟨R,hR⟩:=zOd r1 r2
  obtain ⟨S,hS⟩:=zOd w1 w2
  obtain ⟨O,_,hO,hd⟩:=zJS opF (fun x=>RdB w x.2 x.1.val∧-9223372036854775808 ≤ x.1.n∧x.1.n ≤ 9223372036854775807) zBF o1 o2 fun cs hc hr=>zbQ hc hr
  exact ⟨⟨x0,R,S,O,x4,rs,ws,os⟩,rfl,⟨hR,hS,hO,fun x hx=>(hd x hx).1⟩,fun x hx=>(hd x hx).2⟩
theorem zRr {B w:World} {Γ:List zC} {t:TxX} (h:zCX B t) (hw:Holds B Γ w):zCX w t:=⟨h.1.old hw,h.2.1.old hw,h.2.2.1.old hw,fun x hx=>(h.2.2.2 x hx).old hw⟩
end
end Go.Proofs.YtdemfamgieonbaaGreat
namespace Go.Proofs.YtdemfamgieonbaaGreat
open Go Go.Sep Go.Sep.Bt
abbrev zHO (n:Nat) (M:zy) (ks:List (List UInt8)) (W:WM):Prop:=∀ p ∈ W,p.1 ∈ ks∧p.2.home = (zx n M (bs p.1)).home∧p.2.cnt = (zx n M (bs p.1)).cnt
theorem zHO.now {n:Nat} {M:zy} {ks:List (List UInt8)} {W:WM} (h:zHO n M ks W) (k:List UInt8):(qz n M W k).home = (zx n M (bs k)).home∧(qz n M W k).cnt = (zx n M (bs k)).cnt:=by
 unfold qz
 cases hm:y8 k W with
 | none=>exact ⟨rfl,rfl⟩
 | some r=>exact (h _ (zE2 hm)).2
theorem zUm {ν:Type} {W:List (List UInt8×ν)} {k:List UInt8} {v:ν} {p:List UInt8×ν} (h:p ∈ vS k v W):p = (k,v)∨p ∈ W:=by
 rcases zFs k W with ⟨_,h2,_,_⟩ | ⟨j,x,hj,h0,_,_,h2,_⟩
 ·rw [h2] at h
  rcases List.mem_append.1 h with h | h
  ·exact .inr h
  ·exact .inl (List.mem_singleton.1 h)
 ·rw [h2] at h
  rcases List.mem_or_eq_of_mem_set h with h | h
  ·exact .inr h
  ·exact .inl h
theorem zHO.set {n:Nat} {M:zy} {ks:List (List UInt8)} {W:WM} (h:zHO n M ks W) {k:List UInt8} (hk:k ∈ ks) (has:Bool) (val:List UInt8):zHO n M ks (setW n M W k has val):=fun p hp=>by
 rcases zUm hp with rfl | hp
 ·exact ⟨hk,(h.now k).1,(h.now k).2⟩
 ·exact h p hp
theorem zXf {n:Nat} {M:zy} {W:WM} {k:List UInt8} {d:Int}:(zFa n M W k d).2 = 0∨(zFa n M W k d).2 = 110∨(zFa n M W k d).2 = 111:=by
 unfold zFa
 repeat' split
 all_goals simp
theorem zVh {n:Nat} {M:zy} {W:WM} {O:OM} {o:OpM}:(stepW n M W O o).2.2 = 0∨(stepW n M W O o).2.2 = 110∨(stepW n M W O o).2.2 = 111:=by
 unfold stepW
 repeat' split
 all_goals first | exact zXf | simp
theorem zKb {t:TxX} {o:OpM} (h:vZ t o = true) (hk:o.kind = 2∨o.kind = 3∨o.kind = 6):o.key ∈ t.writes:=by
 by_cases hw:o.key ∈ t.writes
 ·exact hw
 ·exfalso
  unfold vZ at h
  split at h
  ·cases h
  split at h
  ·omega
  split at h
  ·cases h
  ·rename_i h3
   exact h3 ⟨hw,.inr hk⟩
theorem zXg {n:Nat} {M:zy} {ks:List (List UInt8)} {W:WM} {k:List UInt8} {d:Int} (h:zHO n M ks W) (hk:k ∈ ks):zHO n M ks (zFa n M W k d).1:=by
 unfold zFa
 by_cases h1:(qz n M W k).has = true∧(qz n M W k).val.length ≠ 8
 ·rw [if_pos h1]; exact h
 rw [if_neg h1]
 generalize (if (qz n M W k).has then numOf (qz n M W k).val else 0) = a
 cases zC4 a d
 ·rw [if_neg (by simp)]; exact h.set hk _ _
 ·rw [if_pos rfl]; exact h
theorem zOe {n:Nat} {M:zy} {t:TxX} {W:WM} {O:OM} {o:OpM} (h:zHO n M t.writes W) (ho:vZ t o = true):zHO n M t.writes (stepW n M W O o).1:=by
 unfold stepW
 split
 ·exact h
 split
 ·exact h
 split
 ·exact h.set (zKb ho (.inl (by assumption))) _ _
 split
 ·exact h.set (zKb ho (.inr (.inl (by assumption)))) _ _
 split
 ·exact h
 split
 ·exact h
 split
 ·exact zXg h (zKb ho (.inr (.inr (by assumption))))
 ·exact h
abbrev zRs (x:OpX):Bool:=decide (x.1.kind = 1∨x.1.kind = 7)
theorem zVi {n:Nat} {M:zy} {W:WM} {O:OM} {x:OpX}:(stepW n M W O x.1).2.1.length = O.length + if zRs x then 1 else 0:=by
 unfold stepW zRs
 by_cases h1:x.1.kind = 1
 ·simp [h1]
 by_cases h7:x.1.kind = 7
 ·simp [h7]
 rw [if_neg h1,if_neg h7]
 repeat' split
 all_goals first | (simp only [h1,h7,or_self,decide_false,Bool.false_eq_true,if_false]; done) | (simp [h1,h7] at *)
theorem zUn {n:Nat} {M:zy} {t:TxX}:∀ {xs:List OpX} {W:WM} {O:OM},(∀ x ∈ xs,vZ t x.1 = true)→zHO n M t.writes W →
  ((zCY n M xs W O).2.2 = 0∨(zCY n M xs W O).2.2 = 110∨(zCY n M xs W O).2.2 = 111)∧zHO n M t.writes (zCY n M xs W O).1∧((zCY n M xs W O).2.2 = 0→(zCY n M xs W O).2.1.length = O.length + (xs.filter zRs).length)
 | [],W,O,_,h=>⟨.inl rfl,h,fun _=>by simp [zRm]⟩
 | x::xs,W,O,hr,h=>by
  have hx:=hr x List.mem_cons_self
  rw [zE4]
  split
  ·rename_i h0
   exact ⟨zVh,zOe h hx,fun h1=>absurd h1 h0⟩
  ·have ih:=zUn (n:=n) (M:=M) (t:=t) (xs:=xs) (W:=(stepW n M W O x.1).1) (O:=(stepW n M W O x.1).2.1) (fun y hy=>hr y (List.mem_cons_of_mem _ hy)) (zOe h hx)
   refine ⟨ih.1,ih.2.1,fun h1=>?_⟩
   rw [ih.2.2 h1,zVi,List.filter_cons]
   split <;> simp <;> omega
abbrev zcV (n:Nat) (M:zy) (t:TxX) (p:List UInt8×Rec):Prop:=p.1 ∈ t.writes∧(if t.kind = 2 then p.2.home = t.to∧p.2.cnt = (zx n M (bs p.1)).cnt + 1 else p.2.home = (zx n M (bs p.1)).home∧p.2.cnt = (zx n M (bs p.1)).cnt)
theorem zED {n:Int} {t:TxX} (h:xR n t = true) (hk:t.kind = 2):t.ops = []∧∃ k,t.writes = [k]:=by
 unfold xR at h
 split at h
 ·cases h
 split at h
 ·cases h
 simp only [Bool.and_eq_true,decide_eq_true_eq] at h
 refine ⟨List.length_eq_zero_iff.1 h.2.1,?_⟩
 obtain ⟨k,hk⟩:=List.length_eq_one_iff.1 h.2.2.1
 exact ⟨k,hk⟩
theorem zH1 {n:Int} {t:TxX} (h:xR n t = true) (hk:t.kind ≠ 2):∀ x ∈ t.ops,vZ t x.1 = true:=by
 unfold xR at h
 split at h
 ·cases h
 split at h
 ·cases h
 split at h
 ·cases h
 ·exact List.all_eq_true.1 h
theorem zL0 {n:Nat} {M:zy} {t:TxX} {g:Int} (h:xR g t = true) :
  ((vT n M t).2.2 = 0∨(vT n M t).2.2 = 110∨(vT n M t).2.2 = 111)∧((vT n M t).2.2 = 0→(∀ p ∈ (vT n M t).1,zcV n M t p)∧(vT n M t).2.1.length = (t.ops.filter zRs).length):=by
 unfold vT
 split
 ·rename_i hk
  obtain ⟨ho,k,hw⟩:=zED h hk
  rw [hw,zEC,ho]
  split
  ·exact ⟨.inr (.inr rfl),fun h1=>by simp at h1⟩
  ·rw [zHz]
   refine ⟨.inl rfl,fun _=>⟨fun p hp=>?_,rfl⟩⟩
   have hn:qz n M [] k = zx n M (bs k):=rfl
   rcases zUm hp with rfl | hp
   ·refine ⟨by rw [hw]; simp,?_⟩
    rw [if_pos hk,hn]
    exact ⟨rfl,rfl⟩
   ·cases hp
 ·rename_i hk
  obtain ⟨h1,h2,h3⟩:=zUn (n:=n) (M:=M) (t:=t) (xs:=t.ops) (W:=[]) (O:=[]) (zH1 h hk) (by simp)
  refine ⟨h1,fun h0=>⟨fun p hp=>?_,by rw [h3 h0]; simp⟩⟩
  refine ⟨(h2 p hp).1,?_⟩
  rw [if_neg hk]
  exact (h2 p hp).2
theorem zRt (W:WM) (h:uS W):((zBu W).map Prod.fst).Pairwise (· < ·):=by
 rw [zM0]
 have h1:=zRe (W.map Prod.fst)
 have h2:(zC3 (W.map Prod.fst)).Nodup:=(List.mergeSort_perm _ _).nodup_iff.2 h
 refine (h1.and h2).imp fun {a b} h=>?_
 rcases List.le_iff_lt_or_eq.1 h.1 with h3 | h3
 ·exact h3
 ·exact absurd h3 h.2
section
variable {B:World} {Γ Δ:List zC} {st:Nat} {M:zy} {q:Bool→K}
end
end Go.Proofs.YtdemfamgieonbaaGreat
namespace Go.Proofs.YtdemfamgieonbaaGreat
open Go Go.Sep Go.RowKit
end Go.Proofs.YtdemfamgieonbaaGreat
namespace Go.Proofs.YtdemfamgieonbaaGreat
section
open Go Go.Sep Go.Sep.Bt
theorem zXh {n:Nat} {M:zy} {W:WM} {k k':TX} {r:Rec}:qz n M (vS k r W) k' = if k' = k then r else qz n M W k':=by
 unfold qz
 rw [zBh]
 split <;> rfl
theorem zRu {n:Nat} {M:zy}:∀ {xs ys:List OpX} {W:WM} {O:OM},xs.map Prod.fst = ys.map Prod.fst→zCY n M xs W O = zCY n M ys W O
 | [],[],_,_,_=>rfl
 | [],y::ys,_,_,h=>by cases h
 | x::xs,[],_,_,h=>by cases h
 | x::xs,y::ys,W,O,h=>by
  simp only [List.map_cons,List.cons.injEq] at h
  rw [zE4,zE4,h.1]
  split
  ·rfl
  ·exact zRu h.2
theorem zKc {n:Nat} {M:zy} {a b:TxX} (h:zEk a b):vT n M a = vT n M b:=by
 obtain ⟨h1,h2,h3,h4,h5⟩:=h
 unfold vT
 rw [h1,h2,h4,zRu h5]
section
variable {B:World} {Γ Δ:List zC} {st n:Nat} {M:zy}
theorem zQO {Q:Array Value→Sl→K} {t:TxX} (htx:zbN t) (ht:∀ w,Holds B Γ w→zCX w t)
  (h:∀ (e:Int) (os:Sl) (O:OX) (rows:Sl) (R:WX),e = (vT n M t).2.2→(e ≠ 0→O = []∧R = [])→(e = 0→O.map Prod.fst = (vT n M t).2.1∧qJ R = zBu (vT n M t).1)→(∀ p ∈ R,p.2.1.ok)→HG B (SlC yC 2 os (O.flatMap oF)::Sep.stars (O.map oB)::SlC yY 5 rows (R.flatMap zB5)::Sep.stars (R.map wB)::zk st n M::Γ) (Q #[.int .i64 e,os.val] rows)) :
  HG B (zk st n M::Γ) (vk.call (some ⟨st,0,none⟩) (txL t).toArray Q):=by
 refine zRn (t:=t) htx ht (fun hb=>?_) fun hz os O rows R hO hR hRok=>?_
 ·refine fun w hw=>?_
  have h1:Holds B (SlC yC 2 ⟨none,0,0⟩ (([]:OX).flatMap oF)::Sep.stars (([]:OX).map oB)::SlC yY 5 ⟨none,0,0⟩ (([]:WX).flatMap zB5)::Sep.stars (([]:WX).map wB)::_) w:=((hw.zCn.zAm yY 5).zCn).zAm yC 2
  exact h _ _ [] _ [] rfl (fun _=>⟨rfl,rfl⟩) (fun h0=>absurd h0 hb) (by simp) w h1
 ·exact h 0 os O rows R hz.symm (fun h0=>absurd rfl h0) (fun _=>⟨hO,hR⟩) hRok
theorem zVj {k:K} (h:(∀ x ∈ M,x.2.ok)→HG B (zk st n M::Γ) k):HG B (zk st n M::Γ) k:=zHt fun t X hM hok h1 h3=>by
 subst hM
 exact zBy hok h1 h3 (h hok)
end
end
section
open Go Go.Sep Go.Sep.Bt
structure Wf (n:Nat) (M:zy):Prop where
 home:∀ k,(zx n M k).cnt = 0→(zx n M k).home = (zBN k.toList n:Nat)
 val:∀ k,(zx n M k).has = false→(zx n M k).val = []
 cnt:∀ k,0 ≤ (zx n M k).cnt
theorem Wf.nil {n:Nat}:Wf n []:=⟨fun _ _=>rfl,fun _ _=>rfl,fun _=>by simp [zx,getM]⟩
theorem Wf.set {n:Nat} {M:zy} (h:Wf n M) {k:ByteArray} {r:Rec} (h1:r.cnt = 0→r.home = (zBN k.toList n:Nat)) (h2:r.has = false→r.val = []) (h3:0 ≤ r.cnt):Wf n (zB3 M k r):=by
 constructor
 ·intro k'
  rw [zES]
  split
  ·rename_i e; subst e
   split
   ·intro _; rfl
   ·exact h1
  ·exact h.home k'
 ·intro k'
  rw [zES]
  split
  ·split
   ·intro _; rfl
   ·exact h2
  ·exact h.val k'
 ·intro k'
  rw [zES]
  split
  ·split
   ·simp
   ·exact h3
  ·exact h.cnt k'
theorem Wf.put {n:Nat} {M:zy} (h:Wf n M) (k:ByteArray) (v:List UInt8):Wf n (zIy n M k v):=h.set (h.home k) (fun h=>by cases h) (h.cnt k)
theorem Wf.del {n:Nat} {M:zy} (h:Wf n M) (k:ByteArray):Wf n (zLP n M k):=h.set (h.home k) (fun _=>rfl) (h.cnt k)
theorem zM8 {n:Nat} {M:zy} {k:ByteArray} {r:Rec} (h:r.cnt ≠ 0):zBt M k r = zB3 M k r:=by
 unfold zB3
 rw [if_neg (fun hh=>h hh.2)]
theorem Wf.move {n:Nat} {M:zy} (h:Wf n M) (k:ByteArray) (t:Int):Wf n (je n M k t).1:=by
 unfold je
 split
 ·exact h
 split
 ·exact h
 ·have h0:=h.cnt k
  rw [zM8 (n:=n) (by simp only; omega)]
  exact h.set (fun hh=>by simp only at hh; omega) (h.val k) (by simp only; omega)
structure zFI (n:Nat) (M:zy) (W:WM) (C:zy) (T:List TX):Prop where
 get:∀ k:TX,zx n C (bs k) = qz n M W k
 keys:∀ k:TX,k ∈ T ↔ k ∈ W.map Prod.fst
 wf:Wf n C
theorem zS6 {a b:TX} (h:bs a = bs b):a = b:=by
 have:=congrArg ByteArray.toList h
 rwa [xY,xY] at this
theorem zXi {W:WM} {k x:TX} {r:Rec}:x ∈ (vS k r W).map Prod.fst ↔ x = k∨x ∈ W.map Prod.fst:=by
 rw [zE1]
 split
 ·rename_i h
  constructor
  ·exact .inr
  ·rintro (rfl | h2)
   ·exact h
   ·exact h2
 ·simp [or_comm]
theorem zFI.set {n:Nat} {M:zy} {W:WM} {C:zy} {T:List TX} (h:zFI n M W C T) {k:TX} {r:Rec} (h1:r.cnt = 0→r.home = (zBN k n:Nat)) (h2:r.has = false→r.val = []) (h3:0 ≤ r.cnt):zFI n M (vS k r W) (zB3 C (bs k) r) (T++[k]):=by
 refine ⟨fun k'=>?_,fun k'=>?_,h.wf.set (by rw [xY]; exact h1) h2 h3⟩
 ·rw [zES,zXh]
  by_cases hk:k' = k
  ·subst hk
   rw [if_pos rfl,if_pos rfl]
   split
   ·rename_i hh
    obtain ⟨has,val,home,cnt⟩:=r
    obtain ⟨rfl,rfl⟩:has = false∧cnt = 0:=hh
    have e1:=h1 rfl
    have e2:=h2 rfl
    simp only at e1 e2
    rw [xY,e1,e2]
   ·rfl
  ·rw [if_neg (fun e=>hk (zS6 e)),if_neg hk]
   exact h.get k'
 ·rw [zXi,List.mem_append,List.mem_singleton,h.keys k']
  exact or_comm
theorem zFI.rcd {n:Nat} {M:zy} {W:WM} {C:zy} {T:List TX} (h:zFI n M W C T) (k:TX):((qz n M W k).cnt = 0→(qz n M W k).home = (zBN k n:Nat))∧((qz n M W k).has = false→(qz n M W k).val = [])∧0 ≤ (qz n M W k).cnt:=by
 rw [← h.get k]
 refine ⟨fun hh=>?_,h.wf.val _,h.wf.cnt _⟩
 have:=h.wf.home (bs k) hh
 rwa [xY] at this
theorem zXj {r:Rec} (h:r.has = false→r.val = []):zJq r.val = (if r.has then numOf r.val else 0)∨(r.has = true∧r.val.length ≠ 8):=by
 unfold zJq
 by_cases h8:r.val.length = 8
 ·left
  rw [if_pos h8]
  have:r.has = true:=by
   cases hh:r.has
   ·rw [h hh] at h8; cases h8
   ·rfl
  rw [if_pos this]
 ·rw [if_neg h8]
  cases hh:r.has
  ·left; simp
  ·right; exact ⟨rfl,h8⟩
theorem zFI.step {n:Nat} {M:zy} {W:WM} {C:zy} {T:List TX} (h:zFI n M W C T) {O:OM} {o:OpM} (hk:1 ≤ o.kind∧o.kind ≤ 7) :
  (stepW n M W O o).2.2 = (jM n C o).2.2∧((jM n C o).2.2 = 0→(stepW n M W O o).2.1 = O++(jM n C o).2.1∧zFI n M (stepW n M W O o).1 (jM n C o).1 (if isW o then T++[o.key] else T)):=by
 have hg:=h.get o.key
 obtain ⟨r1,r2,r3⟩:=h.rcd o.key
 unfold stepW jM
 by_cases k1:o.kind = 1
 ·rw [if_pos k1,if_pos k1]
  refine ⟨rfl,fun _=>⟨by rw [hg],?_⟩⟩
  rw [show isW o = false by simp [isW,k1]]; exact h
 rw [if_neg k1,if_neg k1]
 by_cases k7:o.kind = 7
 ·rw [if_pos k7,if_pos k7]
  refine ⟨rfl,fun _=>⟨rfl,?_⟩⟩
  rw [show isW o = false by simp [isW,k7]]; exact h
 rw [if_neg k7,if_neg k7]
 by_cases k2:o.kind = 2
 ·rw [if_pos k2,if_pos k2]
  refine ⟨rfl,fun _=>⟨by simp,?_⟩⟩
  rw [show isW o = true by simp [isW,k2],if_pos rfl]
  unfold setW zIy
  rw [hg]
  exact h.set r1 (fun h=>by cases h) r3
 rw [if_neg k2,if_neg k2]
 by_cases k3:o.kind = 3
 ·rw [if_pos k3,if_pos k3]
  refine ⟨rfl,fun _=>⟨by simp,?_⟩⟩
  rw [show isW o = true by simp [isW,k3],if_pos rfl]
  unfold setW zLP
  rw [hg]
  exact h.set r1 (fun _=>rfl) r3
 rw [if_neg k3,if_neg k3]
 by_cases k4:o.kind = 4
 ·rw [if_pos k4,if_pos k4,hg]
  refine ⟨rfl,fun _=>⟨by simp,?_⟩⟩
  rw [show isW o = false by simp [isW,k4]]; exact h
 rw [if_neg k4,if_neg k4]
 by_cases k5:o.kind = 5
 ·rw [if_pos k5,if_pos k5,hg]
  refine ⟨rfl,fun _=>⟨by simp,?_⟩⟩
  rw [show isW o = false by simp [isW,k5]]; exact h
 rw [if_neg k5,if_neg k5]
 have k6:o.kind = 6:=by omega
 rw [if_pos k6]
 rw [show isW o = true by simp [isW,k6],if_pos rfl]
 unfold zFa zNu
 rw [hg]
 by_cases hb:(qz n M W o.key).has = true∧(qz n M W o.key).val.length ≠ 8
 ·rw [if_pos hb,if_pos hb]
  exact ⟨rfl,fun hh=>by simp at hh⟩
 rw [if_neg hb,if_neg hb]
 have hnum:=(zXj r2).resolve_right hb
 rw [hnum]
 by_cases hov:zC4 (if (qz n M W o.key).has then numOf (qz n M W o.key).val else 0) o.n = true
 ·rw [if_pos hov,if_pos hov]
  exact ⟨rfl,fun hh=>by simp at hh⟩
 rw [if_neg hov,if_neg hov]
 refine ⟨rfl,fun _=>⟨by simp,?_⟩⟩
 simp only
 unfold setW zIy
 rw [hg]
 exact h.set r1 (fun h=>by cases h) r3
theorem zM9 {n:Nat} {M:zy}:∀ {xs:List OpX} {W:WM} {C:zy} {T:List TX} {O:OM},(∀ x ∈ xs,1 ≤ x.1.kind∧x.1.kind ≤ 7)→zFI n M W C T →
  (zCY n M xs W O).2.2 = (zDx n xs C O T).2.2.2∧((zDx n xs C O T).2.2.2 = 0→(zCY n M xs W O).2.1 = (zDx n xs C O T).2.1∧zFI n M (zCY n M xs W O).1 (zDx n xs C O T).1 (zDx n xs C O T).2.2.1)
 | [],W,C,T,O,_,h=>⟨rfl,fun _=>⟨rfl,h⟩⟩
 | x::xs,W,C,T,O,hk,h=>by
  obtain ⟨h1,h2⟩:=h.step (O:=O) (hk x List.mem_cons_self)
  rw [zE4,opsC_cons,h1]
  by_cases hc:(jM n C x.1).2.2 ≠ 0
  ·rw [if_pos hc,if_pos hc]
   exact ⟨h1,fun hh=>absurd hh hc⟩
  ·rw [if_neg hc,if_neg hc]
   obtain ⟨h3,h4⟩:=h2 (by simpa using hc)
   rw [h3]
   exact zM9 (fun y hy=>hk y (List.mem_cons_of_mem _ hy)) h4
theorem zUo {t:TxX} {o:OpM} (h:vZ t o = true):1 ≤ o.kind∧o.kind ≤ 7:=by
 unfold vZ at h
 split at h
 ·cases h
 split at h
 ·omega
 ·omega
theorem zXk {M:zy} {k:ByteArray} {r' r:Rec}:zBt (zBt M k r') k r = zBt M k r:=by
 have hkk:¬ vN k k < 0:=fun h=>List.lt_irrefl _ (zC2.1 h)
 induction M with
 | nil=>simp [zBt,hkk]
 | cons x M ih=>
  by_cases h1:vN x.1 k < 0
  ·simp only [zBt,h1,if_true,ih]
  ·by_cases h2:x.1 = k
   ·simp [zBt,h2,hkk]
   ·simp [zBt,h1,h2,hkk]
structure zcW (n:Nat) (N:zy) (x:List UInt8×Rec):Prop where
 val:x.2.has = false→x.2.val = []
 rcd:(x.2.home = (zx n N (bs x.1)).home∧x.2.cnt = (zx n N (bs x.1)).cnt)∨(0 ≤ x.2.home∧x.2.home < n∧(zx n N (bs x.1)).cnt ≠ 18446744073709551615∧x.2.cnt = (zx n N (bs x.1)).cnt + 1∧0 ≤ (zx n N (bs x.1)).cnt)
theorem zVk {n:Nat} {N:zy} {x:List UInt8×Rec} (h:zcW n N x):zBj n N x = zB3 N (bs x.1) x.2:=by
 obtain ⟨k,has,val,home,cnt⟩:=x
 obtain ⟨hv,hc⟩:=h
 simp only at hv hc
 rcases hc with ⟨h1,h2⟩ | ⟨h1,h2,h3,h4,h5⟩
 ·have e0:zDL n N (k,⟨has,val,home,cnt⟩) = N:=by unfold zDL; rw [if_neg (by simp [h2])]
  unfold zBj
  rw [e0]
  cases has
  ·simp only [Bool.false_eq_true,if_false,zLP]
   rw [hv rfl,h1,h2]
  ·simp only [if_true,zIy]
   rw [h1,h2]
 ·have e0:zDL n N (k,⟨has,val,home,cnt⟩) = zBt N (bs k) { zx n N (bs k) with home:=home,cnt:=(zx n N (bs k)).cnt + 1 }:=by
   unfold zDL
   rw [if_pos (by simp only [ne_eq]; omega)]
   unfold je
   rw [if_neg (by simp only; omega),if_neg h3]
  have hg:zx n (zDL n N (k,⟨has,val,home,cnt⟩)) (bs k) = { zx n N (bs k) with home:=home,cnt:=(zx n N (bs k)).cnt + 1 }:=by rw [e0,zMf,if_pos rfl]
  unfold zBj
  have key:∀ r:Rec,r.cnt ≠ 0→zB3 (zDL n N (k,⟨has,val,home,cnt⟩)) (bs k) r = zB3 N (bs k) r:=fun r hr=>by
   rw [← zM8 (n:=n) hr,← zM8 (n:=n) hr,e0,zXk]
  cases has
  ·simp only [Bool.false_eq_true,if_false,zLP]
   rw [key _ (by rw [hg]; simp only; omega),hg,hv rfl,h4]
  ·simp only [if_true,zIy]
   rw [key _ (by rw [hg]; simp only; omega),hg,h4]
theorem zIz {n:Nat}:∀ {W:WM} {N:zy},uS W→(∀ x ∈ W,zcW n N x)→jZ n N W = zEl N W
 | [],_,_,_=>rfl
 | x::W,N,ho,h=>by
  have h1:=List.nodup_cons.1 (show (x.1::W.map Prod.fst).Nodup from ho)
  show jZ n (zBj n N x) W = zEl (zB3 N (bs x.1) x.2) W
  rw [zVk (h x List.mem_cons_self)]
  refine zIz h1.2 fun y hy=>?_
  obtain ⟨g1,g2⟩:=h y (List.mem_cons_of_mem _ hy)
  have hne:¬ bs y.1 = bs x.1:=fun e=>h1.1 (by rw [← zS6 e]; exact List.mem_map.2 ⟨y,hy,rfl⟩)
  refine ⟨g1,?_⟩
  rw [zES,if_neg hne]
  exact g2
abbrev zZd (n:Nat) (k:TX) (r:Rec):Prop:=(r.cnt = 0→r.home = (zBN k n:Nat))∧(r.has = false→r.val = [])∧0 ≤ r.cnt
theorem zQP {n:Nat}:∀ {W:WM} {N:zy},Wf n N→(∀ x ∈ W,zZd n x.1 x.2)→Wf n (zEl N W)
 | [],_,h,_=>h
 | x::W,N,h,hr=>by
  obtain ⟨h1,h2,h3⟩:=hr x List.mem_cons_self
  show Wf n (zEl (zB3 N (bs x.1) x.2) W)
  exact zQP (h.set (by rw [xY]; exact h1) h2 h3) fun y hy=>hr y (List.mem_cons_of_mem _ hy)
theorem zXl {n:Nat} {M:zy} {W:WM} {C:zy} {T:List TX} (h:zFI n M W C T) (ho:uS W):zBu W = (xq T).map fun k=>(k,zx n C (bs k)):=by
 have h1:(zBu W).map Prod.fst = xq T:=zRf (zRt W ho) fun x=>by rw [h.keys]; exact ((zAU W).map Prod.fst).mem_iff
 have h2:∀ p ∈ zBu W,p = (p.1,zx n C (bs p.1)):=fun p hp=>by
  have hm:(p.1,p.2) ∈ W:=(zAU W).subset hp
  rw [h.get]; unfold qz; rw [zJp ho hm]; rfl
 rw [← h1,List.map_map]
 refine Eq.trans (List.map_id (zBu W)).symm ?_
 exact List.map_congr_left fun p hp=>h2 p hp
theorem zFI.start {n:Nat} {M:zy} (h:Wf n M):zFI n M [] M []:=⟨fun _=>rfl,fun k=>by simp,h⟩
structure zcX (M:zy) (t:TxX):Prop where
 code:(vT 3 M t).2.2 = (zDm 3 M t).2.1
 bad:(zDm 3 M t).2.1 ≠ 0→(zDm 3 M t).1 = []∧(zDm 3 M t).2.2 = []
 outs:(zDm 3 M t).2.1 = 0→(vT 3 M t).2.1 = (zDm 3 M t).1
 rows:(zDm 3 M t).2.1 = 0→zBu (vT 3 M t).1 = (zDm 3 M t).2.2
 app:(zDm 3 M t).2.1 = 0→jZ 3 M (zDm 3 M t).2.2 = zEl M (zDm 3 M t).2.2
 wf:Wf 3 (zEl M (zDm 3 M t).2.2)
theorem zVl {W:WM} (h:uS W):uS (zBu W):=((zAU W).map Prod.fst).nodup_iff.2 h
theorem zXm {M:zy} {t:TxX} (h:xR 3 t = true) (hw:Wf 3 M):zcX M t:=by
 have ho:=zM1 (n:=3) (M:=M) (t:=t)
 obtain ⟨_,hgood⟩:=zL0 (n:=3) (M:=M) h
 by_cases hk:t.kind = 2
 ·obtain ⟨ht1,k,ht2⟩:=zED h hk
  have hto:0 ≤ t.to∧t.to < 3:=by
   unfold xR at h
   split at h
   ·cases h
   split at h
   ·cases h
   simp only [hk,if_true,Bool.and_eq_true,decide_eq_true_eq] at h
   omega
  have hh:t.writes.headD [] = k:=by rw [ht2]; rfl
  have hn:qz 3 M [] k = zx 3 M (bs k):=rfl
  have hW:vT 3 M t = if (zx 3 M (bs k)).cnt = 18446744073709551615 then ([],[],111) else ([(k,{ zx 3 M (bs k) with home:=t.to,cnt:=(zx 3 M (bs k)).cnt + 1 })],[],0):=by
   unfold vT
   rw [if_pos hk,ht2,zEC,hn]
   split
   ·rfl
   ·rw [zHz]; rfl
  have hC:zDm 3 M t = if (zx 3 M (bs k)).cnt = 18446744073709551615 then ([],111,[]) else ([],0,[(k,{ zx 3 M (bs k) with home:=t.to,cnt:=(zx 3 M (bs k)).cnt + 1 })]):=by
   unfold zDm
   rw [if_pos hk,hh]
   unfold je
   rw [if_neg (show ¬ (t.to < 0∨((3:Nat):Int) ≤ t.to) by omega)]
   by_cases hc:(zx 3 M (bs k)).cnt = 18446744073709551615
   ·rw [if_pos hc,if_pos hc]; rfl
   ·rw [if_neg hc,if_neg hc]
    simp only [ne_eq,not_true_eq_false,if_false]
    rw [zMf,if_pos rfl]
  by_cases hc:(zx 3 M (bs k)).cnt = 18446744073709551615
  ·rw [if_pos hc] at hW hC
   constructor
   ·rw [hW,hC]
   ·intro _; rw [hC]; exact ⟨rfl,rfl⟩
   ·intro h0; rw [hC] at h0; cases h0
   ·intro h0; rw [hC] at h0; cases h0
   ·intro h0; rw [hC] at h0; cases h0
   ·rw [hC]; exact hw
  ·rw [if_neg hc] at hW hC
   have h0:=hw.cnt (bs k)
   constructor
   ·rw [hW,hC]
   ·intro h9; rw [hC] at h9; exact absurd rfl h9
   ·intro _; rw [hW,hC]
   ·intro _; rw [hW,hC]; exact List.mergeSort_singleton _
   ·intro _
    rw [hC]
    refine zIz (by simp [uS]) fun x hx=>?_
    rw [List.mem_singleton.1 hx]
    exact ⟨hw.val (bs k),.inr ⟨hto.1,hto.2,hc,rfl,h0⟩⟩
   ·rw [hC]
    refine zQP hw fun x hx=>?_
    rw [List.mem_singleton.1 hx]
    exact ⟨fun h=>by simp only at h; omega,hw.val (bs k),by simp only; omega⟩
 ·have hW:vT 3 M t = zCY 3 M t.ops [] []:=by unfold vT; rw [if_neg hk]
  have hops:=zH1 h hk
  obtain ⟨h1,h2⟩:=zM9 (n:=3) (O:=[]) (fun x hx=>zUo (hops x hx)) (zFI.start hw)
  have hC:zDm 3 M t = if (zDx 3 t.ops M [] []).2.2.2 ≠ 0 then ([],(zDx 3 t.ops M [] []).2.2.2,[]) else ((zDx 3 t.ops M [] []).2.1,0,(xq (zDx 3 t.ops M [] []).2.2.1).map fun k=>(k,zx 3 (zDx 3 t.ops M [] []).1 (bs k))):=by unfold zDm; rw [if_neg hk]
  by_cases hc:(zDx 3 t.ops M [] []).2.2.2 ≠ 0
  ·rw [if_pos hc] at hC
   constructor
   ·rw [hW,hC,h1]
   ·intro _; rw [hC]; exact ⟨rfl,rfl⟩
   ·intro h0; rw [hC] at h0; exact absurd h0 hc
   ·intro h0; rw [hC] at h0; exact absurd h0 hc
   ·intro h0; rw [hC] at h0; exact absurd h0 hc
   ·rw [hC]; exact hw
  ·rw [if_neg hc] at hC
   have hz:(zDx 3 t.ops M [] []).2.2.2 = 0:=by simpa using hc
   obtain ⟨h3,h4⟩:=h2 hz
   have hgood:=(hgood (by rw [hW,h1,hz])).1
   rw [hW] at ho hgood
   have hsort:=zXl h4 ho
   have hmem:∀ x ∈ zBu (zCY 3 M t.ops [] []).1,x ∈ (zCY 3 M t.ops [] []).1:=fun x hx=>(zAU _).subset hx
   have hnow:∀ x ∈ zBu (zCY 3 M t.ops [] []).1,x.2 = qz 3 M (zCY 3 M t.ops [] []).1 x.1:=fun x hx=>by
    have hm:(x.1,x.2) ∈ (zCY 3 M t.ops [] []).1:=hmem x hx
    unfold qz; rw [zJp ho hm]; rfl
   have hrec:∀ x ∈ zBu (zCY 3 M t.ops [] []).1,zZd 3 x.1 x.2:=fun x hx=>by
    rw [hnow x hx]
    exact h4.rcd x.1
   have hrow:(zDm 3 M t).2.2 = zBu (zCY 3 M t.ops [] []).1:=by rw [hC,hsort]
   constructor
   ·rw [hW,hC,h1,hz]
   ·intro h9; rw [hC] at h9; exact absurd rfl h9
   ·intro _; rw [hW,hC,h3]
   ·intro _; rw [hW,hrow]
   ·intro _
    rw [hrow]
    refine zIz (zVl ho) fun x hx=>?_
    have hg:=(hgood x (hmem x hx)).2
    rw [if_neg hk] at hg
    exact ⟨(hrec x hx).2.1,.inl hg⟩
   ·rw [hrow]
    exact zQP hw hrec
end
end Go.Proofs.YtdemfamgieonbaaGreat
namespace Go.Proofs.YtdemfamgieonbaaGreat
open Go Go.Sep Go.Sep.Bt
def zC5 (cnt mc home mh:Int):Int:=if cnt < mc then 1 else if mc = cnt∧mh = home then 0 else 2
section
variable {B:World} {Γ Δ:List zC}
theorem zS7 {hs:Bool} {vl:Sl} {home cnt:Int} {key:ByteArray} {mh mc:Int} {q:Int→K} (h:HG B Γ (q (zC5 cnt mc home mh))) :
  HG B Γ (jW.call #[.bool hs,vl.val,.int .i64 home,.int .u64 cnt] #[.string key,.int .i64 mh,.int .u64 mc] q):=fun w hw=>by
 refine zNn _ _ _ _ ?_
 refine hg hw ?_
 clear hw w
 unfold jW
 refine zH fun r=>?_
 refine zH fun m=>?_
 refine zB (Δ:=blk m (.cells [.string key,.int .i64 mh,.int .u64 mc].toArray qC (0,0))::blk r (.cells [.bool hs,vl.val,.int .i64 home,.int .u64 cnt].toArray yc (0,0))::Γ) ?_
 refine yB (b:=m) (x:=mc) ?_
 refine yB (b:=r) (x:=cnt) ?_
 refine zF (fun hb=>?_) fun hb=>?_
 ·have e:zC5 cnt mc home mh = 1:=by unfold zC5; rw [if_pos (by simpa using hb)]
  rw [e] at h; exact zB h
 have hb':¬ cnt < mc:=by simpa using hb
 refine yB (b:=m) (x:=mc) ?_
 refine yB (b:=r) (x:=cnt) ?_
 refine zF (fun hc=>?_) fun hc=>?_
 ·have hc':mc = cnt:=by simpa using hc
  refine yB (b:=m) (x:=mh) ?_
  refine yB (b:=r) (x:=home) ?_
  unfold jW.s1
  refine zF (fun hd=>?_) fun hd=>?_
  ·have e:zC5 cnt mc home mh = 0:=by unfold zC5; rw [if_neg hb',if_pos ⟨hc',by simpa using hd⟩]
   rw [e] at h; exact zB h
  ·have e:zC5 cnt mc home mh = 2:=by unfold zC5; rw [if_neg hb',if_neg fun x=>by simp [x.2] at hd]
   rw [e] at h; exact zB h
 ·unfold jW.s1
  refine s_f ?_
  have e:zC5 cnt mc home mh = 2:=by unfold zC5; rw [if_neg hb',if_neg fun x=>by simp [x.1] at hc]
  rw [e] at h; exact zB h
end
end Go.Proofs.YtdemfamgieonbaaGreat
namespace Go.Proofs.YtdemfamgieonbaaGreat
open Go Go.Sep Go.RowKit
end Go.Proofs.YtdemfamgieonbaaGreat
namespace Go.Proofs.YtdemfamgieonbaaGreat
section
open Go Go.Sep
structure y7 where
 node:Int
 epoch:Int
 seq:Int
 tr:Int
deriving DecidableEq
abbrev qO (t:y7):List Value:=[.int .i64 t.node,.int .u64 t.epoch,.int .u64 t.seq,.int .i64 t.tr]
theorem zRv (c:y7):(qO c).length = 4:=rfl
theorem zNA {a b:y7}:qO a = qO b ↔ a = b:=by
 cases a; cases b; simp [qO]
abbrev zbR:List Ck:=[.int .i64,.int .u64,.int .u64,.int .i64]
end
section
open Go Go.Sep
theorem zUp:zFt Tryz.prog zCI .string jc:=⟨ug,by kernel_rfl,by kernel_rfl⟩
section
variable {B w:World} {Γ:List zC} {β:Type} {cV:β→Value}
end
end
section
open Go Go.Sep Go.Sep.Bt
structure zET where
 key:List UInt8
 home:Int
 cnt:Int
deriving DecidableEq
abbrev zRw (m:zET):List Value:=[qb m.key,.int .i64 m.home,.int .u64 m.cnt]
abbrev Claim:=y7×zET
abbrev clF (c:Claim):List Value:=[.int .i64 c.1.node,.int .u64 c.1.epoch,.int .u64 c.1.seq,.int .i64 c.1.tr,qb c.2.key,.int .i64 c.2.home,.int .u64 c.2.cnt]
theorem zFU (c:Claim):(clF c).length = 7:=rfl
theorem zOf (c:zET):(zRw c).length = 3:=rfl
theorem zS8 (L:List Claim):∀ v ∈ L.flatMap clF,yu v = true:=fun v hv=>by
 obtain ⟨x,_,hx⟩:=List.mem_flatMap.1 hv
 simp only [clF,List.mem_cons,List.not_mem_nil,or_false] at hx
 rcases hx with rfl | rfl | rfl | rfl | rfl | rfl | rfl <;> rfl
theorem zRx:Tryz.prog.underlying zDF = some (.map vF zBJ):=by kernel_rfl
theorem zCQ:zLF Tryz.prog vF qO:=⟨by kernel_rfl,⟨zbR,by kernel_rfl,fun _=>rfl⟩,fun a b h=>zNA.1 h,fun a=>by simp [Instr.sameBits]⟩
abbrev GM:=List (List UInt8×(List Claim×List Claim))
abbrev DM:=y7→Bool
abbrev zJr {ν:Type} (W:List (List UInt8×ν)):Prop:=(W.map Prod.fst).Nodup
def zAz (k:List UInt8) (M:GM):GM:=if (y8 k M).isNone then M++[(k,([],[]))] else M
def atM (k:List UInt8) (M:GM):List Claim×List Claim:=(y8 k M).getD ([],[])
def zHP (tag:y7) (L:List Claim):Bool:=L.any fun c=>decide (c.1 = tag)
def zEh (dm:DM) (tag:y7) (b:Bool):DM:=fun t=>if t = tag then b else dm t
def q8 (n:Nat) (S:zy) (m:zET):Int:=zC5 (zx n S (bs m.key)).cnt m.cnt (zx n S (bs m.key)).home m.home
def zBP (n:Nat) (S:zy) (tag:y7) (x:GM×DM) (m:zET):GM×DM :=
 if zHP tag (atM m.key x.1).1 || zHP tag (atM m.key x.1).2 then (zAz m.key x.1,x.2)
 else if q8 n S m = 0 then (vS m.key ((atM m.key x.1).1++[(tag,m)],(atM m.key x.1).2) (zAz m.key x.1),x.2)
 else if q8 n S m = 1 then (vS m.key ((atM m.key x.1).1,(atM m.key x.1).2++[(tag,m)]) (zAz m.key x.1),x.2)
 else (zAz m.key x.1,zEh x.2 tag true)
def zAh (n:Nat) (S:zy) (tag:y7) (ms:List zET) (x:GM×DM):GM×DM:=ms.foldl (zBP n S tag) x
def noT (tag:y7) (L:List Claim):List Claim:=L.filter fun c=>!decide (c.1 = tag)
def vW (tag:y7) (x:GM×DM):GM×DM:=(x.1.map fun p=>(p.1,(noT tag p.2.1,noT tag p.2.2)),zEh x.2 tag false)
def gsz (M:GM) (N:Nat):Prop:=M.length ≤ N∧∀ p ∈ M,p.2.1.length ≤ N∧p.2.2.length ≤ N
theorem zbS {M:GM} {a b:Nat} (h:gsz M a) (hab:a ≤ b):gsz M b:=⟨by have:=h.1; omega,fun p hp=>by have:=h.2 p hp; omega⟩
theorem zS9 {M:GM} {k:List UInt8} {N:Nat} (h:gsz M N):(atM k M).1.length ≤ N∧(atM k M).2.length ≤ N:=by
 unfold atM
 cases hm:y8 k M with
 | none=>simp
 | some v=>exact h.2 _ (zE2 hm)
theorem zXn {M:GM} {k:List UInt8} {N:Nat} (h:gsz M N):gsz (zAz k M) (N + 1):=by
 unfold zAz
 split
 ·refine ⟨by simp; exact h.1,fun p hp=>?_⟩
  rcases List.mem_append.1 hp with hp | hp
  ·have:=h.2 p hp; omega
  ·rw [List.mem_singleton.1 hp]; simp
 ·exact zbS h (by omega)
theorem zH2 {M:GM} {k:List UInt8} {v:List Claim×List Claim} (h:(y8 k M).isSome = true):(vS k v M).length = M.length:=by
 rcases zFs k M with ⟨h1,_⟩ | ⟨j,x,hj,_,_,_,h2,_⟩
 ·rw [h1] at h; cases h
 ·rw [h2]; simp
theorem zE5 {M:GM} {k:List UInt8}:(y8 k (zAz k M)).isSome = true:=by
 unfold zAz
 split
 ·rename_i h
  have h':y8 k M = none:=by simpa using h
  have:=zFv (v:=([],[])) h'
  rw [← this,zBh]; simp
 ·rename_i h; simpa [Option.isNone_iff_eq_none,Option.isSome_iff_ne_none] using h
theorem zNB {ν:Type} {M:List (List UInt8×ν)} {k:List UInt8} {v:ν} {p:List UInt8×ν} (h:p ∈ vS k v M):p = (k,v)∨p ∈ M:=by
 rcases zFs k M with ⟨_,h2,_⟩ | ⟨j,x,hj,_,_,_,h2,_⟩
 ·rw [h2] at h
  rcases List.mem_append.1 h with h | h
  ·exact .inr h
  ·exact .inl (List.mem_singleton.1 h)
 ·rw [h2] at h
  rcases List.mem_or_eq_of_mem_set h with h | h
  ·exact .inr h
  ·exact .inl h
theorem zRy {M:GM} {k:List UInt8} {v:List Claim×List Claim} {N:Nat} (h:gsz M N) (hs:(y8 k M).isSome = true) (h1:v.1.length ≤ N) (h2:v.2.length ≤ N):gsz (vS k v M) N :=
 ⟨by rw [zH2 hs]; exact h.1,fun p hp=>by
  rcases zNB hp with rfl | hp
  ·exact ⟨h1,h2⟩
  ·exact h.2 p hp⟩
theorem zVm {n:Nat} {S:zy} {tag:y7} {x:GM×DM} {m:zET} {N:Nat} (h:gsz x.1 N):gsz (zBP n S tag x m).1 (N + 1):=by
 have h1:=zXn (k:=m.key) h
 have h2:=zS9 (k:=m.key) h
 unfold zBP
 split
 ·exact h1
 ·split
  ·exact zRy h1 zE5 (by simp; omega) (by simp only; omega)
  ·split
   ·exact zRy h1 zE5 (by simp only; omega) (by simp; omega)
   ·exact h1
theorem zVn {ν:Type} {M:List (List UInt8×ν)} {k:List UInt8} {v:ν} (h:zJr M) (hk:y8 k M = none):zJr (M++[(k,v)]):=by
 have e:=zFv (v:=v) hk
 have h2:=zE1 M k v
 unfold zJr
 rw [← e,h2]
 split
 ·exact h
 ·rename_i hk
  refine List.nodup_append.2 ⟨h,by simp,fun a ha b hb=>?_⟩
  rw [List.mem_singleton.1 hb]
  exact fun e=>hk (e ▸ ha)
theorem zTA {ν:Type} {M:List (List UInt8×ν)} {k:List UInt8} {v:ν} (h:y8 k M = some v):∃ A C,M = A++(k,v)::C:=by
 induction M with
 | nil=>cases h
 | cons p M ih=>
  unfold y8 at h
  split at h
  ·rename_i e; injection h with h; exact ⟨[],M,by rw [e,← h]; rfl⟩
  ·obtain ⟨A,C,rfl⟩:=ih h; exact ⟨p::A,C,rfl⟩
theorem zNC {ν:Type} {A C:List (List UInt8×ν)} {k:List UInt8} {v:ν} (h:zJr (A++(k,v)::C)):(∀ p ∈ A,p.1 ≠ k)∧∀ p ∈ C,p.1 ≠ k:=by
 unfold zJr at h
 rw [List.map_append,List.map_cons] at h
 obtain ⟨_,h2,h3⟩:=List.nodup_append.1 h
 refine ⟨fun p hp=>h3 _ (List.mem_map.2 ⟨p,hp,rfl⟩) _ List.mem_cons_self,fun p hp e=>(List.nodup_cons.1 h2).1 (e ▸ List.mem_map.2 ⟨p,hp,rfl⟩)⟩
theorem zXo {ν:Type} {A C:List (List UInt8×ν)} {k:List UInt8} {v:ν} (h:∀ p ∈ A,p.1 ≠ k):y8 k (A++(k,v)::C) = some v:=by
 induction A with
 | nil=>simp [y8]
 | cons p A ih=>
  rw [List.cons_append,y8,if_neg (fun e=>h p List.mem_cons_self e.symm)]
  exact ih fun q hq=>h q (List.mem_cons_of_mem _ hq)
theorem zXp {ν:Type} {A C:List (List UInt8×ν)} {k:List UInt8} {v v':ν} (h:∀ p ∈ A,p.1 ≠ k):vS k v' (A++(k,v)::C) = A++(k,v')::C:=by
 induction A with
 | nil=>simp [vS]
 | cons p A ih=>
  rw [List.cons_append,vS,if_neg (fun e=>h p List.mem_cons_self e.symm),ih fun q hq=>h q (List.mem_cons_of_mem _ hq)]
  rfl
structure zDO where
 b:Nat
 ls:Sl
 ps:Sl
 line:List Claim
 park:List Claim
abbrev gV (g:zDO):Value:=.pointer (some ⟨g.b,0,none⟩)
abbrev gL (g:zDO) (Γ:List zC):List zC:=blk g.b (.cells [g.ls.val,g.ps.val].toArray zAi (0,0))::SlC qw 7 g.ls (g.line.flatMap clF)::SlC qw 7 g.ps (g.park.flatMap clF)::Γ
abbrev gB (x:List UInt8×zDO):zC:=Sep.stars (gL x.2 [])
abbrev GX:=List (List UInt8×zDO)
abbrev zQQ (X:GX):GM:=X.map fun p=>(p.1,(p.2.line,p.2.park))
abbrev zF2 (l gm db:Nat) (X Y:GX) (D:List (y7×Int)) (Γ:List zC):List zC :=
 blk l (.cells [.map (some gm),.map (some db)].toArray jU (0,0))::xE qb gV gm X::Sep.stars (Y.map gB)::xE (kyS qO) (Value.int .i64) db D::Γ
structure LF (M:GM) (dm:DM) (X:GX) (D:List (y7×Int)):Prop where
 mod:zQQ X = M
 once:zJr X
 doom:∀ t,dm t = decide (0 < (y8 t D).getD 0)
 nd:(D.map Prod.fst).Nodup
def vX (l:Nat) (M:GM) (dm:DM):zC:=ex fun gm=>ex fun db=>ex fun X:GX=>ex fun D=>Sep.stars (pur (LF M dm X D)::zF2 l gm db X X D [])
section
variable {B:World} {Γ Δ:List zC} {k:K} {l gm db st n:Nat} {M:GM} {dm:DM} {X:GX} {D:List (y7×Int)} {S:zy} {tag:y7}
instance (priority:=high) zbp:Sep.Own l (vX l M dm::Γ) (vX l M dm) Γ:=⟨.refl _⟩
theorem zL1 (h:∀ gm db X D,LF M dm X D→HG B (zF2 l gm db X X D Γ) k):HG B (vX l M dm::Γ) k :=
 zDI fun gm=>zDI fun db=>zDI fun X=>zDI fun D=>zBr <| zGd fun h1=>h gm db X D h1
theorem zE6 (h1:LF M dm X D) (h:HG B (vX l M dm::Γ) k):HG B (zF2 l gm db X X D Γ) k:=fun w hw=>by
 refine h w ?_
 have h3:Holds B (Sep.stars (pur (LF M dm X D)::zF2 l gm db X X D [])::Γ) w:=Holds.flat.2 (Holds.pur.2 ⟨h1,hw⟩)
 exact h3.imp fun g hg=>⟨gm,db,X,D,hg⟩
theorem zOg {α β:Type} [DecidableEq α] {enc:α→Value} {cV:β→Value} {b:Nat} {m m':List (α×β)} (h:(m.map fun p=>(enc p.1,cV p.2)) = m'.map fun p=>(enc p.1,cV p.2)):∀ g,xE enc cV b m g→xE enc cV b m' g:=fun g hg=>by
 obtain ⟨es,c,⟨h1,h2⟩,h3⟩:=hg
 exact ⟨es,c,⟨by unfold zFG at h1 ⊢; rw [h1,h],h2⟩,h3⟩
theorem zbT {A C:GX} {key:List UInt8} {g:zDO} (hX:X = A++(key,g)::C) (h:HG B (gL g (zF2 l gm db X (A++C) D Γ)) k):HG B (zF2 l gm db X X D Γ) k:=by
 refine ze (Sep.stars (X.map gB)) ?_
 rw [show Sep.stars (X.map gB) = Sep.stars ((A++(key,g)::C).map gB) by rw [hX]]
 refine zFk ?_
 refine zBr ?_
 show HG B (gL g (_::_::_::_::Γ)) k
 exact zB h
theorem zRz {A C:GX} {key:List UInt8} {g g':zDO} {dm':DM} {D':List (y7×Int)} (hX:X = A++(key,g)::C) (hb:g'.b = g.b) (hf:LF M dm X D) (hd:(∀ t,dm' t = decide (0 < (y8 t D').getD 0))∧(D'.map Prod.fst).Nodup)
  (h:HG B (vX l (vS key (g'.line,g'.park) M) dm'::Γ) k):HG B (gL g' (zF2 l gm db X (A++C) D' Γ)) k:=by
 have ho:=hf.once
 rw [hX] at ho
 have hA:=(zNC ho).1
 refine zEQ (Δ:=gL g' []) ?_
 refine ze (Sep.stars ((A++C).map gB)) ?_
 refine ze (Sep.stars (gL g' [])) ?_
 refine zAb (F:=gB) (x:=(key,g')) ?_
 refine ze (xE qb gV gm X) ?_
 refine jy (zOg (m':=A++(key,g')::C) ?_) ?_
 ·rw [hX]; simp [gV,hb]
 refine ze (xE (kyS qO) (Value.int .i64) db D') ?_
 refine ze (Sep.stars ((A++(key,g')::C).map gB)) ?_
 refine ze (xE qb gV gm (A++(key,g')::C)) ?_
 refine zO l ?_
 refine zE6 ⟨?_,?_,hd.1,hd.2⟩ h
 ·rw [← hf.mod,hX]
  simp only [zQQ,List.map_append,List.map_cons]
  rw [zXp]
  intro p hp
  obtain ⟨q,hq,rfl⟩:=List.mem_map.1 hp
  exact hA q hq
 ·unfold zJr at ho ⊢
  simpa using ho
theorem zai {A C:GX} {key:List UInt8} {g:zDO} (hX:X = A++(key,g)::C) (hf:LF M dm X D):atM key M = (g.line,g.park):=by
 have ho:=hf.once
 rw [hX] at ho
 unfold atM
 rw [← hf.mod,hX]
 simp only [zQQ,List.map_append,List.map_cons]
 rw [zXo]; rfl
 intro p hp
 obtain ⟨q,hq,rfl⟩:=List.mem_map.1 hp
 exact (zNC ho).1 q hq
abbrev g0 (gb:Nat):zDO:=⟨gb,⟨none,0,0⟩,⟨none,0,0⟩,[],[]⟩
theorem zVo:zBl Tryz.prog jc (.pointer none):=zG0
theorem zUq {key:List UInt8} {Q:Option Addr→K} (h:∀ gm db X D A g C,LF (zAz key M) dm X D→X = A++(key,g)::C→HG B (gL g (zF2 l gm db X (A++C) D Γ)) (Q (some ⟨g.b,0,none⟩))) :
  HG B (vX l M dm::Γ) (xP.call (some ⟨l,0,none⟩) (bs key) Q):=by
 refine fun w hw=>zIM _ _ _ _ ?_
 refine hg hw ?_
 clear hw w
 refine zL1 fun gm db X D hf=>?_
 unfold xP
 repeat refine zT ?_
 have hl:∀ {Γ:List zC} {q:Option Addr→K} {X:GX} {Δ:List zC} [p:Sep.Own gm Γ (xE qb gV gm X) Δ],HG B Γ (q ((y8 key X).map fun g=>⟨g.b,0,none⟩))→HG B Γ (Rd Tryz.prog (Instr.lookup zCI (.map (some gm)) (qb key) false) Value.pointer q):=fun {Γ q X Δ p} h w hw=>by
  obtain ⟨es,c,⟨hr,hst⟩,h1⟩:=xE.opens (hw.perm p.perm)
  have:=zVS (a:=key) zUp zFy zVo h1.block hr false
  refine ⟨(y8 key X).map fun g=>⟨g.b,0,none⟩,?_,h w hw⟩
  rw [this]
  cases y8 key X <;> rfl
 have fin:∀ {Γ:List zC} (M2:GM) (X:GX) (g:zDO),y8 key X = some g→LF M2 dm X D→(∀ A C,X = A++(key,g)::C→HG B (gL g (zF2 l gm db X (A++C) D Γ)) (Q (some ⟨g.b,0,none⟩)))→HG B (zF2 l gm db X X D Γ) (xP.s1 Q (some ⟨l,0,none⟩) (bs key)):=fun M2 X g hg hf hk=>by
  unfold xP.s1
  repeat refine zT ?_
  refine hl (X:=X) ?_
  rw [hg]
  obtain ⟨A,C,hX⟩:=zTA hg
  exact zbT hX (hk A C hX)
 refine hl (X:=X) ?_
 have hmm:y8 key M = (y8 key X).map fun g=>(g.line,g.park):=by rw [← hf.mod]; exact zFu (fun g:zDO=>(g.line,g.park)) key X
 cases hm:y8 key X with
 | none=>
  rw [hm] at hmm
  have hgm:zAz key M = M++[(key,([],[]))]:=by unfold zAz; rw [hmm]; rfl
  rw [hgm] at h
  refine s_t ?_
  repeat refine zT ?_
  refine zH fun gb=>?_
  refine zW4 (cG:=Value.bool) (b:=gm) (enc:=qb) (cV:=gV) (v:=g0 gb) rfl zUp zFy ?_
  have hms:=zFv (v:=g0 gb) hm
  rw [hms]
  refine fun w hw=>?_
  refine hg (show Holds B (SlC qw 7 ⟨none,0,0⟩ []::_) w from hw.zAm _ _) ?_
  clear hw w
  refine fun w hw=>?_
  refine hg (show Holds B (SlC qw 7 ⟨none,0,0⟩ []::_) w from hw.zAm _ _) ?_
  clear hw w
  refine zO gb ?_
  show HG B (gL (g0 gb) (xE qb gV gm (X++[(key,g0 gb)])::blk l (.cells [.map (some gm),.map (some db)].toArray jU (0,0))::Sep.stars (X.map gB)::xE (kyS qO) (Value.int .i64) db D::Γ)) _
  refine zEQ (Δ:=gL (g0 gb) []) ?_
  refine ze (Sep.stars (X.map gB)) ?_
  refine ze (Sep.stars (gL (g0 gb) [])) ?_
  rw [show Sep.stars (X.map gB) = Sep.stars ((X++[]).map gB) by rw [List.append_nil]]
  refine zAb (F:=gB) (x:=(key,g0 gb)) ?_
  refine zO db ?_
  refine ze (Sep.stars ((X++[(key,g0 gb)]).map gB)) ?_
  refine zO gm ?_
  refine zO l ?_
  have hf':LF (M++[(key,([],[]))]) dm (X++[(key,g0 gb)]) D:=⟨by simp [zQQ,← hf.mod],zVn hf.once hm,hf.doom,hf.nd⟩
  refine fin _ _ (g0 gb) ?_ hf' fun A C hX=>h gm db _ D A _ C hf' hX
  rw [← hms,zBh]; simp
 | some g=>
  rw [hm] at hmm
  have hgm:zAz key M = M:=by unfold zAz; rw [hmm]; rfl
  rw [hgm] at h
  refine s_f ?_
  exact fin M X g hm hf fun A C hX=>h gm db X D A g C hf hX
abbrev ofV (b:Nat):Value:=.func (.func 160) #[] #[.pointer (some ⟨b,0,none⟩)]
theorem zE7 {Q:Value→K} (h:∀ b,HG B (blk b (.cells (qO tag).toArray vF (0,0))::Γ) (Q (ofV b))):HG B Γ (zCJ.call (qO tag).toArray Q):=by
 refine fun w hw=>zRh _ _ _ ?_
 refine hg hw ?_
 clear hw w
 unfold zCJ
 exact zH fun b=>h b
theorem zaj {b:Nat} {c:Claim} {q:Bool→K} (h:HG B Γ (q (decide (c.1 = tag)))) [p:Sep.Own b Γ (blk b (.cells (qO tag).toArray vF (0,0))) Δ] :
  HG B Γ (uF Tryz.prog (ofV b) [.agg (clF c).toArray] (yO (fun (t:Bool)=>Value.bool t) q)):=by
 refine zFC (cs:=[.pointer (some ⟨b,0,none⟩)]) ?_
 refine fun w hw=>zNo _ _ _ _ ?_
 refine hg hw ?_
 clear hw w
 unfold zGB
 refine zH fun c2=>?_
 repeat refine zT ?_
 refine zad (xs:=qO c.1) (ys:=qO tag) (ks:=zbR) zNA ?_
 exact zB h
theorem zXq {s:Sl} {L:List Claim} {b:Nat} {Δ2:List zC} {Q:Int→K} (hL:L.length < 1000000000) (h:HG B Γ (Q (zGE (L.findIdx? fun c=>decide (c.1 = tag))))) [o:zB1 s Γ (SlC qw 7 s (L.flatMap clF)) Δ2] [p:Sep.Own b Γ (blk b (.cells (qO tag).toArray vF (0,0))) Δ] :
  HG B Γ (zV.call s (ofV b) Q):=by
 refine yS s fun a1 a2 a3 a4=>?_
 rw [zX _ 7 zFU] at a1
 refine fun w hw=>vJ _ _ _ _ ?_
 refine hg hw ?_
 clear hw w
 show HG B Γ (zIb Tryz.prog (zXD 7) s (ofV b) Q)
 exact zJj (vV:=fun c=>.agg (clF c).toArray) (L:=L) (fun c=>decide (c.1 = tag)) (by omega) hL (fun i x k hx hk=>zUd (s:=s) zFU (by omega) hx hk) (fun x q _ hq=>zaj hq) h
theorem zKd {s:Sl} {L:List Claim} {b:Nat} {Δ2:List zC} {Q:Bool→K} (hL:L.length < 1000000000) (h:HG B Γ (Q (zHP tag L))) [o:zB1 s Γ (SlC qw 7 s (L.flatMap clF)) Δ2] [p:Sep.Own b Γ (blk b (.cells (qO tag).toArray vF (0,0))) Δ] :
  HG B Γ (yG.call s (ofV b) Q):=by
 refine fun w hw=>zA4 _ _ _ _ ?_
 refine hg hw ?_
 clear hw w
 unfold yG
 refine zXq (tag:=tag) (L:=L) hL ?_
 rw [zHE,zQD]
 exact h
theorem zUr {s:Sl} {L:List Claim} {b:Nat} {Q:Sl→K} (hL:L.length < 1000000000) (h:∀ s',HG B (SlC qw 7 s' ((noT tag L).flatMap clF)::Γ) (Q s')) [p:Sep.Own b Γ (blk b (.cells (qO tag).toArray vF (0,0))) Δ] :
  HG B (SlC qw 7 s (L.flatMap clF)::Γ) (zJ.call s (ofV b) Q):=by
 refine fun w hw=>u7 _ _ _ _ ?_
 refine hg hw ?_
 clear hw w
 show HG B _ (zUe Tryz.prog zV.call qw zFj 0 7 [(.int .i64 0),(.int .u64 0),(.int .u64 0),(.int .i64 0),(.string ⟨#[]⟩),(.int .i64 0),(.int .u64 0)] s (ofV b) Q)
 refine zUf (R:=fun _=>Γ) (L:=L) (f:=clF) (fun (_:Unit) c=>decide (c.1 = tag)) (fun _ _=>()) () (fun _ _=>True) trivial (fun _ _ _ _=>trivial) (fun s fv Q w h=>vJ _ _ _ _ h) zFU (by omega) (fun _=>rfl) rfl hL (fun Ξ g x C q _ _ hq=>zaj hq) fun s' _=>?_
 rw [zKJ]
 exact h s'
theorem zK6 {Q:Option Addr→K} (h:∀ l,HG B (vX l [] (fun _=>false)::Γ) (Q (some ⟨l,0,none⟩))):HG B Γ (zD4.call Q):=by
 refine fun w hw=>zQH _ _ ?_
 refine hg hw ?_
 clear hw w
 unfold zD4
 refine zJe (enc:=qb) (cV:=gV) fun gm=>?_
 refine zJe (enc:=kyS qO) (cV:=Value.int .i64) fun db=>?_
 refine zH fun l=>?_
 refine fun w hw=>?_
 refine hg (show Holds B (Sep.stars (([]:GX).map gB)::_) w from Holds.flat.2 hw) ?_
 clear hw w
 refine zO db ?_
 refine ze (Sep.stars (([]:GX).map gB)) ?_
 refine zO gm ?_
 refine zO l ?_
 exact zE6 ⟨rfl,by simp [zJr],fun t=>by simp [y8],by simp⟩ (h l)
theorem zND (hf:∀ t,dm t = decide (0 < (y8 t D).getD 0)):∀ t,zEh dm tag true t = decide (0 < (y8 t (vS tag 1 D)).getD 0):=fun t=>by
 rw [zBh]
 unfold zEh
 split
 ·simp
 ·exact hf t
theorem zTB {v:Int} (h:(D.map Prod.fst).Nodup):((vS tag v D).map Prod.fst).Nodup:=by
 rw [zE1]
 split
 ·exact h
 ·rename_i hk
  refine List.nodup_append.2 ⟨h,by simp,fun a ha b hb=>?_⟩
  rw [List.mem_singleton.1 hb]
  exact fun e=>hk (e ▸ ha)
theorem zVp {ν:Type} {M:List (List UInt8×ν)} {key:List UInt8} {v:ν} (h:y8 key M = some v):vS key v M = M:=by
 induction M with
 | nil=>cases h
 | cons p M ih=>
  unfold y8 at h
  unfold vS
  split
  ·rename_i e
   rw [if_pos e] at h
   injection h with h
   rw [e,← h]
  ·rename_i e
   rw [if_neg e] at h
   rw [ih h]
theorem zQR {key:List UInt8}:atM key (zAz key M) = atM key M:=by
 unfold zAz
 split
 ·rename_i h
  have h':y8 key M = none:=by simpa using h
  unfold atM
  rw [h',← zFv (v:=([],[])) h',zBh]; simp
 ·rfl
theorem zUs {key:List UInt8}:vS key (atM key M) (zAz key M) = zAz key M:=by
 refine zVp ?_
 have h:=zE5 (M:=M) (k:=key)
 rw [← zQR]
 unfold atM
 cases hm:y8 key (zAz key M) with
 | none=>rw [hm] at h; cases h
 | some v=>rfl
theorem zXr {ms:Sl} {L:List zET} {N:Nat} {Q:K} (hr:∀ w,Holds B Γ w→RdC w ms 3 (L.flatMap zRw)) (hk:∀ m ∈ L,m.key.length < 1000000000) (hN:gsz M N) (hNl:N + L.length ≤ 1000000)
  (h:HG B (vX l (zAh n S tag L (M,dm)).1 (zAh n S tag L (M,dm)).2::zk st n S::Γ) Q) :
  HG B (vX l M dm::zk st n S::Γ) (yH.call (some ⟨l,0,none⟩) (some ⟨st,0,none⟩) (qO tag).toArray ms Q):=fun w hw=>by
 refine zHG _ _ _ _ _ _ ?_
 have hlen:ms.n = L.length:=zA3 zOf (by omega) (hr w hw.tail.tail)
 refine hg hw ?_
 clear hw w
 unfold yH
 refine zH fun t6=>?_
 refine xW (α:=Int) (ι:=(GM×DM)×Nat) (fun x i=>x = (i.2:Int)∧i.2 ≤ L.length∧gsz i.1.1 (N + i.2)∧zAh n S tag (L.drop i.2) i.1 = zAh n S tag L (M,dm))
  (fun x i=>blk t6 (.cells (qO tag).toArray vF (0,0))::vX l i.1.1 i.1.2::zk st n S::Γ) (fun x i=>L.length - i.2) ((M,dm),0) ⟨rfl,Nat.zero_le _,hN,rfl⟩ ?_
 rintro k' _ ⟨⟨M1,d1⟩,j⟩ ⟨rfl,hj,hz,he⟩ hk'
 simp only at hj hz he hk' ⊢
 unfold yH.b1
 refine zF (fun hb=>?_) fun hb=>?_
 ·have hjl:j < L.length:=by simp only [decide_eq_true_eq] at hb; omega
  have hge:L[j]? = some L[j]:=List.getElem?_eq_getElem hjl
  have hmem:L[j] ∈ L:=List.getElem_mem hjl
  rw [List.drop_eq_getElem_cons hjl] at he
  generalize L[j] = m at hge hmem he
  have hkl:=hk m hmem
  have hz2:=zVm (n:=n) (S:=S) (tag:=tag) (x:=(M1,d1)) (m:=m) hz
  have he2:zAh n S tag (L.drop (j + 1)) (zBP n S tag (M1,d1) m) = zAh n S tag L (M,dm):=he
  refine zAc zRw zOf (fun w hw=>hr w hw.drops) hge ?_
  refine zH fun m9=>?_
  repeat refine zT ?_
  refine zO l ?_
  refine zUq fun gm db X D A g C hf hX=>?_
  have hat:=zai hX hf
  rw [zQR] at hat
  have hgz:=zS9 (k:=m.key) hz
  rw [hat] at hgz
  simp only at hgz
  refine yS g.ls fun c1 c2 c3 c4=>?_
  refine yS g.ps fun e1 e2 e3 e4=>?_
  rw [zX _ 7 zFU] at c1 e1
  have fin:∀ {Δ:List zC} {g':zDO} {d':DM} {D':List (y7×Int)},zBP n S tag (M1,d1) m = (vS m.key (g'.line,g'.park) (zAz m.key M1),d')→g'.b = g.b→((∀ t,d' t = decide (0 < (y8 t D').getD 0))∧(D'.map Prod.fst).Nodup)→HG B (gL g' (zF2 l gm db X (A++C) D' (blk t6 (.cells (qO tag).toArray vF (0,0))::zk st n S::Γ))) (yH.s2 Q k' (some ⟨l,0,none⟩) (some ⟨st,0,none⟩) ⟨t6,0,none⟩ ms (ms.n:Int) (j:Int)):=fun {Δ g' d' D'} e1 e2 e3=>by
   refine zRz hX e2 hf e3 ?_
   unfold yH.s2
   refine qB ?_
   have h:=hk' ((j:Int) + 1) (zBP n S tag (M1,d1) m,j + 1) ⟨by simp,hjl,hz2,he2⟩ (by simp only; omega)
   rw [e1] at h
   exact zB h
  have keep:(zHP tag g.line || zHP tag g.park) = true→zBP n S tag (M1,d1) m = (vS m.key (g.line,g.park) (zAz m.key M1),d1):=fun hh=>by
   unfold zBP
   rw [hat,if_pos hh,show (g.line,g.park) = atM m.key M1 from hat.symm,zUs]
  repeat refine zT ?_
  refine zE7 fun b1=>?_
  repeat refine zT ?_
  refine zKd (tag:=tag) (L:=g.line) (by omega) ?_
  repeat refine zT ?_
  have rest:∀ (b:Nat) (hh:Bool),hh = (zHP tag g.line || zHP tag g.park)→HG B (gL g (zF2 l gm db X (A++C) D (blk m9 (.cells (zRw m).toArray qC (0,0))::blk t6 (.cells (qO tag).toArray vF (0,0))::zk st n S::Γ))) (yH.s3 Q k' (some ⟨l,0,none⟩) (some ⟨st,0,none⟩) ⟨t6,0,none⟩ ⟨m9,0,none⟩ (some ⟨g.b,0,none⟩) ms (ms.n:Int) (j:Int) hh):=fun b hh hhe=>by
   unfold yH.s3
   refine zF (fun hb2=>?_) fun hb2=>?_
   ·exact zB (fin (Δ:=Γ) (keep (by rw [← hhe]; exact hb2)) rfl ⟨hf.doom,hf.nd⟩)
   rw [hb2] at hhe
   have hno:¬ (zHP tag g.line || zHP tag g.park) = true:=by rw [← hhe]; simp
   repeat refine zT ?_
   refine zO st ?_
   refine zAn (k:=bs m.key) (by show m.key.length < _; omega) fun s _=>?_
   repeat refine zT ?_
   refine zS7 ?_
   have hlk:zC5 (zx n S (bs m.key)).cnt m.cnt (zx n S (bs m.key)).home m.home = q8 n S m:=rfl
   rw [hlk]
   refine zF (fun h0=>?_) fun h0=>?_
   ·have h0':q8 n S m = 0:=by simpa using h0
    repeat refine zT ?_
    refine zH fun t=>?_
    repeat refine zT ?_
    refine qN (s:=g.ls) (esz:=7) (us:=clF (tag,m)) (jX rfl) (by intro v hv; exact zS8 [(tag,m)] v (by simpa using hv)) (by simp only; omega) fun ls' _=>?_
    rw [show g.line.flatMap clF++clF (tag,m) = (g.line++[(tag,m)]).flatMap clF by simp]
    repeat refine zT ?_
    refine zB (fin (Δ:=Γ) (g':={ g with ls:=ls',line:=g.line++[(tag,m)] }) ?_ rfl ⟨hf.doom,hf.nd⟩)
    unfold zBP
    rw [hat,if_neg hno,if_pos h0']
   ·have h0':¬ q8 n S m = 0:=by simpa using h0
    refine zF (fun h1=>?_) fun h1=>?_
    ·have h1':q8 n S m = 1:=by simpa using h1
     repeat refine zT ?_
     refine zH fun t=>?_
     repeat refine zT ?_
     refine qN (s:=g.ps) (esz:=7) (us:=clF (tag,m)) (jX rfl) (by intro v hv; exact zS8 [(tag,m)] v (by simpa using hv)) (by simp only; omega) fun ps' _=>?_
     rw [show g.park.flatMap clF++clF (tag,m) = (g.park++[(tag,m)]).flatMap clF by simp]
     repeat refine zT ?_
     refine zB (fin (Δ:=Γ) (g':={ g with ps:=ps',park:=g.park++[(tag,m)] }) ?_ rfl ⟨hf.doom,hf.nd⟩)
     unfold zBP
     rw [hat,if_neg hno,if_neg h0',if_pos h1']
    ·have h1':¬ q8 n S m = 1:=by simpa using h1
     repeat refine zT ?_
     refine zQC (b:=db) (cel:=qO) (a:=tag) (v:=1) zCQ rfl ?_ zRx
     refine zB (fin (Δ:=Γ) (g':=g) (d':=zEh d1 tag true) ?_ rfl ⟨zND hf.doom,zTB hf.nd⟩)
     unfold zBP
     rw [hat,if_neg hno,if_neg h0',if_neg h1',show (g.line,g.park) = atM m.key M1 from hat.symm,zUs]
  refine zF (fun hb2=>?_) fun hb2=>?_
  ·exact zB (rest b1 true (by rw [hb2]; rfl))
  repeat refine zT ?_
  refine zE7 fun b2=>?_
  repeat refine zT ?_
  refine zKd (tag:=tag) (L:=g.park) (by omega) ?_
  exact zB (rest b2 _ (by rw [hb2]; rfl))
 ·have hjl:j = L.length:=by simp only [decide_eq_false_iff_not] at hb; omega
  rw [hjl,List.drop_length] at he
  have he':(M1,d1) = zAh n S tag L (M,dm):=he
  rw [← he'] at h
  exact zB h
end
end
section
open Go Go.Sep Go.Sep.Bt
section
variable {B:World} {Γ Δ:List zC} {k:K} {l gm db st n:Nat} {M:GM} {dm:DM} {X:GX} {D:List (y7×Int)} {S:zy} {tag:y7}
theorem zOh {Q:Bool→K} (h:HG B (vX l M dm::Γ) (Q (dm tag))):HG B (vX l M dm::Γ) (jI.call (some ⟨l,0,none⟩) (qO tag).toArray Q):=by
 refine fun w hw=>zGj _ _ _ _ ?_
 refine hg hw ?_
 clear hw w
 refine zL1 fun gm db X D hf=>?_
 unfold jI
 refine zH fun t3=>?_
 repeat refine zT ?_
 refine zJi (b:=db) (cel:=qO) (a:=tag) (z:=0) zCQ zEO ?_ zRx
 rw [← hf.doom]
 refine zO db ?_
 refine ze (Sep.stars (X.map gB)) ?_
 refine zO gm ?_
 refine zO l ?_
 exact zE6 hf (zB h)
theorem zXs {m:List (y7×Int)} {a b:y7} (h:(m.map Prod.fst).Nodup):y8 b (zIp a m) = if b = a then none else y8 b m:=by
 induction m with
 | nil=>simp [zIp,y8]
 | cons p m ih=>
  have h1:=List.nodup_cons.1 (show (p.1::m.map Prod.fst).Nodup from h)
  unfold zIp
  split
  ·rename_i e
   split
   ·rename_i e2
    have hn:∀ m:List (y7×Int),p.1 ∉ m.map Prod.fst→y8 p.1 m = none:=fun m=>by
     induction m with
     | nil=>intro _; rfl
     | cons q m ih=>intro hq; simp only [List.map_cons,List.mem_cons,not_or] at hq; unfold y8; rw [if_neg hq.1]; exact ih hq.2
    rw [e2,e]; exact hn m h1.1
   ·rename_i e2
    simp only [y8]
    rw [if_neg (fun e3=>e2 (by rw [e3,e]))]
  ·rename_i e
   by_cases h2:b = p.1
   ·have h3:¬ b = a:=fun h4=>e (by rw [← h4,h2])
    simp only [y8,h2,if_true]
    rw [if_neg (by rw [← h2]; exact h3)]
   ·simp only [y8,h2,if_false]
    exact ih h1.2
theorem zbU {m:List (y7×Int)} (h:(m.map Prod.fst).Nodup):((zIp tag m).map Prod.fst).Nodup:=by
 rcases zFs tag m with ⟨_,_,h3,_⟩ | ⟨j,x,_,_,_,_,_,h3⟩
 ·rw [h3]; exact h
 ·rw [h3]
  exact List.Pairwise.sublist ((List.eraseIdx_sublist m j).map Prod.fst) h
theorem zTC {X Y:GX} {A C:GX} {p:List UInt8×zDO} (hY:(Y.map fun q=>(q.1,q.2.b)) = X.map fun q=>(q.1,q.2.b)) (hX:X = A++p::C):∃ A' g C',Y = A'++(p.1,g)::C'∧g.b = p.2.b∧A'.length = A.length∧(A'.map Prod.fst) = A.map Prod.fst∧C'.map Prod.fst = C.map Prod.fst:=by
 rw [hX,List.map_append,List.map_cons] at hY
 obtain ⟨A',Y2,rfl,h1,h2⟩:=List.map_eq_append_iff.1 hY
 obtain ⟨⟨k,g⟩,C',rfl,h3,h4⟩:=List.map_eq_cons_iff.1 h2
 simp only [Prod.mk.injEq] at h3
 obtain ⟨rfl,h5⟩:=h3
 refine ⟨A',g,C',rfl,h5,by simpa using congrArg List.length h1,?_,?_⟩
 ·have:=congrArg (List.map Prod.fst) h1; simpa [Function.comp_def] using this
 ·have:=congrArg (List.map Prod.fst) h4; simpa [Function.comp_def] using this
theorem zUt {Y A' C':GX} {key:List UInt8} {g:zDO} (hY:Y = A'++(key,g)::C') (h:HG B (gL g (Sep.stars ((A'++C').map gB)::Γ)) k):HG B (Sep.stars (Y.map gB)::Γ) k:=by
 rw [hY]
 refine zFk ?_
 refine zBr ?_
 exact h
theorem zOi {A' C':GX} {key:List UInt8} {g:zDO} (h:HG B (Sep.stars ((A'++(key,g)::C').map gB)::Γ) k):HG B (gL g (Sep.stars ((A'++C').map gB)::Γ)) k:=by
 refine zEQ (Δ:=gL g []) ?_
 exact zAb (F:=gB) (x:=(key,g)) h
theorem zOj {N:Nat} {Q:K} (hN:gsz M N) (hNl:N ≤ 1000000) (h:HG B (vX l (vW tag (M,dm)).1 (vW tag (M,dm)).2::Γ) Q) :
  HG B (vX l M dm::Γ) (y5 (some ⟨l,0,none⟩) (qO tag).toArray Q):=by
 refine zL1 fun gm db X D hf=>?_
 have hsz:∀ p ∈ X,p.2.line.length ≤ N∧p.2.park.length ≤ N:=fun p hp=>hN.2 (p.1,(p.2.line,p.2.park)) (by rw [← hf.mod]; exact List.mem_map.2 ⟨p,hp,rfl⟩)
 unfold y5
 refine zH fun t3=>?_
 repeat refine zT ?_
 refine zUb zUp fun r=>?_
 let cl:List (List UInt8)→List UInt8×(List Claim×List Claim)→List UInt8×(List Claim×List Claim):=fun ks p=>if p.1 ∈ ks then p else (p.1,(noT tag p.2.1,noT tag p.2.2))
 refine xW (α:=Unit) (ι:=GX×GX×Option (List UInt8×zDO)) (fun _ i=>(i.1.map fun q=>(q.1,q.2.b)) = (X.map fun q=>(q.1,q.2.b))∧zQQ i.1 = (zQQ X).map (cl (i.2.1.map Prod.fst))∧(i.2.1.map Prod.fst).Nodup)
  (fun _ i=>zAo qb gV gm r X i.2.1 i.2.2::Sep.stars (i.1.map gB)::blk t3 (.cells (qO tag).toArray vF (0,0))::blk l (.cells [.map (some gm),.map (some db)].toArray jU (0,0))::xE (kyS qO) (Value.int .i64) db D::Γ)
  (fun _ i=>i.2.1.length) (X,X,none) ⟨rfl,?_,hf.once⟩ ?_ |> fun h=>zB h
 ·simp only
  rw [List.map_congr_left (g:=id)]
  ·simp
  ·intro p hp
   simp only [cl,id]
   rw [if_pos]
   obtain ⟨q,hq,rfl⟩:=List.mem_map.1 hp
   exact List.mem_map.2 ⟨q,hq,rfl⟩
 rintro k' _ ⟨Y,left,cur⟩ ⟨hYb,hYm,hnd⟩ hk'
 simp only at hYb hYm hnd hk' ⊢
 unfold y5.b1
 refine zXC (r:=r) (fun hl0=>?_) fun l1 p l2 hl1 hp=>?_
 ·repeat refine zT ?_
  refine zSt (b:=db) (cel:=qO) (a:=tag) zCQ ?_ zRx
  subst hl0
  refine zO gm ?_
  refine jy (zOg (m':=Y) ?_) ?_
  ·have:=congrArg (List.map fun q:List UInt8×Nat=>(qb q.1,Value.pointer (some ⟨q.2,0,none⟩))) hYb
   simpa [gV,Function.comp_def] using this.symm
  refine zO db ?_
  refine ze (Sep.stars (Y.map gB)) ?_
  refine zO gm ?_
  refine zO l ?_
  refine zE6 (M:=(vW tag (M,dm)).1) (dm:=(vW tag (M,dm)).2) ⟨?_,?_,fun t=>?_,zbU hf.nd⟩ (zB h)
  ·rw [hYm,hf.mod]
   simp [vW,cl]
  ·unfold zJr
   have:=congrArg (List.map Prod.fst) hYb
   simp only [List.map_map,Function.comp_def] at this
   rw [this]; exact hf.once
  ·show zEh dm tag false t = _
   unfold zEh
   rw [zXs hf.nd]
   split
   ·simp
   ·exact hf.doom t
 ·obtain ⟨A,C,hX⟩:=List.append_of_mem hp
  obtain ⟨A',g,C',hY,hgb,_,hA1,hC1⟩:=zTC hYb hX
  have hpl:p.1 ∈ left.map Prod.fst:=by rw [hl1]; simp
  have hXo:=hf.once
  rw [hX] at hXo
  have hmid:=zNC (v:=p.2) hXo
  have hgm2:(g.line,g.park) = (p.2.line,p.2.park):=by
   rw [hY,hX] at hYm
   simp only [zQQ,List.map_append,List.map_cons] at hYm
   have hlen:(A'.map fun p:List UInt8×zDO=>(p.1,(p.2.line,p.2.park))).length = ((A.map fun p:List UInt8×zDO=>(p.1,(p.2.line,p.2.park))).map (cl (left.map Prod.fst))).length:=by
    have:=congrArg List.length hA1; simpa using this
   have h2:=(List.append_inj hYm hlen).2
   simp only [List.cons.injEq,cl] at h2
   rw [if_pos hpl] at h2
   exact (Prod.mk.inj h2.1).2
  simp only [Prod.mk.injEq] at hgm2
  have hps:=hsz p hp
  repeat refine zT ?_
  refine zUc (r:=r) (q:=p) ?_
  refine zT ?_
  refine ze (Sep.stars (Y.map gB)) ?_
  refine zUt hY ?_
  rw [← hgb]
  repeat refine zT ?_
  refine zE7 fun b1=>?_
  repeat refine zT ?_
  refine zw g.ls ?_
  refine zUr (tag:=tag) (L:=g.line) (b:=b1) (by rw [hgm2.1]; omega) fun ls'=>?_
  repeat refine zT ?_
  refine zE7 fun b2=>?_
  repeat refine zT ?_
  refine zw g.ps ?_
  refine zUr (tag:=tag) (L:=g.park) (b:=b2) (by rw [hgm2.2]; omega) fun ps'=>?_
  repeat refine zT ?_
  refine ze (Sep.stars ((A'++C').map gB)) ?_
  refine zw ps' ?_
  refine zw ls' ?_
  refine zO g.b ?_
  refine zOi (key:=p.1) (g:=⟨g.b,ls',ps',noT tag g.line,noT tag g.park⟩) ?_
  refine zB (hk' () (A'++(p.1,⟨g.b,ls',ps',noT tag g.line,noT tag g.park⟩)::C',l1++l2,some p) ⟨?_,?_,?_⟩ (by rw [hl1]; simp))
  ·rw [← hYb,hY]; simp
  ·simp only
   have hne:∀ q:List UInt8,q ≠ p.1→(q ∈ l1.map Prod.fst++l2.map Prod.fst ↔ q ∈ left.map Prod.fst):=fun q hq=>by
    rw [hl1]; simp only [List.map_append,List.map_cons,List.mem_append,List.mem_cons]
    constructor
    ·rintro (h | h)
     ·exact .inl h
     ·exact .inr (.inr h)
    ·rintro (h | h | h)
     ·exact .inl h
     ·exact absurd h hq
     ·exact .inr h
   have hpn:p.1 ∉ l1.map Prod.fst++l2.map Prod.fst:=fun h5=>by
    rw [hl1,List.map_append,List.map_cons] at hnd
    obtain ⟨_,h6,h7⟩:=List.nodup_append.1 hnd
    rcases List.mem_append.1 h5 with h5 | h5
    ·exact h7 _ h5 _ List.mem_cons_self rfl
    ·exact (List.nodup_cons.1 h6).1 h5
   rw [hY,hX] at hYm
   rw [hX]
   simp only [zQQ,List.map_append,List.map_cons] at hYm ⊢
   have hlen:(A'.map fun p:List UInt8×zDO=>(p.1,(p.2.line,p.2.park))).length = ((A.map fun p:List UInt8×zDO=>(p.1,(p.2.line,p.2.park))).map (cl (left.map Prod.fst))).length:=by
    have:=congrArg List.length hA1; simpa using this
   obtain ⟨h8,h9⟩:=List.append_inj hYm hlen
   simp only [List.cons.injEq] at h9
   rw [h8,h9.2]
   congr 1
   ·refine List.map_congr_left fun q hq=>?_
    obtain ⟨q,hq',rfl⟩:=List.mem_map.1 hq
    have hq2:=hmid.1 q hq'
    simp only [cl]
    by_cases h10:q.1 ∈ left.map Prod.fst
    ·rw [if_pos h10,if_pos ((hne _ hq2).2 h10)]
    ·rw [if_neg h10,if_neg fun h11=>h10 ((hne _ hq2).1 h11)]
   ·congr 1
    ·simp only [cl]
     rw [if_neg hpn,hgm2.1,hgm2.2]
    ·refine List.map_congr_left fun q hq=>?_
     obtain ⟨q,hq',rfl⟩:=List.mem_map.1 hq
     have hq2:=hmid.2 q hq'
     simp only [cl]
     by_cases h10:q.1 ∈ left.map Prod.fst
     ·rw [if_pos h10,if_pos ((hne _ hq2).2 h10)]
     ·rw [if_neg h10,if_neg fun h11=>h10 ((hne _ hq2).1 h11)]
  ·rw [hl1,List.map_append,List.map_cons] at hnd
   rw [List.map_append]
   obtain ⟨h5,h6,h7⟩:=List.nodup_append.1 hnd
   exact List.nodup_append.2 ⟨h5,(List.nodup_cons.1 h6).2,fun a ha b hb=>h7 a ha b (List.mem_cons_of_mem _ hb)⟩
theorem zXt {N:Nat} {Q:K} (hN:gsz M N) (hNl:N ≤ 1000000) (h:HG B (vX l (vW tag (M,dm)).1 (vW tag (M,dm)).2::Γ) Q) :
  HG B (vX l M dm::Γ) (y5.call (some ⟨l,0,none⟩) (qO tag).toArray Q):=fun w hw=>zHI _ _ _ _ (zOj hN hNl h w hw)
def zGL (tag:y7) (p:List Claim×List Claim):Bool:=!zHP tag p.2 && !decide (0 < zGE (p.1.findIdx? fun c=>decide (c.1 = tag)))
def zFb (tag:y7) (M:GM):Bool:=M.all fun p=>zGL tag p.2
theorem zXu {N:Nat} {Q:Bool→K} (hN:gsz M N) (hNl:N ≤ 1000000) (h:HG B (vX l M dm::Γ) (Q (zFb tag M))):HG B (vX l M dm::Γ) (qH.call (some ⟨l,0,none⟩) (qO tag).toArray Q):=by
 refine fun w hw=>zHH _ _ _ _ ?_
 refine hg hw ?_
 clear hw w
 refine zL1 fun gm db X D hf=>?_
 have hsz:∀ p ∈ X,p.2.line.length ≤ N∧p.2.park.length ≤ N:=fun p hp=>hN.2 (p.1,(p.2.line,p.2.park)) (by rw [← hf.mod]; exact List.mem_map.2 ⟨p,hp,rfl⟩)
 have hrm:zFb tag M = X.all fun p=>zGL tag (p.2.line,p.2.park):=by unfold zFb; rw [← hf.mod]; simp [zQQ,Function.comp_def]
 unfold qH
 refine zH fun t3=>?_
 repeat refine zT ?_
 refine zUb zUp fun r=>?_
 refine xW (α:=Unit) (ι:=GX×Option (List UInt8×zDO)) (fun _ i=>(∀ p ∈ X,p ∈ i.1∨zGL tag (p.2.line,p.2.park) = true))
  (fun _ i=>zAo qb gV gm r X i.1 i.2::Sep.stars (X.map gB)::blk t3 (.cells (qO tag).toArray vF (0,0))::blk l (.cells [.map (some gm),.map (some db)].toArray jU (0,0))::xE (kyS qO) (Value.int .i64) db D::Γ)
  (fun _ i=>i.1.length) (X,none) (fun p hp=>.inl hp) ?_ |> fun h=>zB h
 rintro k' _ ⟨left,cur⟩ hJ hk'
 simp only at hJ hk' ⊢
 unfold qH.b1
 refine zXC (r:=r) (fun hl0=>?_) fun l1 p l2 hl1 hp=>?_
 ·repeat refine zT ?_
  subst hl0
  have e:zFb tag M = true:=by
   rw [hrm,List.all_eq_true]
   intro p hp
   rcases hJ p hp with h1 | h1
   ·cases h1
   ·exact h1
  rw [e] at h
  refine zO db ?_
  refine ze (Sep.stars (X.map gB)) ?_
  refine zO gm ?_
  refine zO l ?_
  exact zE6 hf (zB h)
 ·obtain ⟨A,C,hX⟩:=List.append_of_mem hp
  have hps:=hsz p hp
  repeat refine zT ?_
  refine zUc (r:=r) (q:=p) ?_
  refine zT ?_
  have bad:zGL tag (p.2.line,p.2.park) = false→HG B (zAo qb gV gm r X (l1++l2) (some p)::Sep.stars (X.map gB)::blk t3 (.cells (qO tag).toArray vF (0,0))::blk l (.cells [.map (some gm),.map (some db)].toArray jU (0,0))::xE (kyS qO) (Value.int .i64) db D::Γ) (Q false):=fun hb=>by
   have e:zFb tag M = false:=by
    rw [hrm,List.all_eq_false]
    exact ⟨p,hp,by simp [hb]⟩
   rw [e] at h
   refine zZT (r:=r) ?_
   refine zO db ?_
   refine ze (Sep.stars (X.map gB)) ?_
   refine zO gm ?_
   refine zO l ?_
   exact zE6 hf (zB h)
  refine ze (Sep.stars (X.map gB)) ?_
  refine zUt (key:=p.1) (g:=p.2) hX ?_
  have back:∀ (b:Bool),zGL tag (p.2.line,p.2.park) = !b→HG B (gL p.2 (Sep.stars ((A++C).map gB)::zAo qb gV gm r X (l1++l2) (some p)::blk t3 (.cells (qO tag).toArray vF (0,0))::blk l (.cells [.map (some gm),.map (some db)].toArray jU (0,0))::xE (kyS qO) (Value.int .i64) db D::Γ)) (qH.s2 Q (k' ()) ⟨t3,0,none⟩ (some ⟨r,0,none⟩) b):=fun b hb=>by
   refine zOi (key:=p.1) ?_
   rw [show A++(p.1,p.2)::C = X from hX.symm]
   unfold qH.s2
   refine zF (fun h2=>?_) fun h2=>?_
   ·exact zB (bad (by rw [hb,h2]; rfl))
   ·refine zB (hk' () (l1++l2,some p) (fun q hq=>?_) (by rw [hl1]; simp))
    rcases hJ q hq with h3 | h3
    ·rw [hl1] at h3
     rcases List.mem_append.1 h3 with h3 | h3
     ·exact .inl (List.mem_append_left _ h3)
     ·rcases List.mem_cons.1 h3 with rfl | h3
      ·exact .inr (by rw [hb,h2]; rfl)
      ·exact .inl (List.mem_append_right _ h3)
    ·exact .inr h3
  repeat refine zT ?_
  refine zE7 fun b1=>?_
  repeat refine zT ?_
  refine zKd (tag:=tag) (L:=p.2.park) (by omega) ?_
  repeat refine zT ?_
  refine zF (fun h2=>?_) fun h2=>?_
  ·exact zB (back true (by unfold zGL; rw [h2]; rfl))
  repeat refine zT ?_
  refine zE7 fun b2=>?_
  repeat refine zT ?_
  refine zXq (tag:=tag) (L:=p.2.line) (by omega) ?_
  exact zB (back _ (by unfold zGL; rw [h2]; rfl))
end
end
section
open Go Go.Sep Go.Sep.Bt
section
variable {B:World} {Γ Δ:List zC} {k:K} {l gm db st n:Nat} {M:GM} {dm:DM} {X:GX} {D:List (y7×Int)} {S:zy} {tag:y7}
def zAV (r:Rec) (c:Claim):Int:=zC5 r.cnt c.2.cnt r.home c.2.home
def zCb (r:Rec) (L:List Claim) (dm:DM):DM:=L.foldl (fun d c=>if zAV r c ≠ 0 then zEh d c.1 true else d) dm
def mvP (r:Rec) (_:List Claim×DM) (c:Claim):Bool:=decide (zAV r c ≠ 1)
def mvS (r:Rec) (x:List Claim×DM) (c:Claim):List Claim×DM:=if zAV r c = 0 then (x.1++[c],x.2) else if zAV r c = 2 then (x.1,zEh x.2 c.1 true) else x
def zCR (n:Nat) (S:zy) (key:List UInt8) (x:GM×DM):GM×DM :=
 (vS key ((zBi (mvP (zx n S (bs key))) (mvS (zx n S (bs key))) ((atM key x.1).1,zCb (zx n S (bs key)) (atM key x.1).1 x.2) (atM key x.1).2).1.1,(zBi (mvP (zx n S (bs key))) (mvS (zx n S (bs key))) ((atM key x.1).1,zCb (zx n S (bs key)) (atM key x.1).1 x.2) (atM key x.1).2).2) (zAz key x.1),
  (zBi (mvP (zx n S (bs key))) (mvS (zx n S (bs key))) ((atM key x.1).1,zCb (zx n S (bs key)) (atM key x.1).1 x.2) (atM key x.1).2).1.2)
theorem zcY {ι:Type} {k:(World→Prop)→K} (Γ0:ι→List zC) (i:ι) (h:HG B Γ (k fun w=>∃ i,Holds B (Γ0 i) w)) [d:Drops Γ (Γ0 i)]:HG B Γ (yh k):=fun w hw=>⟨_,⟨i,hw.drops⟩,h w hw⟩
theorem zTD {ι:Type} {Γ0:ι→List zC} {α:Type} {a:Addr} {c:α→Value} {x:α} {k:α→K} (h0:∀ i w,Holds B (Γ0 i) w→w.cell? a = some (c x)) (h:HG B Γ (k x)):HG B Γ (LdS (fun w=>∃ i,Holds B (Γ0 i) w) a c k):=fun w hw=>⟨x,fun w ⟨i,hi⟩=>h0 i w hi,h w hw⟩
theorem zcZ {ι:Type} {Γ0:ι→List zC} (i:ι) (h:HG B Γ k) [d:Drops Γ (Γ0 i)]:HG B Γ (Sv (fun w=>∃ i,Holds B (Γ0 i) w) k):=fun w hw=>⟨⟨i,hw.drops⟩,h w hw⟩
theorem zQS (a b c d:Int):zC5 a b c d = 0∨zC5 a b c d = 1∨zC5 a b c d = 2:=by
 unfold zC5
 split
 ·exact .inr (.inl rfl)
 ·split
  ·exact .inl rfl
  ·exact .inr (.inr rfl)
abbrev zJs (db:Nat) (d:DM):zC:=ex fun D:List (y7×Int)=>Sep.stars [pur ((∀ t,d t = decide (0 < (y8 t D).getD 0))∧(D.map Prod.fst).Nodup),xE (kyS qO) (Value.int .i64) db D]
theorem zQT {d:DM} (h:∀ D,(∀ t,d t = decide (0 < (y8 t D).getD 0))→(D.map Prod.fst).Nodup→HG B (xE (kyS qO) (Value.int .i64) db D::Γ) k):HG B (zJs db d::Γ) k :=
 zDI fun D=>zBr <| zGd fun ⟨h1,h2⟩=>h D h1 h2
theorem zNE {d:DM} {D:List (y7×Int)} (h1:∀ t,d t = decide (0 < (y8 t D).getD 0)) (h2:(D.map Prod.fst).Nodup) (h:HG B (zJs db d::Γ) k):HG B (xE (kyS qO) (Value.int .i64) db D::Γ) k:=fun w hw=>by
 refine h w ?_
 have h3:Holds B (Sep.stars [pur ((∀ t,d t = decide (0 < (y8 t D).getD 0))∧(D.map Prod.fst).Nodup),xE (kyS qO) (Value.int .i64) db D]::Γ) w:=Holds.flat.2 (Holds.pur.2 ⟨⟨h1,h2⟩,hw⟩)
 exact h3.imp fun g hg=>⟨D,hg⟩
abbrev zNF (gb:Nat) (ps:Sl) (L:List Claim):zC:=ex fun ls:Sl=>Sep.stars [blk gb (.cells [ls.val,ps.val].toArray zAi (0,0)),SlC qw 7 ls (L.flatMap clF)]
theorem zUu {gb:Nat} {ps:Sl} {L:List Claim} (h:∀ ls,HG B (blk gb (.cells [ls.val,ps.val].toArray zAi (0,0))::SlC qw 7 ls (L.flatMap clF)::Γ) k):HG B (zNF gb ps L::Γ) k :=
 zDI fun ls=>zBr (h ls)
theorem zR0 {gb:Nat} {ls ps:Sl} {L:List Claim} (h:HG B (zNF gb ps L::Γ) k):HG B (blk gb (.cells [ls.val,ps.val].toArray zAi (0,0))::SlC qw 7 ls (L.flatMap clF)::Γ) k :=
 zEQ (Δ:=[blk gb (.cells [ls.val,ps.val].toArray zAi (0,0)),SlC qw 7 ls (L.flatMap clF)]) (zSb (F:=fun ls:Sl=>Sep.stars [blk gb (.cells [ls.val,ps.val].toArray zAi (0,0)),SlC qw 7 ls (L.flatMap clF)]) ls h)
theorem zQU (r:Rec) (x:List Claim×DM) (c:Claim):(mvS r x c).1.length ≤ x.1.length + 1:=by
 unfold mvS
 repeat' split
 all_goals simp
theorem zR1 (r:Rec):∀ (L:List Claim) (x:List Claim×DM),(zBi (mvP r) (mvS r) x L).1.1.length ≤ x.1.length + L.length∧(zBi (mvP r) (mvS r) x L).2.length ≤ L.length
 | [],x=>by simp [zBi]
 | c::L,x=>by
  rw [zEB]
  have h1:=zR1 r L (mvS r x c)
  have h2:=zQU r x c
  refine ⟨by simp only [List.length_cons]; omega,?_⟩
  simp only
  split
  ·simp; omega
  ·simp; exact h1.2
theorem zZe {s:Sl} {fv:Value} {Q:Sl→K} (h:HG B Γ (zUe Tryz.prog zV.call qw zFj 0 7 [(.int .i64 0),(.int .u64 0),(.int .u64 0),(.int .i64 0),(.string ⟨#[]⟩),(.int .i64 0),(.int .u64 0)] s fv Q)):HG B Γ (zJ.call s fv Q):=fun w hw=>
 u7 _ _ _ _ (h w hw)
theorem zXv {key:List UInt8} {N:Nat} {Q:K} (hk:key.length < 1000000000) (hN:gsz M N) (hNl:N ≤ 1000000) (h:HG B (vX l (zCR n S key (M,dm)).1 (zCR n S key (M,dm)).2::zk st n S::Γ) Q) :
  HG B (vX l M dm::zk st n S::Γ) (qV.call (some ⟨l,0,none⟩) (some ⟨st,0,none⟩) (bs key) Q):=by
 refine fun w hw=>zHJ _ _ _ _ _ ?_
 refine hg hw ?_
 clear hw w
 unfold qV
 refine zH fun l3=>?_
 repeat refine zT ?_
 refine zO l ?_
 refine zUq fun gm db X D A g C hf hX=>?_
 have hat:=zai hX hf
 rw [zQR] at hat
 have hz:=zS9 (k:=key) hN
 rw [hat] at hz
 simp only at hz
 refine zO st ?_
 refine zAn (k:=bs key) (by show key.length < _; omega) fun s hok=>?_
 have hmv:zCR n S key (M,dm) = zCR n S key (M,dm):=rfl
 conv at hmv=>rhs; unfold zCR
 simp only [hat] at hmv
 rw [hmv] at h
 generalize zx n S (bs key) = r at *
 refine zH fun g6=>?_
 refine zH fun r7=>?_
 repeat refine zT ?_
 have hcl:∀ c:Claim,zC5 r.cnt c.2.cnt r.home c.2.home = zAV r c:=fun c=>rfl
 refine yS g.ls fun a1 a2 a3 a4=>?_
 refine yS g.ps fun b1 b2 b3 b4=>?_
 rw [zX _ 7 zFU] at a1 b1
 refine zO db ?_
 refine zNE (d:=zCb r (g.line.take 0) dm) hf.doom hf.nd ?_
 refine xW (α:=Int) (ι:=Nat) (fun x i=>x = (i:Int)∧i ≤ g.line.length)
  (fun x i=>zJs db (zCb r (g.line.take i) dm)::blk r7 (.cells (jh r s).toArray yc (0,0))::blk g6 (.cells [.pointer (some ⟨g.b,0,none⟩)].toArray jc (0,0))::blk l3 (.cells [.pointer (some ⟨l,0,none⟩)].toArray zD3 (0,0))::zk st n S::gL g (blk l (.cells [.map (some gm),.map (some db)].toArray jU (0,0))::xE qb gV gm X::Sep.stars ((A++C).map gB)::Γ)) (fun x i=>g.line.length - i) 0 ⟨rfl,Nat.zero_le _⟩ ?_ |> fun h=>zB h
 rintro k' _ i ⟨rfl,hi⟩ hk'
 unfold qV.b1
 refine zF (fun hb=>?_) fun hb=>?_
 ·have hil:i < g.line.length:=by simp only [decide_eq_true_eq] at hb; omega
  have hge:g.line[i]? = some g.line[i]:=List.getElem?_eq_getElem hil
  have htk:g.line.take (i + 1) = g.line.take i++[g.line[i]]:=List.take_succ_eq_append_getElem hil
  generalize g.line[i] = c at hge htk
  have hdm:zCb r (g.line.take (i + 1)) dm = if zAV r c ≠ 0 then zEh (zCb r (g.line.take i) dm) c.1 true else zCb r (g.line.take i) dm:=by
   rw [htk]; unfold zCb; rw [List.foldl_append]; rfl
  refine zAc clF zFU (fun w hw=>(yP (s:=g.ls) hw).1) hge ?_
  refine zH fun c9=>?_
  repeat refine zT ?_
  refine zS7 ?_
  rw [hcl]
  unfold qV.s2
  have h5:=hk' ((i:Int) + 1) (i + 1) ⟨by simp,hil⟩ (by omega)
  rw [hdm] at h5
  refine zF (fun h0=>?_) fun h0=>?_
  ·rw [if_pos (by simpa using h0)] at h5
   refine ze (zJs db (zCb r (g.line.take i) dm)) ?_
   refine zQT fun D1 hd1 hd2=>?_
   repeat refine zT ?_
   refine zQC (b:=db) (cel:=qO) (a:=c.1) (v:=1) zCQ rfl ?_ zRx
   refine zNE (zND hd1) (zTB hd2) ?_
   refine qB ?_
   exact zB h5
  ·rw [if_neg (by simpa using h0)] at h5
   refine qB ?_
   exact zB h5
 have hil:i = g.line.length:=by simp only [decide_eq_false_iff_not] at hb; omega
 rw [hil,List.take_length]
 clear hk' hb hi hil
 have hlen:=zR1 r g.park (g.line,zCb r g.line dm)
 refine vo ?_
 refine zcY (fun ls:Sl=>[blk g6 (.cells [.pointer (some ⟨g.b,0,none⟩)].toArray jc (0,0)),blk g.b (.cells [ls.val,g.ps.val].toArray zAi (0,0))]) g.ls ?_
 refine zTD (x:=some ⟨g.b,0,none⟩) (fun ls w hw=>vE (zA6 (b:=g6) hw) rfl) ?_
 refine zTD (x:=some ⟨g.b,0,none⟩) (fun ls w hw=>vE (zA6 (b:=g6) hw) rfl) ?_
 refine uP ?_
 refine zTD (x:=g.ps) (fun ls w hw=>?_) ?_
 ·rw [uT]
  exact vE (zA6 (b:=g.b) hw) rfl
 refine zw g.ls ?_
 refine zO g.b ?_
 refine zR0 ?_
 refine zZe ?_
 refine zO l3 ?_
 refine zO g6 ?_
 refine zO r7 ?_
 refine ze (zJs db (zCb r g.line dm)) ?_
 refine ze (zNF g.b g.ps g.line) ?_
 refine zw g.ps ?_
 refine zB (Δ:=SlC qw 7 g.ps (g.park.flatMap clF)::zNF g.b g.ps g.line::zJs db (zCb r g.line dm)::blk r7 (.cells (jh r s).toArray yc (0,0))::blk g6 (.cells [.pointer (some ⟨g.b,0,none⟩)].toArray jc (0,0))::blk l3 (.cells [.pointer (some ⟨l,0,none⟩)].toArray zD3 (0,0))::blk l (.cells [.map (some gm),.map (some db)].toArray jU (0,0))::zk st n S::xE qb gV gm X::Sep.stars ((A++C).map gB)::Γ) ?_
 refine zUf (γ:=List Claim×DM) (R:=fun x=>zNF g.b g.ps x.1::zJs db x.2::blk r7 (.cells (jh r s).toArray yc (0,0))::blk g6 (.cells [.pointer (some ⟨g.b,0,none⟩)].toArray jc (0,0))::blk l3 (.cells [.pointer (some ⟨l,0,none⟩)].toArray zD3 (0,0))::blk l (.cells [.map (some gm),.map (some db)].toArray jU (0,0))::zk st n S::xE qb gV gm X::Sep.stars ((A++C).map gB)::Γ)
  (L:=g.park) (f:=clF) (mvP r) (mvS r) (g.line,zCb r g.line dm) (fun x C=>x.1.length + C.length ≤ 2000000) (by simp only; omega) (fun x c C h=>by have:=zQU r x c; simp only [List.length_cons] at h; omega) (fun s fv Q w h=>vJ _ _ _ _ h) zFU (by omega) (fun _=>rfl) rfl (by omega) (fun Ξ x c C2 q hc hIx hq=>?_) (fun ps' _=>?_)
 ·refine zFC (cs:=[.pointer (some ⟨r7,0,none⟩),.pointer (some ⟨g6,0,none⟩),.pointer (some ⟨l3,0,none⟩)]) ?_
  refine fun w hw=>zGH _ _ _ _ _ _ ?_
  refine hg hw ?_
  clear hw w
  unfold qo
  refine zH fun c4=>?_
  repeat refine zT ?_
  refine zS7 ?_
  rw [hcl]
  have e1:mvP r x c = decide (zAV r c ≠ 1):=rfl
  rw [e1] at hq
  refine zF (fun h0=>?_) fun h0=>?_
  ·have h0':zAV r c = 0:=by simpa using h0
   rw [show mvS r x c = (x.1++[c],x.2) by unfold mvS; rw [if_pos h0']] at hq
   refine ze (zNF g.b g.ps x.1) ?_
   refine zUu fun ls=>?_
   refine yS ls fun d1 d2 d3 d4=>?_
   rw [zX _ 7 zFU] at d1
   refine vo ?_
   refine zBE [blk g.b (.cells [ls.val,g.ps.val].toArray zAi (0,0)),blk g6 (.cells [.pointer (some ⟨g.b,0,none⟩)].toArray jc (0,0)),blk c4 (.cells (clF c).toArray qw (0,0))] ?_
   repeat refine zT ?_
   refine zH fun t=>?_
   repeat refine zT ?_
   refine qN (s:=ls) (esz:=7) (us:=clF c) (jX rfl) (by intro v hv; exact zS8 [c] v (by simpa using hv)) (by simp only; omega) fun ls' _=>?_
   rw [show x.1.flatMap clF++clF c = (x.1++[c]).flatMap clF by simp only [List.flatMap_append,List.flatMap_cons,List.flatMap_nil,List.append_nil]]
   repeat refine zT ?_
   refine zw ls' ?_
   refine zO g.b ?_
   refine zR0 ?_
   unfold qo.s1
   exact zB hq
  ·have h0':¬ zAV r c = 0:=by simpa using h0
   refine zF (fun h2=>?_) fun h2=>?_
   ·have h2':zAV r c = 2:=by simpa using h2
    rw [show mvS r x c = (x.1,zEh x.2 c.1 true) by unfold mvS; rw [if_neg h0',if_pos h2']] at hq
    refine ze (zJs db x.2) ?_
    refine zQT fun D1 hd1 hd2=>?_
    repeat refine zT ?_
    refine zQC (b:=db) (cel:=qO) (a:=c.1) (v:=1) zCQ rfl ?_ zRx
    refine zNE (zND hd1) (zTB hd2) ?_
    unfold qo.s1
    exact zB hq
   ·have h2':¬ zAV r c = 2:=by simpa using h2
    rw [show mvS r x c = x by unfold mvS; rw [if_neg h0',if_neg h2']] at hq
    unfold qo.s1
    exact zB hq
 ·generalize (zBi (mvP r) (mvS r) (g.line,zCb r g.line dm) g.park) = y at *
  obtain ⟨⟨y1,y2⟩,y3⟩:=y
  simp only at h hlen ⊢
  refine ze (zNF g.b g.ps y1) ?_
  refine zUu fun ls'=>?_
  refine zcZ ls' ?_
  refine uP ?_
  repeat refine zT ?_
  refine ze (zJs db y2) ?_
  refine zQT fun D1 hd1 hd2=>?_
  refine zB (Δ:=gL ⟨g.b,ls',ps',y1,y3⟩ (zF2 l gm db X (A++C) D1 (zk st n S::Γ))) ?_
  exact zRz hX rfl hf ⟨hd1,hd2⟩ h
end
end
section
open Go Go.Sep Go.Sep.Bt
theorem zak {M:GM} {k:List UInt8} {T:Nat} (h:∀ p ∈ M,p.2.1.length + p.2.2.length ≤ T):(atM k M).1.length + (atM k M).2.length ≤ T:=by
 unfold atM
 rcases zFs k M with ⟨h1,_⟩ | ⟨j,v,_,h0,_,h1,_⟩
 ·rw [h1]; simp
 ·rw [h1]; exact h _ (List.mem_of_getElem? h0)
theorem zUv {M:GM} {k:List UInt8} {T:Nat} (h:∀ p ∈ M,p.2.1.length + p.2.2.length ≤ T):∀ p ∈ zAz k M,p.2.1.length + p.2.2.length ≤ T:=fun p hp=>by
 unfold zAz at hp
 split at hp
 ·rcases List.mem_append.1 hp with hp | hp
  ·exact h p hp
  ·rw [List.mem_singleton.1 hp]; simp
 ·exact h p hp
theorem zTE {M:GM} {k:List UInt8} {v:List Claim×List Claim} {T:Nat} (h:∀ p ∈ M,p.2.1.length + p.2.2.length ≤ T) (hv:v.1.length + v.2.length ≤ T):∀ p ∈ vS k v M,p.2.1.length + p.2.2.length ≤ T:=fun p hp=>by
 rcases zNB hp with rfl | hp
 ·exact hv
 ·exact h p hp
theorem zR2 {M:GM} {k:List UInt8}:(zAz k M).length ≤ M.length + 1:=by
 unfold zAz
 split <;> simp
theorem zUw {M:GM} {T T':Nat} (h:∀ p ∈ M,p.2.1.length + p.2.2.length ≤ T) (ht:T ≤ T'):∀ p ∈ M,p.2.1.length + p.2.2.length ≤ T':=fun p hp=>Nat.le_trans (h p hp) ht
theorem zXw {n:Nat} {S:zy} {tag:y7} {x:GM×DM} {m:zET} {T:Nat} (hl:x.1.length ≤ T) (h:∀ p ∈ x.1,p.2.1.length + p.2.2.length ≤ T):(zBP n S tag x m).1.length ≤ T + 1∧∀ p ∈ (zBP n S tag x m).1,p.2.1.length + p.2.2.length ≤ T + 1:=by
 have g1:(zAz m.key x.1).length ≤ T + 1:=Nat.le_trans zR2 (by omega)
 have g2:=zUw (zUv (k:=m.key) h) (Nat.le_succ T)
 have g3:=zak (k:=m.key) h
 unfold zBP
 split
 ·exact ⟨g1,g2⟩
 split
 ·exact ⟨by rw [zH2 zE5]; exact g1,zTE g2 (by simp only [List.length_append,List.length_cons,List.length_nil]; omega)⟩
 split
 ·exact ⟨by rw [zH2 zE5]; exact g1,zTE g2 (by simp only [List.length_append,List.length_cons,List.length_nil]; omega)⟩
 ·exact ⟨g1,g2⟩
theorem zOk {n:Nat} {S:zy} {tag:y7}:∀ (L:List zET) {x:GM×DM} {T:Nat},x.1.length ≤ T→(∀ p ∈ x.1,p.2.1.length + p.2.2.length ≤ T)→(zAh n S tag L x).1.length ≤ T + L.length∧∀ p ∈ (zAh n S tag L x).1,p.2.1.length + p.2.2.length ≤ T + L.length
 | [],x,T,h1,h2=>⟨h1,h2⟩
 | m::L,x,T,h1,h2=>by
  obtain ⟨a1,a2⟩:=zXw (n:=n) (S:=S) (tag:=tag) (m:=m) h1 h2
  obtain ⟨b1,b2⟩:=zOk (n:=n) (S:=S) (tag:=tag) L a1 a2
  rw [List.length_cons]
  exact ⟨by show (zAh n S tag L (zBP n S tag x m)).1.length ≤ _; omega,zUw (T:=T + 1 + L.length) b2 (by omega)⟩
theorem zR3 (r:Rec):∀ (L:List Claim) (x:List Claim×DM),(zBi (mvP r) (mvS r) x L).1.1.length + (zBi (mvP r) (mvS r) x L).2.length ≤ x.1.length + L.length
 | [],x=>by simp [zBi]
 | c::L,x=>by
  rw [zEB]
  have h1:=zR3 r L (mvS r x c)
  simp only [List.length_cons]
  by_cases h0:zAV r c = 1
  ·rw [show mvP r x c = false by simp [mvP,h0]]
   rw [show mvS r x c = x by simp [mvS,h0]] at h1 ⊢
   simp only [Bool.false_eq_true,if_false,List.length_cons]
   omega
  ·rw [show mvP r x c = true by simp [mvP,h0]]
   have h2:=zQU r x c
   simp only [if_true]
   omega
theorem zXx {n:Nat} {S:zy} {key:List UInt8} {x:GM×DM} {T:Nat} (hl:x.1.length ≤ T) (h:∀ p ∈ x.1,p.2.1.length + p.2.2.length ≤ T):(zCR n S key x).1.length ≤ T + 1∧∀ p ∈ (zCR n S key x).1,p.2.1.length + p.2.2.length ≤ T:=by
 have g1:(zAz key x.1).length ≤ T + 1:=Nat.le_trans zR2 (by omega)
 have g3:=zak (k:=key) h
 unfold zCR
 refine ⟨by simp only; rw [zH2 zE5]; exact g1,zTE (zUv h) ?_⟩
 have:=zR3 (zx n S (bs key)) (atM key x.1).2 ((atM key x.1).1,zCb (zx n S (bs key)) (atM key x.1).1 x.2)
 simp only at this ⊢
 omega
theorem zXy {tag:y7} {x:GM×DM} {T:Nat} (hl:x.1.length ≤ T) (h:∀ p ∈ x.1,p.2.1.length + p.2.2.length ≤ T):(vW tag x).1.length ≤ T∧∀ p ∈ (vW tag x).1,p.2.1.length + p.2.2.length ≤ T:=by
 refine ⟨by simpa [vW] using hl,fun p hp=>?_⟩
 obtain ⟨q,hq,rfl⟩:=List.mem_map.1 hp
 have h1:=h q hq
 have h2:(noT tag q.2.1).length ≤ q.2.1.length:=List.length_filter_le _ _
 have h3:(noT tag q.2.2).length ≤ q.2.2.length:=List.length_filter_le _ _
 simp only
 omega
end
section
open Go Go.Sep
def zNG (n:Nat):List UInt8:=if h:n < 128 then [u8 n] else u8 (n % 128 + 128)::zNG (n / 128)
termination_by n
decreasing_by omega
theorem zI0 {n:Nat} (h:n < 128):zNG n = [u8 n]:=by rw [zNG,dif_pos h]
theorem zR4 {n:Nat} (h:¬ n < 128):zNG n = u8 (n % 128 + 128)::zNG (n / 128):=by rw [zNG,dif_neg h]
theorem zHQ:∀ (k n:Nat),n < 128 ^ (k + 1)→(zNG n).length ≤ k + 1
 | 0,n,h=>by rw [zI0 (by omega)]; simp
 | k + 1,n,h=>by
  by_cases hn:n < 128
  ·rw [zI0 hn]; simp
  ·rw [zR4 hn]
   have:n / 128 < 128 ^ (k + 1):=Nat.div_lt_of_lt_mul (by rw [Nat.pow_succ] at h; omega)
   have:=zHQ k _ this
   simp only [List.length_cons]; omega
theorem zca (n:Nat):bitsOf .or .u8 (IntKind.wrap .u8 (n:Int)) 128 = ((u8 (n % 128 + 128)).toNat:Int):=by
 rw [zRk]
 unfold bitsOf
 simp only
 have key:∀ x:BitVec 8,(x ||| 128#8).toNat = x.toNat % 128 + 128:=by decide
 have h2:(BitVec.ofInt (IntKind.bits .u8) ((u8 n).toNat:Int) ||| BitVec.ofInt (IntKind.bits .u8) 128).toNat = (BitVec.ofInt (IntKind.bits .u8) ((u8 n).toNat:Int)).toNat % 128 + 128:=key (BitVec.ofInt 8 ((u8 n).toNat:Int))
 have h3:(BitVec.ofInt (IntKind.bits .u8) ((u8 n).toNat:Int)).toNat = (u8 n).toNat:=by
  show (BitVec.ofInt 8 ((u8 n).toNat:Int)).toNat = _
  rw [BitVec.ofInt_natCast,BitVec.toNat_ofNat,Nat.mod_eq_of_lt (by have:=(u8 n).toNat_lt; omega)]
 rw [h2,h3,zRk]
 simp only [u8N]
 omega
theorem zbV (n:Nat) (k:Nat) (hk:k < 64):zGv .u64 (n:Int) (k:Int) = ((n / 2 ^ k:Nat):Int):=by
 unfold zGv
 have:min ((k:Int).toNat) (IntKind.bits .u64) = k:=by simp [IntKind.bits]; omega
 rw [this,Int.fdiv_eq_ediv_of_nonneg _ (Int.le_of_lt (Int.pow_pos (by decide))),Int.natCast_ediv,Int.natCast_pow]
 rfl
end
section
open Go Go.Sep
abbrev opB (x:OpX):zC:=Bytes yK x.2 x.1.val
abbrev txC (t:TxX) (Γ:List zC):List zC:=SlS t.rs t.reads::SlS t.ws t.writes::SlC qj 4 t.os (t.ops.flatMap opF)::Sep.stars (t.ops.map opB)::Γ
abbrev zVq (a b:TxX):Prop:=zEk a b
section
variable {B:World} {Γ Δ:List zC} {k:K}
theorem zEE {α:Type} {F:α→zC} {l:List α} {x:α} {w:World} (hx:x ∈ l) (h:Holds B (Sep.stars (l.map F)::Γ) w):∃ Δ,Holds B (F x::Δ) w:=by
 obtain ⟨i,hi⟩:=List.getElem?_of_mem hx
 exact ⟨_,zSa i hi h⟩
theorem zQV {t:TxX} {w:World} (h:Holds B (txC t Γ) w):zCX w t :=
 ⟨(yP (s:=t.rs) h).1,(yP (s:=t.ws) h).1,(yP (s:=t.os) h).1,fun x hx=>by
  obtain ⟨Δ,hd⟩:=zEE (F:=opB) hx h.tail.tail.tail
  exact hd.rdC (E:=yK) List.mem_cons_self⟩
theorem zGC {E T esz:Nat} {us:List Value} {s:Sl} {Q:Sl→K} (hr:∀ w,Holds B Γ w→RdC w s esz us) (hfl:∀ u ∈ us,yu u = true) (hroom:us.length ≤ 100000000) (he:0 < esz) (h:∀ s',s'.n = s.n→HG B (SlC E esz s' us::Γ) (Q s')) (hT:zGf Tryz.prog T T E esz = true:=by kernel_rfl) :
  HG B Γ (Ite s.a.isNone (Q (Sl.mk none 0 0)) (New E #[] fun t5=>Do Tryz.prog (Builtin.append_ #[T,T] T #[Sl.val (Sl.mk (some t5) 0 0),s.val]) Sl.val fun t7=>Q t7)):=fun w hw=>by
 have hrw:=hr w hw
 have hl:=hrw.len
 have hsn:s.n ≤ us.length:=by rw [hl]; exact Nat.le_mul_of_pos_right _ he
 refine Sep.hg hw ?_
 clear hw
 refine zF (fun hb=>?_) fun hb=>?_
 ·have ha:s.a = none:=by cases hs:s.a with
   | none=>rfl
   | some a=>rw [hs] at hb; cases hb
  have hn:s.n = 0:=hrw.nil ha
  have hus:us = []:=List.length_eq_zero_iff.1 (by rw [hl,hn,Nat.zero_mul])
  refine fun w2 hw2=>h ⟨none,0,0⟩ hn.symm w2 ?_
  rw [hus]
  exact hw2.zAm E esz
 ·refine zH fun t5=>?_
  refine jy (A':=SlC E esz ⟨some ⟨t5,0,none⟩,0,0⟩ []) (zAB (vs:=[]) rfl (by simp)) ?_
  refine qN (s:=⟨some ⟨t5,0,none⟩,0,0⟩) (us:=us) (fun w hw=>hr w hw.drops) hfl (by simp only; omega) (hT:=hT) fun s' hs'=>?_
  exact h s' (by simp only at hs'; omega)
theorem zVr {s:Sl} {xs:List UInt8} {Q:Sl→K} (hr:∀ w,Holds B Γ w→RdB w s xs) (hl:xs.length ≤ 90000000) (h:∀ s',HG B (Bytes yK s' xs::Γ) (Q s')):HG B Γ (vK.call s Q):=fun w hw=>by
 refine zG7 _ _ _ ?_
 refine Sep.hg hw ?_
 clear hw w
 unfold vK
 exact zGC (us:=xs.map ji) hr (zFA _) (by rw [List.length_map]; omega) (by omega) fun s' _=>h s'
theorem zOl {s:Sl} {L:List TX} {Q:Sl→K} (hr:∀ w,Holds B Γ w→RdC w s 1 (L.map qb)) (hl:L.length ≤ 90000000) (h:∀ s',HG B (SlS s' L::Γ) (Q s')):HG B Γ (xA.call s Q):=fun w hw=>by
 refine zDu _ _ _ ?_
 refine Sep.hg hw ?_
 clear hw w
 unfold xA
 exact zGC (us:=L.map qb) hr (fun v hv=>by obtain ⟨y,_,rfl⟩:=List.mem_map.1 hv; rfl) (by rw [List.length_map]; omega) (by omega) fun s' _=>h s'
theorem zXz (L:List OpX):∀ v ∈ L.flatMap opF,yu v = true:=fun v hv=>by
 obtain ⟨x,_,hx⟩:=List.mem_flatMap.1 hv
 simp only [opF,List.mem_cons,List.not_mem_nil,or_false] at hx
 rcases hx with rfl | rfl | rfl | rfl <;> rfl
theorem zVs {s:Sl} {L:List OpX} {Q:Sl→K} (hr:∀ w,Holds B Γ w→RdC w s 4 (L.flatMap opF)) (hl:L.length ≤ 20000000) (h:∀ s',HG B (SlC qj 4 s' (L.flatMap opF)::Γ) (Q s')):HG B Γ (xw.call s Q):=fun w hw=>by
 refine zDv _ _ _ ?_
 refine Sep.hg hw ?_
 clear hw w
 unfold xw
 exact zGC (us:=L.flatMap opF) hr (zXz L) (by rw [zX _ 4 zBF]; omega) (by omega) fun s' _=>h s'
theorem zId {α:Type} {f:α→List Value} {esz:Nat} (hf:∀ x,(f x).length = esz):∀ {L:List α} {i off:Nat} {x y:α} {v:Value},L[i]? = some x→off < esz→(f x).set off v = f y→(L.flatMap f).set (i * esz + off) v = (L.set i y).flatMap f
 | [],i,off,x,y,v,hx,_,_=>by simp at hx
 | z::L,0,off,x,y,v,hx,ho,hy=>by
  have hzx:z = x:=by simpa using hx
  subst hzx
  rw [Nat.zero_mul,Nat.zero_add,List.flatMap_cons,List.set_cons_zero,List.flatMap_cons,List.set_append_left _ _ (by rw [hf]; exact ho),hy]
 | z::L,i + 1,off,x,y,v,hx,ho,hy=>by
  have ih:=zId hf (L:=L) (i:=i) (by simpa using hx) ho hy
  rw [List.flatMap_cons,List.set_cons_succ,List.flatMap_cons,← ih,List.set_append_right _ _ (by rw [hf,Nat.succ_mul]; omega),hf]
  congr 2
  rw [Nat.succ_mul]; omega
theorem zUx {t:TxX} {Q:Array Value→K} (hr:∀ w,Holds B Γ w→zCX w t) (hl:t.reads.length ≤ 1000∧t.writes.length ≤ 1000∧t.ops.length ≤ 1000∧∀ x ∈ t.ops,x.1.val.length ≤ 1000000) (h:∀ t',zVq t' t→HG B (txC t' Γ) (Q (txL t').toArray)):HG B Γ (zBe.call (txL t).toArray Q):=fun w hw=>by
 refine zQI _ _ _ ?_
 refine Sep.hg hw ?_
 clear hw w
 obtain ⟨hl1,hl2,hl3,hl4⟩:=hl
 unfold zBe
 refine zH fun t1=>?_
 refine zH fun t2=>?_
 repeat refine zT ?_
 refine zOl (fun w hw=>(hr w hw.drops).1) (by omega) fun rs=>?_
 refine zBC ?_
 refine zOl (fun w hw=>(hr w hw.drops).2.1) (by omega) fun ws=>?_
 refine zBC ?_
 refine zVs (fun w hw=>(hr w hw.drops).2.2.1) (by omega) fun os=>?_
 repeat refine zT ?_
 refine fun w hw=>Sep.hg (show Holds B (Sep.stars (([]:List OpX).map opB)::_) w from hw.zCn) ?_
 clear hw w
 refine yS os fun a1 a2 a3 a4=>?_
 rw [zX _ 4 zBF] at a1
 refine zB (Δ:=SlC qj 4 os (t.ops.flatMap opF)::Sep.stars (([]:List OpX).map opB)::blk t1 (.cells [.int .i64 t.kind,rs.val,ws.val,os.val,.int .i64 t.to].toArray yU (0,0))::blk t2 (.cells [.int .i64 0,Sl.val ⟨none,0,0⟩,Sl.val ⟨none,0,0⟩,Sl.val ⟨none,0,0⟩,.int .i64 0].toArray yU (0,0))::SlS ws t.writes::SlS rs t.reads::Γ) ?_
 refine xW (α:=Int) (ι:=Nat×List OpX) (fun x i=>x = (i.1:Int)∧i.1 ≤ t.ops.length∧i.2.map Prod.fst = t.ops.map Prod.fst∧i.2.drop i.1 = t.ops.drop i.1)
  (fun x i=>SlC qj 4 os (i.2.flatMap opF)::Sep.stars ((i.2.take i.1).map opB)::blk t1 (.cells [.int .i64 t.kind,rs.val,ws.val,os.val,.int .i64 t.to].toArray yU (0,0))::blk t2 (.cells [.int .i64 0,Sl.val ⟨none,0,0⟩,Sl.val ⟨none,0,0⟩,Sl.val ⟨none,0,0⟩,.int .i64 0].toArray yU (0,0))::SlS ws t.writes::SlS rs t.reads::Γ)
  (fun x i=>t.ops.length - i.1) (0,t.ops) ⟨rfl,Nat.zero_le _,rfl,rfl⟩ ?_
 rintro k' _ ⟨i,L⟩ ⟨rfl,hi,hm,hd⟩ hk'
 simp only at hi hm hd hk' ⊢
 have hLl:L.length = t.ops.length:=by have:=congrArg List.length hm; simpa using this
 unfold zBe.b1
 refine zF (fun hb=>?_) fun hb=>?_
 ·have hil:i < t.ops.length:=by simp only [decide_eq_true_eq] at hb; omega
  have hge:L[i]? = some t.ops[i]:=by
   have:=congrArg (·[0]?) hd
   simp only [List.getElem?_drop,Nat.add_zero] at this
   rw [this,List.getElem?_eq_getElem hil]
  have hmem:t.ops[i] ∈ t.ops:=List.getElem_mem hil
  generalize t.ops[i] = x at hge hmem
  have hvl:=hl4 x hmem
  refine zAc opF zBF (fun w hw=>(yP (s:=os) hw).1) hge ?_
  refine zH fun o4=>?_
  repeat refine zT ?_
  refine zVr (xs:=x.1.val) (fun w hw=>(hr w hw.drops).2.2.2 x hmem) (by omega) fun vs=>?_
  repeat refine zT ?_
  refine vg (s:=os) (i:=i) ?_
  refine zMV (s:=os) ?_ (by rw [zX _ 4 zBF]; omega)
  rw [zId (y:=((x.1,vs):OpX)) zBF hge (by omega) rfl]
  refine qB ?_
  have hA:(L.set i (x.1,vs)).map Prod.fst = t.ops.map Prod.fst:=by
   rw [← hm,List.map_set]
   refine List.ext_getElem? fun j=>?_
   rw [List.getElem?_set]
   split
   ·rename_i hij
    subst hij
    split
    ·simp [hge]
    ·rename_i hj; simp only [List.length_map] at hj; omega
   ·rfl
  have hB:(L.set i (x.1,vs)).drop (i + 1) = t.ops.drop (i + 1):=by
   rw [List.drop_set_of_lt (by omega),← List.drop_drop,hd,List.drop_drop]
  have h:=hk' ((i:Int) + 1) (i + 1,L.set i (x.1,vs)) ⟨by simp,hil,hA,hB⟩ (by simp only; omega)
  have ht:(L.set i (x.1,vs)).take (i + 1) = L.take i++[((x.1,vs):OpX)]:=by
   have hx:(L.set i (x.1,vs))[i]? = some (x.1,vs):=by rw [List.getElem?_set_self (by omega)]
   rw [List.take_add_one,hx,List.take_set_of_le (Nat.le_refl _)]
   rfl
  simp only at h
  rw [ht] at h
  have:=zAb (F:=opB) (A:=L.take i) (C:=[]) (x:=((x.1,vs):OpX)) (Γ:=SlC qj 4 os ((L.set i (x.1,vs)).flatMap opF)::blk t1 (.cells [.int .i64 t.kind,rs.val,ws.val,os.val,.int .i64 t.to].toArray yU (0,0))::blk t2 (.cells [.int .i64 0,Sl.val ⟨none,0,0⟩,Sl.val ⟨none,0,0⟩,Sl.val ⟨none,0,0⟩,.int .i64 0].toArray yU (0,0))::SlS ws t.writes::SlS rs t.reads::Γ) (zB h)
  rw [List.append_nil] at this
  exact zB this
 ·have hil:i = t.ops.length:=by simp only [decide_eq_false_iff_not] at hb; omega
  rw [hil,← hLl,List.take_length]
  repeat refine zT ?_
  have:=h ⟨t.kind,t.reads,t.writes,L,t.to,rs,ws,os⟩ ⟨rfl,rfl,rfl,rfl,hm⟩
  exact zB this
theorem zQW {t:TxX} {Q:Sl→K} (hr1:∀ w,Holds B Γ w→RdC w t.rs 1 (t.reads.map qb)) (hr2:∀ w,Holds B Γ w→RdC w t.ws 1 (t.writes.map qb)) (hl:t.reads.length ≤ 400000) (hl2:t.writes.length ≤ 400000) (h:∀ s,HG B (SlS s (xq (t.reads++t.writes))::Γ) (Q s)):HG B Γ (zDM.call (txL t).toArray Q):=fun w hw=>by
 refine zQJ _ _ _ ?_
 refine Sep.hg hw ?_
 clear hw w
 unfold zDM
 refine zH fun t1=>?_
 repeat refine zT ?_
 refine zH fun t8=>?_
 refine zSw (La:=t.reads) (Lb:=t.writes) (by omega) (by omega) (fun w hw=>hr1 w hw.drops) (fun w hw=>hr2 w hw.drops) fun s=>?_
 have hln:(t.reads++t.writes).length = t.reads.length + t.writes.length:=List.length_append
 refine fun w hw=>zFx (by omega) hw fun w hw=>?_
 refine Sep.hg hw ?_
 clear hw w
 refine zSv (by rw [zOS]; omega) fun s'=>?_
 have:=h s'
 unfold xq at this
 exact zB this
end
end
section
open Go Go.Sep
def zIN (p:Nat) (xs:List UInt8):zC:=ex fun s:Sl=>Sep.stars [blk p (.cells [s.val].toArray zEN (0,0)),SlC yK 1 s (xs.map ji)]
section
variable {B:World} {Γ Δ:List zC} {p:Nat} {xs:List UInt8} {k Q:K}
theorem zUy (h:∀ s,HG B (blk p (.cells [s.val].toArray zEN (0,0))::SlC yK 1 s (xs.map ji)::Γ) k):HG B (zIN p xs::Γ) k:=zDI fun s=>zBr (h s)
theorem zJt {s:Sl} (h:HG B (zIN p xs::Γ) k):HG B (blk p (.cells [s.val].toArray zEN (0,0))::SlC yK 1 s (xs.map ji)::Γ) k:=fun w hw=>by
 refine h w ?_
 have h3:Holds B (Sep.stars [blk p (.cells [s.val].toArray zEN (0,0)),SlC yK 1 s (xs.map ji)]::Γ) w:=Holds.flat.2 hw
 exact h3.imp fun g hg=>⟨s,hg⟩
instance (priority:=high) zc1:Sep.Own p (zIN p xs::Γ) (zIN p xs) Γ:=⟨.refl _⟩
theorem zVt {q0:Addr→K} (h:∀ p,HG B (zIN p []::Γ) (q0 ⟨p,0,none⟩)):HG B Γ (New zEN #[Sl.val ⟨none,0,0⟩] q0):=by
 refine zH fun p=>?_
 refine fun w hw=>?_
 refine hg (show Holds B (SlC yK 1 ⟨none,0,0⟩ (([]:List UInt8).map ji)::_) w from hw.zAm _ _) ?_
 refine zDZ ?_
 exact zJt (h p)
theorem zX0 {n:Nat} (hn:n < 1180591620717411303424) (hx:xs.length ≤ 50000000) (h:HG B (zIN p (xs++zNG n)::Γ) Q):HG B (zIN p xs::Γ) (xV.call (some ⟨p,0,none⟩) (n:Int) Q):=by
 refine fun w hw=>zLL _ _ _ _ ?_
 refine hg hw ?_
 clear hw w
 have hnl:=zHQ 9 n (by simpa using hn)
 unfold xV
 refine xW (α:=Int) (ι:=Nat×List UInt8) (fun x i=>x = (i.1:Int)∧i.2++zNG i.1 = xs++zNG n) (fun x i=>zIN p i.2::Γ) (fun x i=>i.1) (n,xs) ⟨rfl,rfl⟩ ?_
 rintro k' _ ⟨m,ys⟩ ⟨rfl,he⟩ hk'
 simp only at he hk' ⊢
 have hyl:ys.length ≤ 50000010:=by have:=congrArg List.length he; simp only [List.length_append] at this; omega
 unfold xV.b1
 refine zF (fun hb=>?_) fun hb=>?_
 ·have hm:¬ m < 128:=by simp only [decide_eq_true_eq] at hb; omega
  refine uP ?_
  refine zUy fun s=>?_
  refine yS s fun a1 a2 a3 a4=>?_
  simp only [List.length_map] at a1
  repeat refine zT ?_
  refine zAW rfl ?_
  refine zAW (zca m) ?_
  refine zH fun t16=>?_
  refine qN (s:=s) (esz:=1) (us:=[ji (u8 (m % 128 + 128))]) (jX rfl) (by simp [ji,yu]) (by simp only; omega) fun s2 _=>?_
  rw [show ys.map ji++[ji (u8 (m % 128 + 128))] = (ys++[u8 (m % 128 + 128)]).map ji by simp]
  repeat refine zT ?_
  refine zPo (by decide) ?_
  refine zAW (zbV m 7 (by decide)) ?_
  refine zw s2 ?_
  refine zO p ?_
  refine zJt ?_
  refine zB (hk' ((m / 2 ^ 7:Nat):Int) (m / 2 ^ 7,ys++[u8 (m % 128 + 128)]) ⟨rfl,?_⟩ (by simp only; omega))
  simp only
  rw [← he,zR4 hm]; simp
 ·have hm:m < 128:=by simp only [decide_eq_false_iff_not] at hb; omega
  refine uP ?_
  refine zUy fun s=>?_
  refine yS s fun a1 a2 a3 a4=>?_
  simp only [List.length_map] at a1
  repeat refine zT ?_
  refine zAW (zRk m) ?_
  refine zH fun t16=>?_
  refine qN (s:=s) (esz:=1) (us:=[ji (u8 m)]) (jX rfl) (by simp [ji,yu]) (by simp only; omega) fun s2 _=>?_
  rw [show ys.map ji++[ji (u8 m)] = (ys++[u8 m]).map ji by simp]
  repeat refine zT ?_
  refine zw s2 ?_
  refine zO p ?_
  refine zJt ?_
  rw [← zI0 hm,he]
  exact zB h
theorem zZf {b:Sl} {ys:List UInt8} (hr:∀ w,Holds B Γ w→RdB w b ys) (hy:ys.length ≤ 10000000) (hx:xs.length ≤ 10000000) (h:HG B (zIN p (xs++zNG ys.length++ys)::Γ) Q):HG B (zIN p xs::Γ) (j6.call (some ⟨p,0,none⟩) b Q):=by
 refine fun w hw=>zKQ _ _ _ _ ?_
 have hbn:b.n = ys.length:=by have:=(hr w hw.drops).len; simpa using this.symm
 refine hg hw ?_
 clear hw w
 have hnl:=zHQ 9 ys.length (by simp; omega)
 unfold j6
 refine zAW (zA0 (by omega) (by omega)) ?_
 rw [hbn]
 refine zX0 (by omega) (by omega) ?_
 refine uP ?_
 refine zUy fun s=>?_
 refine yS s fun a1 a2 a3 a4=>?_
 simp only [List.length_map,List.length_append] at a1
 repeat refine zT ?_
 refine qN (s:=s) (esz:=1) (us:=ys.map ji) (fun w hw=>hr w hw.drops) (zFA _) (by omega) fun s2 _=>?_
 rw [← List.map_append]
 repeat refine zT ?_
 refine zw s2 ?_
 refine zO p ?_
 refine zJt ?_
 exact zB h
theorem zZg {q:Sl→K} (hx:xs.length ≤ 50000000) (h:∀ s,HG B (SlC yK 1 s (xs.map ji)::zIN p xs::Γ) (q s)):HG B (zIN p xs::Γ) (zBw.call (some ⟨p,0,none⟩) q):=by
 refine fun w hw=>zKP _ _ _ ?_
 refine hg hw ?_
 clear hw w
 unfold zBw
 refine uP ?_
 refine zUy fun s=>?_
 repeat refine zT ?_
 refine fun w hw=>zEv _ _ _ ?_
 refine hg hw ?_
 clear hw w
 unfold uy
 refine zGC (us:=xs.map ji) (fun w hw=>(yP (s:=s) hw).1) (zFA _) (by simp; omega) (by omega) fun s2 _=>?_
 refine zw s ?_
 refine zO p ?_
 refine zJt ?_
 exact zB (h s2)
end
end
section
open Go Go.Sep
def zNH (t:TxX) (o:OpM):Bool :=
 if 32 < o.val.length∨(o.n ≠ 0∧o.kind ≠ 6) then false
 else if o.kind = 2 then decide (o.key ∈ t.writes)
 else if o.kind = 3∨o.kind = 6 then decide (o.key ∈ t.writes) && decide (o.val.length = 0)
 else if o.kind = 4 then decide (o.key ∈ t.reads++t.writes)
 else if o.kind = 1∨o.kind = 5 then decide (o.key ∈ t.reads++t.writes) && decide (o.val.length = 0)
 else if o.kind = 7 then decide (o.key = [])
 else false
theorem zVu (t:TxX) (o:OpM):zNH t o = vZ t o:=by
 unfold zNH vZ
 by_cases h1:32 < o.val.length
 ·simp [h1]
 simp only [h1,false_or]
 by_cases hw:o.key ∈ t.writes <;> by_cases hr:o.key ∈ t.reads <;> by_cases hn:o.n = 0 <;> by_cases hv:o.val.length = 0 <;>
  (by_cases k1:o.kind = 1
   ·simp [k1,hw,hr,hn,hv]
   by_cases k2:o.kind = 2
   ·simp [k2,hw,hr,hn,hv]
   by_cases k3:o.kind = 3
   ·simp [k3,hw,hr,hn,hv]
   by_cases k4:o.kind = 4
   ·simp [k4,hw,hr,hn,hv]
   by_cases k5:o.kind = 5
   ·simp [k5,hw,hr,hn,hv]
   by_cases k6:o.kind = 6
   ·simp [k6,hw,hr,hn,hv]
   by_cases k7:o.kind = 7
   ·simp [k7,hw,hr,hn,hv]
   have k8:o.kind < 1∨7 < o.kind:=by omega
   simp [k1,k2,k3,k4,k5,k6,k7,k8])
abbrev zK7 (k:TX):Prop:=1 ≤ k.length∧k.length ≤ 16
abbrev zQX (t:TxX):Prop:=t.reads.length ≤ 8∧t.writes.length ≤ 8 - t.reads.length∧(zDl t.reads∧∀ k ∈ t.reads,zK7 k)∧(zDl t.writes∧∀ k ∈ t.writes,zK7 k)∧∀ k ∈ t.reads,k ∉ t.writes
theorem zX1 {n:Int} {t:TxX} (h1:1 ≤ n) (h3:n ≤ 3):zQX t ↔ ¬ zAg n t∧¬ zGK t:=by
 constructor
 ·rintro ⟨a1,a2,⟨a3,a4⟩,⟨a5,a6⟩,a7⟩
  refine ⟨?_,?_⟩
  ·rintro (h | h | h | h | h | h | h)
   ·omega
   ·omega
   ·exact h a3
   ·exact h a5
   ·omega
   ·omega
   ·omega
  ·rintro (⟨k,hk,h⟩ | ⟨k,hk,h⟩)
   ·rcases List.mem_append.1 hk with hk | hk
    ·have:=a4 k hk; omega
    ·have:=a6 k hk; omega
   ·exact a7 k hk h
 ·rintro ⟨h,g⟩
  simp only [zAg,not_or,Classical.not_not] at h
  obtain ⟨_,_,b1,b2,b3,b4,b5⟩:=h
  refine ⟨by omega,by omega,⟨b1,fun k hk=>?_⟩,⟨b2,fun k hk=>?_⟩,fun k hk hw=>g (.inr ⟨k,hk,hw⟩)⟩
  ·have h6:¬ (k.length < 1∨16 < k.length):=fun h=>g (.inl ⟨k,List.mem_append_left _ hk,h⟩)
   exact ⟨by omega,by omega⟩
  ·have h6:¬ (k.length < 1∨16 < k.length):=fun h=>g (.inl ⟨k,List.mem_append_right _ hk,h⟩)
   exact ⟨by omega,by omega⟩
section
variable {B:World} {Γ Δ:List zC} {k:K}
theorem zHR {s:Sl} {L:List TX} {key:TX} {Q:Bool→K} (hL:L.length < 100000000) (hr:∀ w,Holds B Γ w→RdC w s 1 (L.map qb)) (h:HG B Γ (Q (decide (key ∈ L)))):HG B Γ (qD.call s (bs key) Q):=fun w hw=>by
 refine zDK _ _ _ _ ?_
 have hn:s.n = L.length:=by have:=(hr w hw).len; simpa using this.symm
 refine Sep.hg hw ?_
 clear hw w
 unfold qD
 refine fun w hw=>zDw _ _ _ _ ?_
 refine Sep.hg hw ?_
 clear hw w
 unfold qF
 refine zAP (α:=Int) (fun x=>∃ i:Nat,x = (i:Int)∧i ≤ L.length∧key ∉ L.take i) (fun x=>L.length - x.toNat) ⟨0,rfl,Nat.zero_le _,by simp⟩ fun k' x hx hk'=>?_
 obtain ⟨i,rfl,hi,hno⟩:=hx
 unfold qF.b1
 refine zF (fun hb=>?_) fun hb=>?_
 ·have hil:i < L.length:=by simp only [decide_eq_true_eq] at hb; omega
  have hge:L[i]? = some L[i]:=List.getElem?_eq_getElem hil
  have hmem:L[i] ∈ L:=List.getElem_mem hil
  have htk:L.take (i + 1) = L.take i++[L[i]]:=List.take_succ_eq_append_getElem hil
  generalize L[i] = x at hge hmem htk
  refine jY hr hge ?_
  rw [xY,xY]
  refine zF (fun he=>?_) fun he=>?_
  ·have he':key = x:=by simpa using he
   rw [show decide (key ∈ L) = true from decide_eq_true (by rw [he']; exact hmem)] at h
   show HG B Γ (Q (decide ((0:Int) ≤ (i:Int))))
   rw [show decide ((0:Int) ≤ (i:Int)) = true by simp]
   exact h
  ·have he':¬ key = x:=by simpa using he
   refine qB ?_
   refine hk' _ ⟨i + 1,by simp,hil,?_⟩ (by omega)
   rw [htk]
   simp only [List.mem_append,List.mem_singleton,not_or]
   exact ⟨hno,he'⟩
 ·have hil:i = L.length:=by simp only [decide_eq_false_iff_not] at hb; omega
  rw [hil,List.take_length] at hno
  rw [show decide (key ∈ L) = false from decide_eq_false hno] at h
  show HG B Γ (Q (decide ((0:Int) ≤ -1)))
  rw [show decide ((0:Int) ≤ -1) = false by decide]
  exact h
theorem zR5 {s:Sl} {L:List TX} {Q:Bool→K} (hL:L.length < 1000000000) (hr:∀ w,Holds B Γ w→RdC w s 1 (L.map qb)) (h:HG B Γ (Q (decide (zDl L∧∀ k ∈ L,zK7 k)))):HG B Γ (vH.call s Q):=fun w hw=>by
 refine zNq _ _ _ ?_
 have hn:s.n = L.length:=by have:=(hr w hw).len; simpa using this.symm
 refine Sep.hg hw ?_
 clear hw w
 unfold vH
 refine zAP (α:=Int) (fun x=>∃ i:Nat,x = (i:Int)∧i ≤ L.length∧zDl (L.take i)∧∀ k ∈ L.take i,zK7 k) (fun x=>L.length - x.toNat) ⟨0,rfl,Nat.zero_le _,by simp,by simp⟩ fun k' x hx hk'=>?_
 obtain ⟨i,rfl,hi,hp,hks⟩:=hx
 unfold vH.b1
 refine zF (fun hb=>?_) fun hb=>?_
 ·have hil:i < L.length:=by simp only [decide_eq_true_eq] at hb; omega
  have g2:L[i]? = some L[i]:=List.getElem?_eq_getElem hil
  have t2:L.take (i + 1) = L.take i++[L[i]]:=List.take_succ_eq_append_getElem hil
  have m2:L[i] ∈ L:=List.getElem_mem hil
  have hpi:∀ j x,L[j]? = some x→j < i→zDl L→x < L[i]:=fun j x hx hj h=>by
   obtain ⟨h1,rfl⟩:=List.getElem?_eq_some_iff.1 hx
   exact (List.pairwise_iff_getElem.1 h) j i h1 hil hj
  generalize L[i] = y at g2 t2 m2 hpi
  have hsz:(bs y).size = y.length:=rfl
  have no:¬ (zDl L∧∀ k ∈ L,zK7 k)→HG B Γ (vH.s2 Q k' s s (s.n:Int) (i:Int) true):=fun hn=>by
   rw [decide_eq_false hn] at h
   unfold vH.s2
   exact s_t h
  refine jY hr g2 ?_
  rw [xY]
  refine zF (fun hc=>?_) fun hc=>?_
  ·refine no fun hh=>?_
   have:y = []:=by simpa using hc
   have:=(hh.2 y m2).1
   simp_all
  have hy1:1 ≤ y.length:=by
   have:y ≠ []:=by simpa using hc
   exact List.length_pos_iff.2 this
  refine zF (fun hd=>?_) fun hd=>?_
  ·refine no fun hh=>?_
   have:=(hh.2 y m2).2
   simp only [decide_eq_true_eq] at hd; omega
  have hy16:y.length ≤ 16:=by simp only [decide_eq_false_iff_not] at hd; omega
  have yes:zDl (L.take (i + 1))→HG B Γ (vH.s2 Q k' s s (s.n:Int) (i:Int) false):=fun hp2=>by
   unfold vH.s2
   refine s_f ?_
   refine qB ?_
   refine hk' _ ⟨i + 1,by simp,hil,hp2,fun k hk=>?_⟩ (by omega)
   rw [t2] at hk
   rcases List.mem_append.1 hk with hk | hk
   ·exact hks k hk
   ·rw [List.mem_singleton.1 hk]; exact ⟨hy1,hy16⟩
  refine zF (fun he=>?_) fun he=>?_
  ·obtain ⟨j,rfl⟩:∃ j,i = j + 1:=⟨i - 1,by simp only [decide_eq_true_eq] at he; omega⟩
   have g1:L[j]? = some L[j]:=List.getElem?_eq_getElem (by omega)
   have t1:L.take (j + 1) = L.take j++[L[j]]:=List.take_succ_eq_append_getElem (by omega)
   have hxy:=hpi j _ g1 (by omega)
   generalize L[j] = x at g1 t1 hxy
   refine qB ?_
   refine jY hr g1 ?_ (by omega)
   rw [xY,zBx]
   by_cases hlt:x < y
   ·rw [decide_eq_true hlt]
    refine yes ?_
    rw [t2]
    refine List.pairwise_append.2 ⟨hp,List.pairwise_singleton _ _,fun a ha b hb=>?_⟩
    rw [List.mem_singleton.1 hb]
    rw [t1] at ha hp
    rcases List.mem_append.1 ha with ha | ha
    ·exact List.lt_trans ((List.pairwise_append.1 hp).2.2 a ha x (by simp)) hlt
    ·rw [List.mem_singleton.1 ha]; exact hlt
   ·rw [decide_eq_false hlt]
    exact no fun hh=>hlt (hxy hh.1)
  ·have hi0:i = 0:=by simp only [decide_eq_false_iff_not] at he; omega
   subst hi0
   refine yes ?_
   rw [t2]; simp
 ·have hil:i = L.length:=by simp only [decide_eq_false_iff_not] at hb; omega
  rw [hil,List.take_length] at hp hks
  rw [decide_eq_true (show zDl L∧∀ k ∈ L,zK7 k from ⟨hp,hks⟩)] at h
  exact h
theorem zZh {t:TxX} {x:OpX} {Q:Bool→K} (hr:∀ w,Holds B Γ w→zCX w t) (hl:t.reads.length < 10000000∧t.writes.length < 10000000) (hx:∀ w,Holds B Γ w→RdB w x.2 x.1.val) (h:HG B Γ (Q (vZ t x.1))):HG B Γ (yg.call (txL t).toArray (opF x).toArray Q):=fun w hw=>by
 refine zQK _ _ _ _ ?_
 have hxl:x.2.n = x.1.val.length:=by have:=(hx w hw).len; simpa using this.symm
 refine Sep.hg hw ?_
 clear hw w
 unfold yg
 refine zH fun t2=>?_
 refine zH fun o3=>?_
 have fin:HG B (blk o3 (.cells (opF x).toArray qj (0,0))::blk t2 (.cells (txL t).toArray yU (0,0))::Γ) (Q (zNH t x.1)):=by rw [zVu]; exact zB h
 generalize hR:zNH t x.1 = R at fin
 unfold zNH at hR
 have hlen:decide ((x.2.n:Int) = 0) = decide (x.1.val.length = 0):=decide_eq_decide.2 (by omega)
 have S2:∀ w k:Bool,w = decide (x.1.key ∈ t.writes)→k = decide (x.1.key ∈ t.reads++t.writes)→¬ (32 < x.1.val.length∨(x.1.n ≠ 0∧x.1.kind ≠ 6))→HG B (blk o3 (.cells (opF x).toArray qj (0,0))::blk t2 (.cells (txL t).toArray yU (0,0))::Γ) (yg.s2 Q ⟨o3,0,none⟩ w k):=fun w k hw hk hn=>by
  rw [if_neg hn,← hw,← hk] at hR
  unfold yg.s2
  repeat refine zT ?_
  refine zF (fun h2=>?_) fun h2=>?_
  ·rw [if_pos (by simpa using h2)] at hR
   rw [hR]; exact fin
  have h2':¬ x.1.kind = 2:=by simpa using h2
  rw [if_neg h2'] at hR
  have S3t:x.1.kind = 3∨x.1.kind = 6→HG B (blk o3 (.cells (opF x).toArray qj (0,0))::blk t2 (.cells (txL t).toArray yU (0,0))::Γ) (yg.s3 Q ⟨o3,0,none⟩ w k x.1.kind true):=fun h36=>by
   rw [if_pos h36] at hR
   unfold yg.s3 yg.s4
   refine s_t ?_
   refine zF (fun hb=>?_) fun hb=>?_
   ·rw [hb,Bool.true_and] at hR
    repeat refine zT ?_
    rw [hlen,hR]; exact fin
   ·rw [hb,Bool.false_and] at hR
    rw [hR]; exact fin
  refine zF (fun h3=>?_) fun h3=>?_
  ·rw [show decide (x.1.kind = 3) = true from h3]
   exact S3t (.inl (by simpa using h3))
  have h3':¬ x.1.kind = 3:=by simpa using h3
  by_cases h6:x.1.kind = 6
  ·rw [decide_eq_true h6]
   exact S3t (.inr h6)
  rw [decide_eq_false h6]
  rw [if_neg (by omega)] at hR
  unfold yg.s3
  refine s_f ?_
  refine zF (fun h4=>?_) fun h4=>?_
  ·rw [if_pos (by simpa using h4)] at hR
   rw [hR]; exact fin
  have h4':¬ x.1.kind = 4:=by simpa using h4
  rw [if_neg h4'] at hR
  have S5t:x.1.kind = 1∨x.1.kind = 5→HG B (blk o3 (.cells (opF x).toArray qj (0,0))::blk t2 (.cells (txL t).toArray yU (0,0))::Γ) (yg.s5 Q ⟨o3,0,none⟩ k x.1.kind true):=fun h15=>by
   rw [if_pos h15] at hR
   unfold yg.s5 yg.s6
   refine s_t ?_
   refine zF (fun hb=>?_) fun hb=>?_
   ·rw [hb,Bool.true_and] at hR
    repeat refine zT ?_
    rw [hlen,hR]; exact fin
   ·rw [hb,Bool.false_and] at hR
    rw [hR]; exact fin
  refine zF (fun h1=>?_) fun h1=>?_
  ·rw [show decide (x.1.kind = 1) = true from h1]
   exact S5t (.inl (by simpa using h1))
  have h1':¬ x.1.kind = 1:=by simpa using h1
  by_cases h5:x.1.kind = 5
  ·rw [decide_eq_true h5]
   exact S5t (.inr h5)
  rw [decide_eq_false h5]
  rw [if_neg (by omega)] at hR
  unfold yg.s5
  refine s_f ?_
  refine zF (fun h7=>?_) fun h7=>?_
  ·rw [if_pos (by simpa using h7)] at hR
   repeat refine zT ?_
   rw [xY]
   rw [show (x.1.key == (⟨#[]⟩:ByteArray).toList) = R by rw [← hR]; cases x.1.key <;> simp]
   exact fin
  ·rw [if_neg (by simpa using h7)] at hR
   rw [hR]; exact fin
 have S1:∀ b,(b = true ↔ 32 < x.1.val.length∨(x.1.n ≠ 0∧x.1.kind ≠ 6))→HG B (blk o3 (.cells (opF x).toArray qj (0,0))::blk t2 (.cells (txL t).toArray yU (0,0))::Γ) (yg.s1 Q ⟨t2,0,none⟩ ⟨o3,0,none⟩ b):=fun b hb=>by
  unfold yg.s1
  refine zF (fun hb1=>?_) fun hb1=>?_
  ·rw [if_pos (hb.1 hb1)] at hR
   rw [hR]; exact fin
  have hn:¬ (32 < x.1.val.length∨(x.1.n ≠ 0∧x.1.kind ≠ 6)):=fun h=>by rw [hb.2 h] at hb1; cases hb1
  repeat refine zT ?_
  refine zHR (L:=t.writes) (key:=x.1.key) (by omega) (fun w hw=>(hr w hw.drops).2.1) ?_
  by_cases hw1:x.1.key ∈ t.writes
  ·rw [decide_eq_true hw1]
   refine s_t ?_
   exact S2 true true (by simp [hw1]) (by simp [hw1]) hn
  rw [decide_eq_false hw1]
  refine s_f ?_
  repeat refine zT ?_
  refine zHR (L:=t.reads) (key:=x.1.key) (by omega) (fun w hw=>(hr w hw.drops).1) ?_
  exact S2 false _ (by simp [hw1]) (by simp [hw1]) hn
 repeat refine zT ?_
 refine zF (fun hb=>?_) fun hb=>?_
 ·exact S1 true (by
           have:32 < x.1.val.length:=by simp only [decide_eq_true_eq] at hb; omega
           simp [this])
 have h32:¬ 32 < x.1.val.length:=by simp only [decide_eq_false_iff_not] at hb; omega
 repeat refine zT ?_
 refine zF (fun hc=>?_) fun hc=>?_
 ·have hc':x.1.n ≠ 0:=by simpa using hc
  repeat refine zT ?_
  exact S1 _ (by simp [h32,hc'])
 ·have hc':x.1.n = 0:=by simpa using hc
  exact S1 _ (by simp [h32,hc'])
abbrev dfV (b:Nat):Value:=.func (.func 170) #[] #[.pointer (some ⟨b,0,none⟩)]
abbrev cfV (b:Nat):Value:=.func (.func 115) #[] #[.pointer (some ⟨b,0,none⟩)]
theorem zR6 {t:TxX} {Q:Bool→K} (hr:∀ w,Holds B Γ w→zCX w t) (hl:t.reads.length < 10000000∧t.writes.length < 10000000) (h:HG B Γ (Q (decide (zQX t)))):HG B Γ (vG.call (txL t).toArray Q):=fun w hw=>by
 refine zKO _ _ _ ?_
 obtain ⟨n1,n2,n3⟩:=zLx (hr w hw)
 refine Sep.hg hw ?_
 clear hw w
 unfold vG
 refine zH fun t1=>?_
 have no:¬ zQX t→HG B (blk t1 (.cells (txL t).toArray yU (0,0))::Γ) (vG.s1 Q ⟨t1,0,none⟩ true):=fun hn=>by
  rw [decide_eq_false hn] at h
  unfold vG.s1
  exact s_t (zB h)
 repeat refine zT ?_
 refine zF (fun hb=>no fun hd=>by have:=hd.1; simp only [decide_eq_true_eq] at hb; omega) fun hb=>?_
 have hr8:t.reads.length ≤ 8:=by simp only [decide_eq_false_iff_not] at hb; omega
 repeat refine zT ?_
 refine zAW (e':=8 - (t.rs.n:Int)) (by rw [wrap64 (by omega) (by omega)]) ?_
 refine zF (fun hb2=>no fun hd=>by have:=hd.2.1; simp only [decide_eq_true_eq] at hb2; omega) fun hb2=>?_
 have hw8:t.writes.length ≤ 8 - t.reads.length:=by simp only [decide_eq_false_iff_not] at hb2; omega
 repeat refine zT ?_
 refine zR5 (L:=t.reads) (by omega) (fun w hw=>(hr w hw.drops).1) ?_
 by_cases hr1:zDl t.reads∧∀ k ∈ t.reads,zK7 k
 rotate_left
 ·rw [decide_eq_false hr1]
  exact s_t (no fun hd=>hr1 hd.2.2.1)
 rw [decide_eq_true hr1]
 refine s_f ?_
 repeat refine zT ?_
 refine zR5 (L:=t.writes) (by omega) (fun w hw=>(hr w hw.drops).2.1) ?_
 by_cases hr2:zDl t.writes∧∀ k ∈ t.writes,zK7 k
 rotate_left
 ·rw [decide_eq_false hr2]
  exact no fun hd=>hr2 hd.2.2.2.1
 rw [decide_eq_true hr2]
 unfold vG.s1
 refine s_f ?_
 repeat refine zT ?_
 have ok:decide (zQX t) = !(t.reads.any fun k=>decide (k ∈ t.writes)):=by
  rw [Bool.eq_iff_iff]
  simp only [decide_eq_true_eq,Bool.not_eq_true',List.any_eq_false]
  constructor
  ·exact fun hd=>fun k hk=>hd.2.2.2.2 k hk
  ·exact fun ha=>⟨hr8,hw8,hr1,hr2,fun k hk=>by simpa using ha k hk⟩
 rw [ok] at h
 refine fun w hw=>zCP _ _ _ _ ?_
 refine Sep.hg hw ?_
 clear hw w
 unfold xK
 refine fun w hw=>zC0 _ _ _ _ ?_
 refine Sep.hg hw ?_
 clear hw w
 show HG B _ (zIb Tryz.prog (zXE Value.string) t.rs (dfV t1) _)
 refine zJj (vV:=fun x:TX=>qb x) (L:=t.reads) (fun k=>decide (k ∈ t.writes)) n1 (by omega) (fun i x k hx hk=>jY (fun w hw=>(hr w hw.drops).1) hx hk) (fun x q _ hq=>?_) ?_
 ·refine zFC (cs:=[.pointer (some ⟨t1,0,none⟩)]) ?_
  refine fun w hw=>zIu _ _ _ _ ?_
  refine Sep.hg hw ?_
  clear hw w
  unfold zDD
  repeat refine zT ?_
  refine zHR (L:=t.writes) (key:=x) (by omega) (fun w hw=>(hr w hw.drops).2.1) ?_
  exact hq
 ·rw [zHE,zQD]
  exact zB h
theorem zX2 {t:TxX} {n:Int} {Q:Int→K} (hr:∀ w,Holds B Γ w→zCX w t) (hl:t.reads.length < 10000000∧t.writes.length < 10000000∧t.ops.length < 10000000) (h:HG B Γ (Q (if xR n t then 0 else 1))):HG B Γ (qg.call (txL t).toArray n Q):=fun w hw=>by
 refine zNp _ _ _ _ ?_
 obtain ⟨n1,n2,n3⟩:=zLx (hr w hw)
 refine Sep.hg hw ?_
 clear hw w
 unfold qg
 refine zH fun t2=>?_
 have S2:∀ b,b = xR n t→HG B (blk t2 (.cells (txL t).toArray yU (0,0))::Γ) (qg.s2 Q b):=fun b hb=>by
  unfold qg.s2
  rw [← hb] at h
  refine zF (fun hc=>?_) fun hc=>?_
  ·have:b = false:=by simpa using hc
   rw [this] at h
   exact zB h
  ·have:b = true:=by simpa using hc
   rw [this] at h
   exact zB h
 have S1:∀ b,(b = true ↔ ¬ zAg n t∧¬ zGK t)→HG B (blk t2 (.cells (txL t).toArray yU (0,0))::Γ) (qg.s1 Q n ⟨t2,0,none⟩ b):=fun b hb=>by
  have hR:xR n t = (b && if t.kind = 2 then decide (t.reads.length = 0) && (decide (t.ops.length = 0) && (decide (t.writes.length = 1) && (decide (0 ≤ t.to) && decide (t.to < n))))
    else if t.kind ≠ 1∨t.to ≠ 0∨16 < t.ops.length then false else t.ops.all fun x=>vZ t x.1):=by
   unfold xR
   cases b with
   | true=>
    obtain ⟨h1,h2⟩:=hb.1 rfl
    rw [if_neg h1,if_neg h2,Bool.true_and]
   | false=>
    rw [Bool.false_and]
    by_cases h1:zAg n t
    ·rw [if_pos h1]
    ·rw [if_neg h1]
     by_cases h2:zGK t
     ·rw [if_pos h2]
     ·exact absurd (hb.2 ⟨h1,h2⟩) (by simp)
  unfold qg.s1
  repeat refine zT ?_
  refine zF (fun hk1=>?_) fun hk1=>?_
  ·have hk1':t.kind = 1:=by simpa using hk1
   rw [if_neg (by omega)] at hR
   refine zF (fun hb1=>?_) fun hb1=>?_
   rotate_left
   ·exact S2 _ (by rw [hR,hb1]; rfl)
   rw [hb1,Bool.true_and] at hR
   repeat refine zT ?_
   refine zF (fun hto=>?_) fun hto=>?_
   rotate_left
   ·have:t.to ≠ 0:=by simpa using hto
    exact S2 _ (by rw [hR,if_pos (.inr (.inl this))])
   have hto':t.to = 0:=by simpa using hto
   repeat refine zT ?_
   refine zF (fun ho=>?_) fun ho=>?_
   rotate_left
   ·have:16 < t.ops.length:=by simp only [decide_eq_false_iff_not] at ho; omega
    exact S2 _ (by rw [hR,if_pos (.inr (.inr this))])
   have ho':¬ 16 < t.ops.length:=by simp only [decide_eq_true_eq] at ho; omega
   rw [if_neg (by rintro (g | g | g) <;> contradiction)] at hR
   repeat refine zT ?_
   refine fun w hw=>zCO _ _ _ _ ?_
   refine Sep.hg hw ?_
   clear hw w
   unfold xJ
   refine fun w hw=>zCz _ _ _ _ ?_
   refine Sep.hg hw ?_
   clear hw w
   show HG B _ (zIb Tryz.prog (zXD 4) t.os (cfV t2) _)
   refine zJj (vV:=fun x=>.agg (opF x).toArray) (L:=t.ops) (fun x=>!vZ t x.1) n3 (by omega) (fun i x k hx hk=>zbL zBF (by omega) (fun w hw=>(hr w hw.drops).2.2.1) hx hk) (fun x q hx hq=>?_) ?_
   ·refine zFC (cs:=[.pointer (some ⟨t2,0,none⟩)]) ?_
    refine fun w hw=>zLK _ _ _ _ ?_
    refine Sep.hg hw ?_
    clear hw w
    unfold zEs
    refine zH fun o2=>?_
    repeat refine zT ?_
    refine zZh (t:=t) (x:=x) (fun w hw=>hr w hw.drops) ⟨by omega,by omega⟩ (fun w hw=>(hr w hw.drops).2.2.2 x hx) ?_
    exact zB hq
   ·rw [zHE,zQD]
    refine S2 _ ?_
    rw [hR,List.all_eq_not_any_not]
  have hk1':¬ t.kind = 1:=by simpa using hk1
  refine zF (fun hk2=>?_) fun hk2=>?_
  rotate_left
  ·have hk2':¬ t.kind = 2:=by simpa using hk2
   rw [if_neg hk2',if_pos (.inl hk1'),Bool.and_false] at hR
   exact S2 _ hR.symm
  have hk2':t.kind = 2:=by simpa using hk2
  rw [if_pos hk2'] at hR
  refine zF (fun hb1=>?_) fun hb1=>?_
  rotate_left
  ·exact S2 _ (by rw [hR,hb1]; rfl)
  rw [hb1,Bool.true_and] at hR
  repeat refine zT ?_
  refine zF (fun he=>?_) fun he=>?_
  rotate_left
  ·refine S2 _ ?_
   rw [hR,show decide (t.reads.length = 0) = false from decide_eq_false (by simp only [decide_eq_false_iff_not] at he; omega)]; rfl
  rw [show decide (t.reads.length = 0) = true from decide_eq_true (by simp only [decide_eq_true_eq] at he; omega),Bool.true_and] at hR
  repeat refine zT ?_
  refine zF (fun he2=>?_) fun he2=>?_
  rotate_left
  ·refine S2 _ ?_
   rw [hR,show decide (t.ops.length = 0) = false from decide_eq_false (by simp only [decide_eq_false_iff_not] at he2; omega)]; rfl
  rw [show decide (t.ops.length = 0) = true from decide_eq_true (by simp only [decide_eq_true_eq] at he2; omega),Bool.true_and] at hR
  repeat refine zT ?_
  refine zF (fun he3=>?_) fun he3=>?_
  rotate_left
  ·refine S2 _ ?_
   rw [hR,show decide (t.writes.length = 1) = false from decide_eq_false (by simp only [decide_eq_false_iff_not] at he3; omega)]; rfl
  rw [show decide (t.writes.length = 1) = true from decide_eq_true (by simp only [decide_eq_true_eq] at he3; omega),Bool.true_and] at hR
  repeat refine zT ?_
  refine zF (fun he4=>?_) fun he4=>?_
  rotate_left
  ·refine S2 _ ?_
   rw [hR,he4]; rfl
  rw [he4,Bool.true_and] at hR
  repeat refine zT ?_
  exact S2 _ hR.symm
 refine zF (fun hb=>?_) fun hb=>?_
 rotate_left
 ·have:n < 1:=by simp only [decide_eq_false_iff_not] at hb; omega
  exact S1 _ (by simp [zAg,this])
 have hn1:1 ≤ n:=by simpa using hb
 refine zF (fun hb=>?_) fun hb=>?_
 rotate_left
 ·have:3 < n:=by simp only [decide_eq_false_iff_not] at hb; omega
  exact S1 _ (by simp [zAg,this])
 have hn3:n ≤ 3:=by simpa using hb
 repeat refine zT ?_
 refine zR6 (t:=t) (fun w hw=>hr w hw.drops) ⟨by omega,by omega⟩ ?_
 exact S1 _ (by rw [decide_eq_true_eq]; exact zX1 hn1 hn3)
end
end
section
open Go Go.Sep Go.Sep.Bt
structure MkX where
 key:TX
 home:Int
 cnt:Int
deriving DecidableEq
abbrev mkL (m:MkX):List Value:=[qb m.key,.int .i64 m.home,.int .u64 m.cnt]
theorem zCZ (m:MkX):(mkL m).length = 3:=rfl
theorem zX3 (L:List MkX):∀ v ∈ L.flatMap mkL,yu v = true:=fun v hv=>by
 obtain ⟨x,_,hx⟩:=List.mem_flatMap.1 hv
 simp only [mkL,List.mem_cons,List.not_mem_nil,or_false] at hx
 rcases hx with rfl | rfl | rfl <;> rfl
abbrev zcb (n:Nat) (M:zy) (k:TX):MkX:=⟨k,(zx n M (bs k)).home,(zx n M (bs k)).cnt⟩
def zCS (n:Nat) (M:zy) (ks:List TX):List MkX:=ks.map (zcb n M)
abbrev tgL (a b c d:Int):List Value:=[.int .i64 a,.int .u64 b,.int .u64 c,.int .i64 d]
abbrev orL (a b c d:Int) (t:TxX) (ms:Sl):List Value:=[.int .i64 a,.int .u64 b,.int .u64 c,.int .i64 d,.int .i64 t.kind,t.rs.val,t.ws.val,t.os.val,.int .i64 t.to,ms.val]
theorem zX4 {t:TxX} (h:¬ zGG t):t.reads.length ≤ 40∧t.writes.length ≤ 40∧t.ops.length ≤ 60∧(∀ x ∈ t.reads++t.writes,x.length ≤ 200)∧∀ x ∈ t.ops,x.1.key.length ≤ 200∧x.1.val.length ≤ 200:=by
 simp only [zGG,not_or,Nat.not_lt,not_exists,not_and] at h
 obtain ⟨h1,h2,h3,h4,h5,h6⟩:=h
 refine ⟨h1,h2,h3,fun x hx=>?_,fun x hx=>⟨(h6 x hx).1,(h6 x hx).2⟩⟩
 rcases List.mem_append.1 hx with hx | hx
 ·exact h4 x hx
 ·exact h5 x hx
section
variable {B:World} {Γ Δ:List zC} {k:K} {st sd n:Nat} {M:zy}
theorem zX5 {E esz:Nat} {vs:List Value} (h:HG B (SlC E esz ⟨none,0,0⟩ vs::Γ) k) (hv:vs = []:=by rfl):HG B Γ k:=fun w hw=>h w (by rw [hv]; exact hw.zAm E esz)
theorem zX6 {t:TxX} {Q:Sl→K} (hr:∀ w,Holds B Γ w→zCX w t) (hl:t.reads.length ≤ 1000∧t.writes.length ≤ 1000) (hk:∀ x ∈ t.reads++t.writes,x.length ≤ 1000)
  (h:∀ s,HG B (SlC qC 3 s ((zCS n M (xq (t.reads++t.writes))).flatMap mkL)::zk st n M::Γ) (Q s)):HG B (zk st n M::Γ) (zAk.call (some ⟨st,0,none⟩) (txL t).toArray Q):=fun w hw=>by
 refine zMu _ _ _ _ ?_
 refine Sep.hg hw ?_
 clear hw w
 have hks:∀ x ∈ xq (t.reads++t.writes),x.length ≤ 1000:=fun x hx=>hk x (zE3.1 hx)
 have hkl:=zF0 (t.reads++t.writes)
 rw [List.length_append] at hkl
 unfold zAk
 refine zH fun t3=>?_
 repeat refine zT ?_
 refine zQW (fun w hw=>(hr w hw.drops).1) (fun w hw=>(hr w hw.drops).2.1) (by omega) (by omega) fun ks=>?_
 generalize xq (t.reads++t.writes) = K at hks hkl h ⊢
 refine zX5 (E:=qC) (esz:=3) (vs:=([]:List MkX).flatMap mkL) ?_
 refine yS ks fun a1 a2 a3 a4=>?_
 rw [List.length_map,Nat.mul_one] at a1
 refine zB (Δ:=SlC qC 3 ⟨none,0,0⟩ (([]:List MkX).flatMap mkL)::SlS ks K::zk st n M::Γ) ?_
 refine xW (α:=Sl×Int) (ι:=Nat) (fun x i=>x.2 = (i:Int)∧i ≤ K.length) (fun x i=>SlC qC 3 x.1 ((zCS n M (K.take i)).flatMap mkL)::SlS ks K::zk st n M::Γ) (fun x i=>K.length - i) 0 ⟨rfl,Nat.zero_le _⟩ ?_
 rintro k' ⟨o,_⟩ i ⟨rfl,hi⟩ hk'
 simp only at hi hk' ⊢
 refine yS o fun b1 b2 b3 b4=>?_
 rw [zX _ 3 zCZ,zCS,List.length_map,List.length_take] at b1
 unfold zAk.b1
 refine zF (fun hb=>?_) fun hb=>?_
 ·have hil:i < K.length:=by simp only [decide_eq_true_eq] at hb; omega
  have hge:K[i]? = some K[i]:=List.getElem?_eq_getElem hil
  have hmem:K[i] ∈ K:=List.getElem_mem hil
  have htk:K.take (i + 1) = K.take i++[K[i]]:=List.take_succ_eq_append_getElem hil
  generalize K[i] = x at hge hmem htk
  have hxl:=hks x hmem
  have hsz:(bs x).size = x.length:=rfl
  refine jY (L:=K) (fun w hw=>(yP (s:=ks) hw).1) hge ?_
  refine zO st ?_
  refine zAn (by omega) fun sl hok=>?_
  refine zH fun r7=>?_
  refine qA (b:=r7) (l':=jh (zx n M (bs x)) sl) ?_
  repeat refine zT ?_
  refine zPq (s:=o) (m:=1) (us:=[.string (bs x),.int .i64 (zx n M (bs x)).home,.int .u64 (zx n M (bs x)).cnt]) (fun o2 ho2=>?_)
  refine qB ?_
  rw [show (zCS n M (K.take i)).flatMap mkL++[.string (bs x),.int .i64 (zx n M (bs x)).home,.int .u64 (zx n M (bs x)).cnt] = (zCS n M (K.take (i + 1))).flatMap mkL by rw [htk]; simp [zCS]]
  exact zB (hk' (o2,(i:Int) + 1) (i + 1) ⟨by simp,hil⟩ (by omega))
 ·have hil:i = K.length:=by simp only [decide_eq_false_iff_not] at hb; omega
  rw [hil,List.take_length]
  exact zB (h o)
theorem zZi {t:TxX} {a b c d:Int} {Q:Array Value→K} (hr:∀ w,Holds B Γ w→zCX w t) (hl:t.reads.length ≤ 1000∧t.writes.length ≤ 1000∧t.ops.length ≤ 1000∧∀ x ∈ t.ops,x.1.val.length ≤ 1000000) (hk:∀ x ∈ t.reads++t.writes,x.length ≤ 1000)
  (h:∀ t' ms,zVq t' t→HG B (SlC qC 3 ms ((zCS n M (xq (t.reads++t.writes))).flatMap mkL)::zk st n M::txC t' Γ) (Q (orL a b c d t' ms).toArray)) :
  HG B (zk st n M::Γ) (zD5.call (some ⟨st,0,none⟩) (tgL a b c d).toArray (txL t).toArray Q):=fun w hw=>by
 refine zNm _ _ _ _ _ ?_
 refine Sep.hg hw ?_
 clear hw w
 unfold zD5
 refine zH fun tag4=>?_
 refine zH fun t5=>?_
 refine zH fun t6=>?_
 repeat refine zT ?_
 refine zUx (t:=t) (fun w hw=>hr w hw.drops) hl fun t' ht'=>?_
 repeat refine zT ?_
 refine zO st ?_
 refine zX6 (t:=t) (fun w hw=>hr w hw.drops) ⟨hl.1,hl.2.1⟩ hk fun ms=>?_
 repeat refine zT ?_
 exact zB (h t' ms ht')
end
end
section
open Go Go.Sep
def zF3 (g:y7):Prop:=0 ≤ g.node∧g.node < 9∧0 < g.epoch∧0 < g.seq∧0 ≤ g.tr∧g.tr < 3
instance (g:y7):Decidable (zF3 g):=by unfold zF3; infer_instance
def zQY (rg:Int) (ks:List TX) (mks:List MkX):Prop:=mks.map MkX.key = ks∧∀ m ∈ mks,0 ≤ m.home∧m.home < rg
instance (rg:Int) (ks:List TX) (mks:List MkX):Decidable (zQY rg ks mks):=by unfold zQY; infer_instance
abbrev zDy (rg:Int) (g:y7) (t:TxX) (mks:List MkX):Prop:=xR rg t = true∧zF3 g∧zQY rg (xq (t.reads++t.writes)) mks
abbrev orV (g:y7) (t:TxX) (ms:Sl):List Value:=orL g.node g.epoch g.seq g.tr t ms
section
variable {B:World} {Γ Δ:List zC} {g:y7} {t:TxX} {ms:Sl} {mks:List MkX}
theorem zK8 {rg:Int} {Q:Int→K} (hr:∀ w,Holds B Γ w→zCX w t) (hm:∀ w,Holds B Γ w→RdC w ms 3 (mks.flatMap mkL)) (hl:t.reads.length ≤ 1000∧t.writes.length ≤ 1000∧t.ops.length ≤ 1000) (hml:mks.length ≤ 100000)
  (h:HG B Γ (Q (if zDy rg g t mks then 0 else 1))):HG B Γ (yF.call (orV g t ms).toArray rg Q):=fun w hw=>by
 refine zMw _ _ _ _ ?_
 have hmn:ms.n = mks.length:=zA3 zCZ (by omega) (hm w hw)
 refine hg hw ?_
 clear hw w
 unfold yF
 refine zH fun o2=>?_
 refine vo ?_
 refine zBE [blk o2 (.cells (orV g t ms).toArray zn (0,0))] ?_
 refine zBM (b:=o2) (l:=orV g t ms) (l':=[.int .i64 g.node,.int .u64 g.epoch,.int .u64 g.seq]) ?_
 refine zBM (b:=o2) (off:=4) (l:=orV g t ms) (l':=txL t) ?_
 have hkl:=zF0 (t.reads++t.writes)
 rw [List.length_append] at hkl
 have rest:∀ (id5:Nat) (ks:Sl),HG B (blk id5 (.cells [.int .i64 g.node,.int .u64 g.epoch,.int .u64 g.seq].toArray zOC (0,0))::SlS ks (xq (t.reads++t.writes))::blk o2 (.cells (orV g t ms).toArray zn (0,0))::Γ) (yF.s1 Q rg ⟨o2,0,none⟩ ⟨id5,0,none⟩ ks):=fun id5 ks=>by
  refine yS ks fun k1 k2 k3 k4=>?_
  have hkn:ks.n = (xq (t.reads++t.writes)).length:=by simpa using k1.symm
  have no:¬ zDy rg g t mks→HG B Γ (Q 1):=fun hn=>by rw [if_neg hn] at h; exact h
  have S2:∀ b:Bool,(b = true ↔ xR rg t = true∧zF3 g)→HG B (SlS ks (xq (t.reads++t.writes))::blk o2 (.cells (orV g t ms).toArray zn (0,0))::Γ) (yF.s2 Q rg ⟨o2,0,none⟩ ks b):=fun b hb=>by
   have bad:¬ zDy rg g t mks→HG B (SlS ks (xq (t.reads++t.writes))::blk o2 (.cells (orV g t ms).toArray zn (0,0))::Γ) (yF.s3 Q rg ⟨o2,0,none⟩ ks true):=fun hn=>by
    unfold yF.s3
    exact s_t (zB (no hn))
   unfold yF.s2
   cases b
   ·refine s_t ?_
    exact bad fun ho=>by have:=hb.2 ⟨ho.1,ho.2.1⟩; cases this
   ·refine s_f ?_
    have hok:=hb.1 rfl
    refine yB (b:=o2) (off:=9) (l:=orV g t ms) (x:=ms) ?_
    by_cases hlen:mks.length = (xq (t.reads++t.writes)).length
    ·rw [show decide ((ms.n:Int) ≠ (ks.n:Int)) = false by simp; omega]
     unfold yF.s3
     refine s_f ?_
     refine yB (b:=o2) (off:=9) (l:=orV g t ms) (x:=ms) ?_
     refine zAP (α:=Int) (fun x=>∃ i:Nat,x = (i:Int)∧i ≤ mks.length∧∀ j,j < i→(mks[j]?.map MkX.key) = (xq (t.reads++t.writes))[j]?∧∀ m,mks[j]? = some m→0 ≤ m.home∧m.home < rg) (fun x=>mks.length - x.toNat) ⟨0,rfl,Nat.zero_le _,by omega⟩ fun k' x hx hk'=>?_
     obtain ⟨i,rfl,hi,ha⟩:=hx
     unfold yF.b4
     refine zF (fun hc=>?_) fun hc=>?_
     ·have hil:i < mks.length:=by simp only [decide_eq_true_eq] at hc; omega
      have hge:mks[i]? = some mks[i]:=List.getElem?_eq_getElem hil
      have hgk:(xq (t.reads++t.writes))[i]? = some (xq (t.reads++t.writes))[i]:=List.getElem?_eq_getElem (by omega)
      generalize mks[i] = m at hge
      generalize (xq (t.reads++t.writes))[i] = key at hgk
      refine zAc mkL zCZ (fun w hw=>hm w hw.drops) hge ?_
      refine zH fun m9=>?_
      refine qA (b:=m9) (l':=mkL m) ?_
      refine vo ?_
      refine yB (b:=m9) (l:=mkL m) (x:=bs m.key) ?_
      refine jY (L:=xq (t.reads++t.writes)) (j:=i) (fun w hw=>(yP (s:=ks) hw).1) hgk ?_
      have S5:∀ c:Bool,(c = true ↔ ¬ (m.key = key∧0 ≤ m.home∧m.home < rg))→HG B (SlS ks (xq (t.reads++t.writes))::blk o2 (.cells (orV g t ms).toArray zn (0,0))::Γ) (yF.s5 Q k' rg ks ms (ms.n:Int) (i:Int) c):=fun c hcc=>by
       unfold yF.s5
       cases c
       ·refine s_f ?_
        refine qB ?_
        have hyes:m.key = key∧0 ≤ m.home∧m.home < rg:=by
         by_cases hh:m.key = key∧0 ≤ m.home∧m.home < rg
         ·exact hh
         ·have:=hcc.2 hh; cases this
        refine hk' _ ⟨i + 1,by simp,hil,fun j hj=>?_⟩ (by omega)
        by_cases hji:j = i
        ·subst hji
         rw [hge,hgk]
         exact ⟨by simp [hyes.1],fun m' hm'=>by cases hm'; exact hyes.2⟩
        ·exact ha j (by omega)
       ·refine s_t ?_
        refine zB (no fun ho=>hcc.1 rfl ?_)
        have h1:=congrArg (·[i]?) ho.2.2.1
        simp only [List.getElem?_map,hge,hgk,Option.map_some,Option.some.injEq] at h1
        exact ⟨h1,ho.2.2.2 m (List.mem_of_getElem? hge)⟩
      refine zF (fun h1=>?_) fun h1=>?_
      ·refine zB (S5 true ?_)
       have:m.key ≠ key:=by simpa using h1
       simp [this]
      have hkey:m.key = key:=by simpa using h1
      refine yB (b:=m9) (off:=1) (l:=mkL m) (x:=m.home) ?_
      refine zF (fun h2=>?_) fun h2=>?_
      ·refine zB (S5 true ?_)
       simp only [decide_eq_true_eq] at h2
       simp only [true_iff,not_and]
       intro _ h3; omega
      refine yB (b:=m9) (off:=1) (l:=mkL m) (x:=m.home) ?_
      refine zB (S5 _ ?_)
      simp only [decide_eq_false_iff_not,decide_eq_true_eq] at h2 ⊢
      constructor
      ·rintro h3 ⟨_,_,h4⟩; omega
      ·intro h3
       by_cases h4:rg ≤ m.home
       ·exact h4
       ·exact absurd ⟨hkey,by omega,by omega⟩ h3
     ·have hil:i = mks.length:=by simp only [decide_eq_false_iff_not] at hc; omega
      have hall:zDy rg g t mks:=by
       refine ⟨hok.1,hok.2,List.ext_getElem? fun j=>?_,fun m hm=>?_⟩
       ·by_cases hj:j < i
        ·rw [List.getElem?_map]; exact (ha j hj).1
        ·rw [List.getElem?_eq_none (by simp; omega),List.getElem?_eq_none (by omega)]
       ·obtain ⟨j,hj,rfl⟩:=List.mem_iff_getElem.1 hm
        exact (ha j (by omega)).2 _ (List.getElem?_eq_getElem hj)
      rw [if_pos hall] at h
      exact zB h
    ·rw [show decide ((ms.n:Int) ≠ (ks.n:Int)) = true by simp; omega]
     exact bad fun ho=>hlen (by have:=congrArg List.length ho.2.2.1; simpa using this)
  have S2':∀ b:Bool,(b = true ↔ xR rg t = true∧zF3 g)→HG B (blk id5 (.cells [.int .i64 g.node,.int .u64 g.epoch,.int .u64 g.seq].toArray zOC (0,0))::SlS ks (xq (t.reads++t.writes))::blk o2 (.cells (orV g t ms).toArray zn (0,0))::Γ) (yF.s2 Q rg ⟨o2,0,none⟩ ks b):=fun b hb=>zB (S2 b hb)
  unfold yF.s1
  refine qI (b:=o2) (off:=4) (l:=orV g t ms) (l':=txL t) ?_
  refine zX2 (t:=t) (n:=rg) (fun w hw=>hr w hw.drops) ⟨by omega,by omega,by omega⟩ ?_
  by_cases hrt:xR rg t = true
  rotate_left
  ·rw [if_neg hrt]
   refine s_f ?_
   exact S2' false (by simp [hrt])
  rw [if_pos hrt]
  refine s_t ?_
  refine yB (b:=id5) (x:=g.node) ?_
  refine zF (fun h1=>?_) fun h1=>?_
  rotate_left
  ·exact S2' false (by simp only [decide_eq_false_iff_not] at h1; simp [zF3,h1])
  simp only [decide_eq_true_eq] at h1
  refine yB (b:=id5) (x:=g.node) ?_
  refine zF (fun h2=>?_) fun h2=>?_
  rotate_left
  ·exact S2' false (by simp only [decide_eq_false_iff_not] at h2; simp [zF3,h2])
  simp only [decide_eq_true_eq] at h2
  refine yB (b:=id5) (off:=1) (x:=g.epoch) ?_
  refine zF (fun h3=>?_) fun h3=>?_
  rotate_left
  ·exact S2' false (by simp only [decide_eq_false_iff_not] at h3; simp [zF3,h3])
  simp only [decide_eq_true_eq] at h3
  refine yB (b:=id5) (off:=2) (x:=g.seq) ?_
  refine zF (fun h4=>?_) fun h4=>?_
  rotate_left
  ·exact S2' false (by simp only [decide_eq_false_iff_not] at h4; simp [zF3,h4])
  simp only [decide_eq_true_eq] at h4
  refine yB (b:=o2) (off:=3) (l:=orV g t ms) (x:=g.tr) ?_
  refine zF (fun h5=>?_) fun h5=>?_
  rotate_left
  ·exact S2' false (by simp only [decide_eq_false_iff_not] at h5; simp [zF3,h5])
  simp only [decide_eq_true_eq] at h5
  refine yB (b:=o2) (off:=3) (l:=orV g t ms) (x:=g.tr) ?_
  exact S2' _ (by simp only [decide_eq_true_eq]; exact ⟨fun h6=>⟨hrt,h1,h2,h3,h4,h5,h6⟩,fun h6=>h6.2.2.2.2.2.2⟩)
 refine zIl ?_ ?_
 ·refine zQW (t:=t) (fun w hw=>(hr w hw.drops).1) (fun w hw=>(hr w hw.drops).2.1) (by omega) (by omega) fun ks=>?_
  refine zBC ?_
  refine zH fun id5=>?_
  refine zBC ?_
  refine qA (b:=id5) (l':=[.int .i64 g.node,.int .u64 g.epoch,.int .u64 g.seq]) ?_
  exact zB (rest id5 ks)
 ·refine zH fun id5=>?_
  refine zBC ?_
  refine zQW (t:=t) (fun w hw=>(hr w hw.drops).1) (fun w hw=>(hr w hw.drops).2.1) (by omega) (by omega) fun ks=>?_
  refine zBC ?_
  refine qA (b:=id5) (l':=[.int .i64 g.node,.int .u64 g.epoch,.int .u64 g.seq]) ?_
  exact zB (rest id5 ks)
end
end
end Go.Proofs.YtdemfamgieonbaaGreat
namespace Go.Sep
section
open Go Go.RowKit
def zX7 (P:Program) (T U E:TypeId):Bool:=(match P.underlying T with | some .string=>true | _=>false) && (match P.underlying U with | some (.slice e)=>Nat.beq e E | _=>false) && (match P.underlying E with | some (.int .u8)=>true | _=>false)
theorem zTF {P:Program} {T U E:TypeId} (h:zX7 P T U E = true):P.underlying T = some .string∧P.underlying U = some (.slice E)∧P.underlying E = some (.int .u8):=by
 unfold zX7 at h
 simp only [Bool.and_eq_true] at h
 obtain ⟨⟨h1,h2⟩,h3⟩:=h
 refine ⟨?_,?_,?_⟩
 ·split at h1 <;> first | assumption | cases h1
 ·split at h2
  ·rename_i e he; rw [he,Nat.eq_of_beq_eq_true h2]
  ·cases h2
 ·split at h3 <;> first | assumption | cases h3
theorem zUz {P:Program} {B:World} {Γ:List zC} {T U E:TypeId} {xs:List UInt8} {k:Sl→K} (h:∀ s,s.n = xs.length→HG B (SlC E 1 s (xs.map ji)::Γ) (k s)) (hT:zX7 P T U E = true:=by kernel_rfl) :
  HG B Γ (Do P (convert T U (.string (bs xs))) Sl.val k):=fun w hw=>by
 obtain ⟨h1,h2,h3⟩:=zTF hT
 have hrun:=Go.Lib.run_convert_string_bytes w T U E (bs xs) h1 h2 h3
 have hsz:(bs xs).size = xs.length:=rfl
 have hcap:xs.length ≤ grownCap w xs.length 0 E:=by
  unfold grownCap Question.cut
  simp only
  omega
 refine ⟨⟨some ⟨w.heap.size,0,none⟩,xs.length,grownCap w xs.length 0 E⟩,_,hrun,h _ rfl _ ?_⟩
 have h4:=hw.alloc (.cells (Go.Lib.bytesCells w E (bs xs)) E ((Go.Lib.bytesCells w E (bs xs)).size,(Go.Lib.bytesCells w E (bs xs)).size + 1))
 have h5:Holds B (blk w.heap.size (.cells (Go.Lib.bytesCells w E (bs xs)) E ((Go.Lib.bytesCells w E (bs xs)).size,(Go.Lib.bytesCells w E (bs xs)).size + 1))::Γ) (Go.Lib.bytesWorld w E (bs xs)):=by
  refine h4.zTZ ?_ rfl rfl rfl
  apply Array.ext_getElem?
  intro j
  simp only [Array.getElem?_push]
  by_cases hj:j = w.heap.size
  ·subst hj
   rw [Go.Lib.bytesWorld_at_new,if_pos rfl]
  ·rw [if_neg hj]
   by_cases hl:j < w.heap.size
   ·exact Go.Lib.bytesWorld_at_old w E (bs xs) j hl
   ·have hs:=Go.Lib.bytesWorld_size w E (bs xs)
    rw [Array.getElem?_eq_none (by omega),Array.getElem?_eq_none (by omega)]
 have hlen:(Go.Lib.bytesCells w E (bs xs)).size = xs.length + (grownCap w xs.length 0 E - xs.length):=by
  simp [Go.Lib.bytesCells,hsz]
 refine zMU (a:=⟨w.heap.size,0,none⟩) (cs:=Go.Lib.bytesCells w E (bs xs)) rfl h5 ⟨rfl,fun i _ hi=>?_,?_,fun i hi=>?_,?_,hcap⟩
 ·simp only at hi ⊢; omega
 ·simp only; omega
 ·simp only [List.length_map] at hi
  simp only [Nat.zero_add,Go.Lib.bytesCells]
  rw [Array.getElem?_append_left (by simp [hsz]; omega)]
  simp only [Array.getElem?_map,List.getElem?_map,List.getElem?_toArray]; rfl
 ·simp
end
end Go.Sep
namespace Go.Proofs.YtdemfamgieonbaaGreat
open Go Go.Sep Go.Sep.Bt
theorem zbW {t:TxX} {o:OpM} (h:vZ t o = true):o.kind = 7∨o.key ∈ t.reads++t.writes:=by
 unfold vZ at h
 split at h
 ·cases h
 split at h
 ·exact .inl (by assumption)
 split at h
 ·cases h
 ·rename_i h1
  refine .inr ?_
  by_cases h2:o.key ∈ t.writes
  ·simp [h2]
  ·by_cases h3:o.key ∈ t.reads
   ·simp [h3]
   ·exact absurd ⟨h2,.inl h3⟩ h1
section
variable {B:World} {Γ Δ:List zC} {q:Bool→K}
theorem zVv {R:WX} {x:List UInt8×(Rec×Sl)} {w:World} (hx:x ∈ R) (h:Holds B (Sep.stars (R.map wB)::Γ) w):RdB w x.2.2 x.2.1.val:=by
 obtain ⟨Δ,h2⟩:=zOV hx h
 exact zKW h2
end
end Go.Proofs.YtdemfamgieonbaaGreat
namespace Go.Proofs.YtdemfamgieonbaaGreat
open Go Go.Sep Go.RowKit
end Go.Proofs.YtdemfamgieonbaaGreat
namespace Go.Proofs.YtdemfamgieonbaaGreat
section
open Go Go.Sep
def zF4 (p N:Nat):zC:=ex fun xs:List UInt8=>Sep.stars [pur (xs.length ≤ N),zIN p xs]
abbrev zGM (kind ix:Int):Prop:=kind = 1∧ix = 0∨kind = 2∧0 ≤ ix∧ix < 64
section
variable {B:World} {Γ Δ:List zC} {p N:Nat} {k Q:K}
theorem zTG (h:∀ xs,xs.length ≤ N→HG B (zIN p xs::Γ) k):HG B (zF4 p N::Γ) k:=zDI fun xs=>zBr <| zGd fun h1=>h xs h1
theorem zNI {xs:List UInt8} (h1:xs.length ≤ N) (h:HG B (zF4 p N::Γ) k):HG B (zIN p xs::Γ) k:=fun w hw=>by
 refine h w ?_
 have h3:Holds B (Sep.stars [pur (xs.length ≤ N),zIN p xs]::Γ) w:=Holds.flat.2 (Holds.pur.2 ⟨h1,hw⟩)
 exact h3.imp fun g hg=>⟨xs,hg⟩
instance (priority:=high) zcc:Sep.Own p (zF4 p N::Γ) (zF4 p N) Γ:=⟨.refl _⟩
theorem zGN {n:Int} (h0:0 ≤ n) (hn:n < 1180591620717411303424) (hN:N ≤ 40000000) (h:HG B (zF4 p (N + 10)::Γ) Q):HG B (zF4 p N::Γ) (xV.call (some ⟨p,0,none⟩) n Q):=by
 refine zTG fun xs hx=>?_
 obtain ⟨m,rfl⟩:∃ m:Nat,n = (m:Int):=⟨n.toNat,by omega⟩
 have hnl:=zHQ 9 m (by simp; omega)
 refine zX0 (by omega) (by omega) ?_
 exact zNI (by simp only [List.length_append]; omega) h
theorem zNJ {b:Sl} {ys:List UInt8} {L:Nat} (hr:∀ w,Holds B Γ w→RdB w b ys) (hy:ys.length ≤ L) (hL:L ≤ 1000000) (hN:N ≤ 5000000) (h:HG B (zF4 p (N + 10 + L)::Γ) Q):HG B (zF4 p N::Γ) (j6.call (some ⟨p,0,none⟩) b Q):=by
 refine zTG fun xs hx=>?_
 have hnl:=zHQ 9 ys.length (by simp; omega)
 refine zZf hr (by omega) (by omega) ?_
 exact zNI (by simp only [List.length_append]; omega) h
theorem zU0 {s:Sl} {L:List Int} (hr:∀ w,Holds B Γ w→RdC w s 1 (L.map (Value.int .u64))) (hL:∀ x ∈ L,0 ≤ x∧x < 1180591620717411303424) (hl:L.length ≤ 1000) (hN:N ≤ 1000000) (h:HG B (zF4 p (N + 10 * L.length)::Γ) Q):HG B (zF4 p N::Γ) (zAy.call (some ⟨p,0,none⟩) s Q):=fun w hw=>by
 refine zNs _ _ _ _ ?_
 have hsn:s.n = L.length:=by have:=(hr w hw.tail).len; simpa using this.symm
 refine hg hw ?_
 clear hw w
 unfold zAy
 refine xW (α:=Int) (ι:=Nat) (fun x i=>x = (i:Int)∧i ≤ L.length) (fun x i=>zF4 p (N + 10 * i)::Γ) (fun x i=>L.length - i) 0 ⟨rfl,Nat.zero_le _⟩ ?_
 rintro k' _ i ⟨rfl,hi⟩ hk'
 unfold zAy.b1
 refine zF (fun hb=>?_) fun hb=>?_
 ·have hil:i < L.length:=by simp only [decide_eq_true_eq] at hb; omega
  have hge:L[i]? = some L[i]:=List.getElem?_eq_getElem hil
  obtain ⟨h1,h2⟩:=hL _ (List.getElem_mem hil)
  generalize L[i] = x at hge h1 h2
  refine zAd (L:=L) (fun w hw=>hr w hw.tail) hge ?_
  refine zGN h1 h2 (by omega) ?_
  refine qB ?_
  have:=hk' ((i:Int) + 1) (i + 1) ⟨by simp,hil⟩ (by omega)
  rw [show N + 10 * (i + 1) = N + 10 * i + 10 by omega] at this
  exact this
 ·have hil:i = L.length:=by simp only [decide_eq_false_iff_not] at hb; omega
  rw [hil]; exact h
theorem zR7 {s:Sl} {L:List TX} (hr:∀ w,Holds B Γ w→RdC w s 1 (L.map qb)) (hL:∀ x ∈ L,x.length ≤ 200) (hl:L.length ≤ 1000) (hN:N ≤ 1000000) (h:HG B (zF4 p (N + 10 + 210 * L.length)::Γ) Q):HG B (zF4 p N::Γ) (zAE.call (some ⟨p,0,none⟩) s Q):=fun w hw=>by
 refine zMy _ _ _ _ ?_
 have hsn:s.n = L.length:=by have:=(hr w hw.tail).len; simpa using this.symm
 refine hg hw ?_
 clear hw w
 unfold zAE
 refine zAW (zA0 (by omega) (by omega)) ?_
 refine zGN (by omega) (by omega) (by omega) ?_
 refine xW (α:=Int) (ι:=Nat) (fun x i=>x = (i:Int)∧i ≤ L.length) (fun x i=>zF4 p (N + 10 + 210 * i)::Γ) (fun x i=>L.length - i) 0 ⟨rfl,Nat.zero_le _⟩ ?_
 rintro k' _ i ⟨rfl,hi⟩ hk'
 unfold zAE.b1
 refine zF (fun hb=>?_) fun hb=>?_
 ·have hil:i < L.length:=by simp only [decide_eq_true_eq] at hb; omega
  have hge:L[i]? = some L[i]:=List.getElem?_eq_getElem hil
  have h1:=hL _ (List.getElem_mem hil)
  generalize L[i] = x at hge h1
  refine jY (L:=L) (fun w hw=>hr w hw.tail) hge ?_
  refine zUz (E:=yK) (xs:=x) fun b hb=>?_
  refine zO p ?_
  refine zNJ (L:=200) (ys:=x) (fun w hw=>(yP (s:=b) hw).1) h1 (by omega) (by omega) ?_
  refine qB ?_
  have:=hk' ((i:Int) + 1) (i + 1) ⟨by simp,hil⟩ (by omega)
  rw [show N + 10 + 210 * (i + 1) = N + 10 + 210 * i + 10 + 200 by omega] at this
  exact zB this
 ·have hil:i = L.length:=by simp only [decide_eq_false_iff_not] at hb; omega
  rw [hil]; exact h
theorem zBG (n:Int):0 ≤ IntKind.wrap .u64 n∧IntKind.wrap .u64 n < 18446744073709551616:=by
 simp only [IntKind.wrap,IntKind.signed,IntKind.bits]
 simp
 omega
theorem zVw {n:Int} {q:Int→K} (h:∀ m:Int,0 ≤ m→m < 18446744073709551616→HG B Γ (q m)):HG B Γ (zCV.call n q):=by
 refine fun w hw=>zLN _ _ _ ?_
 refine hg hw ?_
 clear hw w
 unfold zCV
 refine zAW rfl ?_
 refine zPo (by decide) ?_
 refine zAW rfl ?_
 refine zPo (by decide) ?_
 refine zAW rfl ?_
 refine zAW rfl ?_
 refine zAW rfl ?_
 obtain ⟨h1,h2⟩:=zBG ((BitVec.ofInt IntKind.u64.bits (zN3 .u64 (IntKind.wrap .u64 n) 1) ^^^ BitVec.ofInt IntKind.u64.bits (IntKind.wrap .u64 (zGv .i64 n 63))).toNat:Int)
 exact h _ h1 h2
theorem zEF {rg:Int} {t:TxX} (h:xR rg t = true):(∀ k ∈ t.reads++t.writes,k.length ≤ 16)∧(t.reads.length + t.writes.length ≤ 8)∧t.ops.length ≤ 16∧∀ x ∈ t.ops,x.1.key.length ≤ 16∧x.1.val.length ≤ 32:=by
 by_cases hk:t.kind = 2
 ·obtain ⟨ho,_⟩:=zED h hk
  unfold xR at h
  split at h
  ·cases h
  rename_i hb
  split at h
  ·cases h
  rename_i hkb
  simp only [zAg,not_or,Nat.not_lt] at hb
  refine ⟨fun k hk=>?_,by omega,by rw [ho]; simp,by rw [ho]; simp⟩
  exact Nat.le_of_not_lt fun h=>hkb (.inl ⟨k,hk,.inr h⟩)
 ·have hops:=zH1 h hk
  unfold xR at h
  split at h
  ·cases h
  rename_i hb
  split at h
  ·cases h
  rename_i hkb
  split at h
  ·cases h
  rename_i hc
  simp only [zAg,not_or,Nat.not_lt] at hb
  simp only [not_or,Nat.not_lt] at hc
  have hks:∀ k ∈ t.reads++t.writes,k.length ≤ 16:=fun k hk=>Nat.le_of_not_lt fun h=>hkb (.inl ⟨k,hk,.inr h⟩)
  refine ⟨hks,by omega,hc.2.2,fun x hx=>?_⟩
  have hr:=hops x hx
  constructor
  ·rcases zbW hr with h7 | h7
   ·unfold vZ at hr
    split at hr
    ·cases hr
    simp only [Bool.and_eq_true,decide_eq_true_eq] at hr
    rw [hr.1]; simp
   ·exact hks _ h7
  ·unfold vZ at hr
   split at hr
   ·cases hr
   ·rename_i h8; omega
theorem zX8 {g:y7} {t:TxX} {ms:Sl} {mks:List MkX} {rg:Int} (hrt:xR rg t = true) (hg0:0 ≤ g.epoch∧g.epoch < 18446744073709551616) (hg1:0 ≤ g.seq∧g.seq < 18446744073709551616) (hmk:∀ m ∈ mks,0 ≤ m.cnt∧m.cnt < 18446744073709551616)
  (hr:∀ w,Holds B Γ w→zCX w t) (hm:∀ w,Holds B Γ w→RdC w ms 3 (mks.flatMap mkL)) (hml:mks.length ≤ 1000) (hN:N ≤ 100000) (h:∀ N',N' ≤ N + 100000→HG B (zF4 p N'::Γ) Q):HG B (zF4 p N::Γ) (uY.call (some ⟨p,0,none⟩) (orV g t ms).toArray Q):=fun w hw=>by
 refine zMx _ _ _ _ ?_
 have hmn:ms.n = mks.length:=zA3 zCZ (by omega) (hm w hw.tail)
 have hon:t.os.n = t.ops.length:=zA3 zBF (by omega) (hr w hw.tail).2.2.1
 refine Sep.hg hw ?_
 clear hw w
 obtain ⟨k1,k2,k3,k4⟩:=zEF hrt
 unfold uY
 refine zH fun o3=>?_
 refine yB (b:=o3) (l:=orV g t ms) (x:=g.node) ?_
 refine zAW rfl ?_
 refine yB (b:=o3) (off:=1) (l:=orV g t ms) (x:=g.epoch) ?_
 refine yB (b:=o3) (off:=2) (l:=orV g t ms) (x:=g.seq) ?_
 refine yB (b:=o3) (off:=3) (l:=orV g t ms) (x:=g.tr) ?_
 refine zAW rfl ?_
 refine yB (b:=o3) (off:=4) (l:=orV g t ms) (x:=t.kind) ?_
 refine zAW rfl ?_
 refine yB (b:=o3) (off:=8) (l:=orV g t ms) (x:=t.to) ?_
 refine zAW rfl ?_
 refine zH fun t34=>?_
 have u1:=zBG g.node
 have u2:=zBG g.tr
 have u3:=zBG t.kind
 have u4:=zBG t.to
 refine zO p ?_
 refine zU0 (L:=[IntKind.wrap .u64 g.node,g.epoch,g.seq,IntKind.wrap .u64 g.tr,IntKind.wrap .u64 t.kind,IntKind.wrap .u64 t.to]) (fun w hw=>?_) ?_ (by simp) (by omega) ?_
 ·have:=jX (B:=B) (esz:=6) (k:=6) (t:=t34) (cs:=[.int .u64 (IntKind.wrap .u64 g.node),.int .u64 g.epoch,.int .u64 g.seq,.int .u64 (IntKind.wrap .u64 g.tr),.int .u64 (IntKind.wrap .u64 t.kind),.int .u64 (IntKind.wrap .u64 t.to)]) rfl w hw
  exact ⟨by simp,fun h=>(by cases h),fun a ha i hi=>this.at' a ha i hi⟩
 ·intro x hx
  simp only [List.mem_cons,List.not_mem_nil,or_false] at hx
  rcases hx with rfl | rfl | rfl | rfl | rfl | rfl <;> omega
 refine zB (Δ:=zF4 p (N + 60)::blk o3 (.cells (orV g t ms).toArray zn (0,0))::Γ) ?_
 refine yB (b:=o3) (off:=5) (l:=orV g t ms) (x:=t.rs) ?_
 refine zR7 (L:=t.reads) (fun w hw=>(hr w hw.drops).1) (fun x hx=>by have:=k1 x (List.mem_append_left _ hx); omega) (by omega) (by omega) ?_
 refine yB (b:=o3) (off:=6) (l:=orV g t ms) (x:=t.ws) ?_
 refine zR7 (L:=t.writes) (fun w hw=>(hr w hw.drops).2.1) (fun x hx=>by have:=k1 x (List.mem_append_right _ hx); omega) (by omega) (by omega) ?_
 refine yB (b:=o3) (off:=7) (l:=orV g t ms) (x:=t.os) ?_
 refine zAW (zA0 (by omega) (by omega)) ?_
 refine zGN (by omega) (by omega) (by omega) ?_
 refine yB (b:=o3) (off:=7) (l:=orV g t ms) (x:=t.os) ?_
 generalize hN1:N + 60 + 10 + 210 * t.reads.length + 10 + 210 * t.writes.length + 10 = N1
 refine xW (α:=Int) (ι:=Nat) (fun x i=>x = (i:Int)∧i ≤ t.ops.length) (fun x i=>zF4 p (N1 + 440 * i)::blk o3 (.cells (orV g t ms).toArray zn (0,0))::Γ) (fun x i=>t.ops.length - i) 0 ⟨rfl,Nat.zero_le _⟩ ?_
 rintro k' _ i ⟨rfl,hi⟩ hk'
 unfold uY.b1
 refine zF (fun hb=>?_) fun hb=>?_
 ·have hil:i < t.ops.length:=by simp only [decide_eq_true_eq] at hb; omega
  have hge:t.ops[i]? = some t.ops[i]:=List.getElem?_eq_getElem hil
  have hmem:t.ops[i] ∈ t.ops:=List.getElem_mem hil
  generalize t.ops[i] = x at hge hmem
  obtain ⟨h1,h2⟩:=k4 x hmem
  refine zAc opF zBF (fun w hw=>(hr w hw.drops).2.2.1) hge ?_
  refine zH fun x5=>?_
  refine qA (b:=x5) (l':=opF x) ?_
  refine yB (b:=x5) (l:=opF x) (x:=x.1.kind) ?_
  refine zAW rfl ?_
  have u5:=zBG x.1.kind
  refine zO p ?_
  refine zGN (by omega) (by omega) (by omega) ?_
  refine yB (b:=x5) (off:=1) (l:=opF x) (x:=bs x.1.key) ?_
  refine zUz (E:=yK) (xs:=x.1.key) fun b hb=>?_
  refine zO p ?_
  refine zNJ (L:=200) (ys:=x.1.key) (fun w hw=>(yP (s:=b) hw).1) (by omega) (by omega) (by omega) ?_
  refine yB (b:=x5) (off:=2) (l:=opF x) (x:=x.2) ?_
  refine zNJ (L:=200) (ys:=x.1.val) (fun w hw=>(hr w hw.drops).2.2.2 x hmem) (by omega) (by omega) (by omega) ?_
  refine yB (b:=x5) (off:=3) (l:=opF x) (x:=x.1.n) ?_
  refine zVw fun m hm1 hm2=>?_
  refine zGN hm1 (by omega) (by omega) ?_
  refine qB ?_
  have:=hk' ((i:Int) + 1) (i + 1) ⟨by simp,hil⟩ (by omega)
  rw [show N1 + 440 * (i + 1) = N1 + 440 * i + 10 + 10 + 200 + 10 + 200 + 10 by omega] at this
  exact zB this
 ·have hil:i = t.ops.length:=by simp only [decide_eq_false_iff_not] at hb; omega
  refine yB (b:=o3) (off:=9) (l:=orV g t ms) (x:=ms) ?_
  rw [hil]
  refine zB (Δ:=zF4 p (N1 + 440 * t.ops.length + 20 * 0)::Γ) ?_
  refine xW (α:=Int) (ι:=Nat) (fun x i=>x = (i:Int)∧i ≤ mks.length) (fun x i=>zF4 p (N1 + 440 * t.ops.length + 20 * i)::Γ) (fun x i=>mks.length - i) 0 ⟨rfl,Nat.zero_le _⟩ ?_
  rintro k2 _ j ⟨rfl,hj⟩ hk2
  unfold uY.b2
  refine zF (fun hb2=>?_) fun hb2=>?_
  ·have hjl:j < mks.length:=by simp only [decide_eq_true_eq] at hb2; omega
   have hge:mks[j]? = some mks[j]:=List.getElem?_eq_getElem hjl
   obtain ⟨h1,h2⟩:=hmk _ (List.getElem_mem hjl)
   generalize mks[j] = m at hge h1 h2
   refine zAc mkL zCZ (fun w hw=>hm w hw.tail) hge ?_
   refine zH fun m7=>?_
   refine qA (b:=m7) (l':=mkL m) ?_
   refine yB (b:=m7) (off:=1) (l:=mkL m) (x:=m.home) ?_
   refine zAW rfl ?_
   have u5:=zBG m.home
   refine zO p ?_
   refine zGN (by omega) (by omega) (by omega) ?_
   refine yB (b:=m7) (off:=2) (l:=mkL m) (x:=m.cnt) ?_
   refine zGN h1 (by omega) (by omega) ?_
   refine qB ?_
   have:=hk2 ((j:Int) + 1) (j + 1) ⟨by simp,hjl⟩ (by omega)
   rw [show N1 + 440 * t.ops.length + 20 * (j + 1) = N1 + 440 * t.ops.length + 20 * j + 10 + 10 by omega] at this
   exact zB this
  ·have hjl:j = mks.length:=by simp only [decide_eq_false_iff_not] at hb2; omega
   exact h _ (by omega)
theorem zQZ {kind ix:Int} {g:y7} {t:TxX} {ms:Sl} {mks:List MkX} {q:Sl→Int→K} (hg0:0 ≤ g.epoch∧g.epoch < 18446744073709551616) (hg1:0 ≤ g.seq∧g.seq < 18446744073709551616) (hmk:∀ m ∈ mks,0 ≤ m.cnt∧m.cnt < 18446744073709551616)
  (hr:∀ w,Holds B Γ w→zCX w t) (hm:∀ w,Holds B Γ w→RdC w ms 3 (mks.flatMap mkL)) (hl:t.reads.length ≤ 1000∧t.writes.length ≤ 1000∧t.ops.length ≤ 1000) (hml:mks.length ≤ 1000)
  (hbad:¬ (zGM kind ix∧zDy 3 g t mks)→HG B Γ (q ⟨none,0,0⟩ 1)) (hgood:zGM kind ix→zDy 3 g t mks→∀ s,HG B Γ (q s 0)) :
  HG B Γ (yN.call (.int .i64 kind::.int .i64 ix::orV g t ms).toArray q):=by
 refine fun w hw=>zIv _ _ _ ?_
 refine hg hw ?_
 clear hw w
 unfold yN
 refine zH fun i1=>?_
 have S2:∀ b:Bool,(b = false ↔ zGM kind ix∧zDy 3 g t mks)→HG B (blk i1 (.cells (.int .i64 kind::.int .i64 ix::orV g t ms).toArray qc (0,0))::Γ) (yN.s2 q ⟨i1,0,none⟩ b):=fun b hb=>by
  unfold yN.s2
  cases b
  ·obtain ⟨hi,ho⟩:=hb.1 rfl
   refine s_f ?_
   refine zVt fun p=>?_
   refine zNI (N:=0) (by simp) ?_
   refine yB (b:=i1) (x:=kind) ?_
   refine zAW rfl ?_
   refine yB (b:=i1) (off:=1) (x:=ix) ?_
   refine zAW rfl ?_
   refine zH fun t46=>?_
   have u1:=zBG kind
   have u2:=zBG ix
   refine zO p ?_
   refine zU0 (L:=[IntKind.wrap .u64 kind,IntKind.wrap .u64 ix]) (fun w hw=>?_) ?_ (by simp) (by omega) ?_
   ·have:=jX (B:=B) (esz:=2) (k:=2) (t:=t46) (cs:=[.int .u64 (IntKind.wrap .u64 kind),.int .u64 (IntKind.wrap .u64 ix)]) rfl w hw
    exact ⟨by simp,fun h=>(by cases h),fun a ha i hi=>this.at' a ha i hi⟩
   ·intro x hx
    simp only [List.mem_cons,List.not_mem_nil,or_false] at hx
    rcases hx with rfl | rfl <;> omega
   refine qI (b:=i1) (off:=2) (l':=orV g t ms) ?_
   refine zX8 ho.1 hg0 hg1 hmk (fun w hw=>hr w hw.drops) (fun w hw=>hm w hw.drops) hml (by simp) fun N' hN'=>?_
   refine zTG fun xs hx=>?_
   refine zZg (by simp only [List.length_cons,List.length_nil] at hN'; omega) fun s=>?_
   exact zB (hgood hi ho s)
  ·refine s_t ?_
   exact zB (hbad fun hh=>by have:=hb.2 hh; cases this)
 have S1:∀ b:Bool,(b = true ↔ zGM kind ix)→HG B (blk i1 (.cells (.int .i64 kind::.int .i64 ix::orV g t ms).toArray qc (0,0))::Γ) (yN.s1 q ⟨i1,0,none⟩ b):=fun b hb=>by
  unfold yN.s1
  cases b
  ·refine s_t ?_
   exact S2 true (by simp only [Bool.true_eq_false,false_iff]; intro hh; have:=hb.2 hh.1; cases this)
  ·refine s_f ?_
   refine qI (b:=i1) (off:=2) (l':=orV g t ms) ?_
   refine zK8 (rg:=3) (fun w hw=>hr w hw.drops) (fun w hw=>hm w hw.drops) hl (by omega) ?_
   have hi:=hb.1 rfl
   by_cases ho:zDy 3 g t mks
   ·rw [if_pos ho]; exact S2 _ ⟨fun _=>⟨hi,ho⟩,fun _=>by simp⟩
   ·rw [if_neg ho]; exact S2 _ ⟨fun h=>by simp at h,fun h=>absurd h.2 ho⟩
 have piece:(kind ≠ 1∨ix ≠ 0)→HG B (blk i1 (.cells (.int .i64 kind::.int .i64 ix::orV g t ms).toArray qc (0,0))::Γ) (Ld ⟨i1,0,none⟩ (Value.int .i64) fun t16=>Ite (decide (t16 = 2)) (Ld ((⟨i1,0,none⟩:Addr).add 1) (Value.int .i64) fun t20=>Ite (decide ((0:Int) ≤ t20)) (Ld ((⟨i1,0,none⟩:Addr).add 1) (Value.int .i64) fun t25=>yN.s1 q ⟨i1,0,none⟩ (decide (t25 < 64))) (yN.s1 q ⟨i1,0,none⟩ false)) (yN.s1 q ⟨i1,0,none⟩ false)):=fun hn=>by
  refine yB (b:=i1) (x:=kind) ?_
  refine zF (fun h2=>?_) fun h2=>?_
  ·simp only [decide_eq_true_eq] at h2
   refine yB (b:=i1) (off:=1) (x:=ix) ?_
   refine zF (fun h3=>?_) fun h3=>?_
   ·simp only [decide_eq_true_eq] at h3
    refine yB (b:=i1) (off:=1) (x:=ix) ?_
    exact S1 _ (by simp only [decide_eq_true_eq,zGM]; omega)
   ·simp only [decide_eq_false_iff_not] at h3
    exact S1 false (by simp only [Bool.false_eq_true,false_iff,zGM]; omega)
  ·simp only [decide_eq_false_iff_not] at h2
   exact S1 false (by simp only [Bool.false_eq_true,false_iff,zGM]; omega)
 refine yB (b:=i1) (x:=kind) ?_
 refine zF (fun h1=>?_) fun h1=>?_
 ·simp only [decide_eq_true_eq] at h1
  refine yB (b:=i1) (off:=1) (x:=ix) ?_
  refine zF (fun h2=>?_) fun h2=>?_
  ·simp only [decide_eq_true_eq] at h2
   exact S1 true (by simp [zGM,h1,h2])
  ·simp only [decide_eq_false_iff_not] at h2
   exact piece (.inr h2)
 ·simp only [decide_eq_false_iff_not] at h1
  exact piece (.inl h1)
end
end
end Go.Proofs.YtdemfamgieonbaaGreat
