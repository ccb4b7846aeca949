/- Texts of the claim SchedTwice, one behind the other. -/
import Derived.Test.YtdemfamgieonbaaGreatSchedTwiceM4
import Derived.Deep.OwnRows
set_option linter.all false
set_option maxRecDepth 100000
namespace Go.Proofs.YtdemfamgieonbaaGreat
section
open Go Go.Sep Go.Sep.Bt Go.RowKit
structure OrG where
 tag:ql
 t:TxX
 ms:Sl
 mks:List MkX
abbrev zCt (x:OrG):List Value:=orV x.tag x.t x.ms
theorem zMD (x:OrG):(zCt x).length = 10:=rfl
abbrev itN (kind ix:Int) (tag:ql) (t:TxX) (ms:Sl):List Value:=.int .i64 kind::.int .i64 ix::orV tag t ms
abbrev itZ:List Value:=[.int .i64 0,.int .i64 0,.int .i64 0,.int .u64 0,.int .u64 0,.int .i64 0,.int .i64 0,Sl.val ⟨none,0,0⟩,Sl.val ⟨none,0,0⟩,Sl.val ⟨none,0,0⟩,.int .i64 0,Sl.val ⟨none,0,0⟩]
def zME (x:OrG):Prop:=(x.t.reads.length ≤ 1000∧x.t.writes.length ≤ 1000∧x.t.ops.length ≤ 1000∧∀ y ∈ x.t.ops,y.1.val.length ≤ 1000000)∧x.mks.length ≤ 1000
section
variable {B:World} {Γ Δ:List zB} {k:K}
theorem zQq {fb N:Nat} {rg:Int} {f:zHk} {x:OrG} {q:Bool→K} (hm:∀ w,Holds B Γ w→RdC w x.ms 3 (x.mks.flatMap mkL)) (hml:x.mks.length ≤ 1000) (hN:N ≤ 1000000000) (h:∀ f' b,HG B (zDt fb rg (N + 1) f'::Γ) (q b)) :
  HG B (zDt fb rg N f::Γ) (qp.call (some ⟨fb,0,none⟩) (zCt x).toArray q):=by
 refine fun w hw=>zFl _ _ _ _ ?_
 refine hg hw ?_
 clear hw w
 unfold qp qp.s1
 refine zR fun o3=>?_
 refine qW (b:=o3) (l:=zCt x) (l':=zCt x) ?_
 refine zJl (L:=x.mks) (fun w hw=>hm w (hw.drops (Δ:=Γ))) hml ?_
 generalize (decide (x.t.kind = 1) && decide ((xS x.mks).length = 1)) = sg
 cases sg
 ·refine s_t ?_ (by rfl)
  refine qW (b:=o3) (l:=zCt x) (l':=qQ x.tag) ?_
  refine zC (Δ:=zDt fb rg N f::Γ) ?_
  exact zQl hN (h _ _)
 ·refine s_f ?_ (by rfl)
  refine zC (Δ:=zDt fb rg N f::Γ) ?_
  exact zPE (by omega) (h f false)
theorem zTh {G:List OrG} {gs:Sl} {region last:Int} {Q:Array Value→Bool→K} (hG:∀ w,Holds B Γ w→RdC w gs 10 (G.flatMap zCt)) (hGr:∀ x ∈ G,∀ w,Holds B Γ w→zCs w x.t∧RdC w x.ms 3 (x.mks.flatMap mkL)) (hs:∀ x ∈ G,zME x) (hl:G.length ≤ 1000)
  (hno:HG B Γ (Q itZ.toArray false)) (hyes:∀ (i:Nat) x t' ms',G[i]? = some x→last < (i:Int)→zUR t' x.t→HG B (SlC yu 3 ms' (x.mks.flatMap mkL)::txC t' Γ) (Q (itN 2 (i:Int) x.tag t' ms').toArray true)) :
  HG B Γ (zCg.call gs region last Q):=by
 refine fun w hw=>zMg _ _ _ _ _ ?_
 have hgn:gs.n = G.length:=zAb zMD (by omega) (hG w hw)
 refine hg hw ?_
 clear hw w
 unfold zCg
 refine zR fun last5=>?_
 refine zR fun t6=>?_
 refine zR fun t7=>?_
 refine fun w hw=>zKR _ _ _ _ ?_
 refine hg hw ?_
 clear hw w
 unfold zC0
 refine zR fun g2=>?_
 refine zR fun r3=>?_
 refine zQp (cs:=[.pointer (some ⟨g2,0,none⟩),.pointer (some ⟨r3,0,none⟩)]) (by kernel_rfl) fun D l r hr hy=>?_
 refine fun w hw=>zK9 (zI7 _ _ _ _ w ?_) fun v w h=>h.2
 refine hg hw ?_
 clear hw w
 unfold yU
 refine fun w hw=>zJk _ _ ?_
 refine hg hw ?_
 clear hw w
 unfold zCK
 refine zNY (rg:=-1) fun fb=>?_
 refine yD (b:=g2) (l:=[gs.val]) (x:=gs) ?_
 refine zC (Δ:=zDt fb (-1) 0 ⟨-1,[]⟩::blk r3 (.cells [.int .i64 region].toArray zAs (0,0))::blk l (.loop r)::blk D (.deferred (some []))::blk t7 (.cells [.bool false].toArray zKn (0,0))::blk t6 (.cells itZ.toArray qF (0,0))::blk last5 (.cells [.int .i64 last].toArray zAs (0,0))::Γ) ?_
 refine vQ (α:=Int) (ι:=Nat×zHk) (fun x i=>x = (i.1:Int)∧i.1 ≤ G.length) (fun x i=>zDt fb (-1) i.1 i.2::blk r3 (.cells [.int .i64 region].toArray zAs (0,0))::blk l (.loop r)::blk D (.deferred (some []))::blk t7 (.cells [.bool false].toArray zKn (0,0))::blk t6 (.cells itZ.toArray qF (0,0))::blk last5 (.cells [.int .i64 last].toArray zAs (0,0))::Γ) (fun x i=>G.length - i.1) (0,⟨-1,[]⟩) ⟨rfl,Nat.zero_le _⟩ ?_
 rintro k' _ ⟨i,f⟩ ⟨rfl,hi⟩ hk'
 simp only at hi hk' ⊢
 unfold yU.b1
 refine zH (fun hb=>?_) fun hb=>?_
 rotate_left
 ·refine zWb ?_
  refine qX (b:=t6) (l':=itZ) ?_
  refine zBY (b:=t7) (l:=[.bool false]) (l':=[.bool false]) ?_ rfl rfl
  refine zPH ?_
  refine qW (b:=t6) (l:=itZ) (l':=itZ) ?_
  refine yD (b:=t7) (l:=[.bool false]) (x:=false) ?_
  exact zC hno
 have hil:i < G.length:=by simp only [decide_eq_true_eq] at hb; omega
 have hge:G[i]? = some G[i]:=List.getElem?_eq_getElem hil
 have hmem:G[i] ∈ G:=List.getElem_mem hil
 generalize G[i] = x at hge hmem
 obtain ⟨hs1,hs2⟩:=hs x hmem
 refine zAw zCt zMD (fun w hw=>hG w (hw.drops (Δ:=Γ))) hge ?_
 refine zR fun o6=>?_
 refine qX (b:=o6) (l':=zCt x) ?_
 refine vk ?_
 refine zBw [blk o6 (.cells (zCt x).toArray yT (0,0)),blk r3 (.cells [.int .i64 region].toArray zAs (0,0))] ?_
 refine zAW (b:=o6) (l:=zCt x) (l':=zCt x) ?_
 refine zX (zDt fb (-1) i f) ?_
 refine zQq (x:=x) (fun w hw=>(hGr x hmem w (hw.drops (Δ:=Γ))).2) hs2 (by omega) fun f' b=>?_
 refine zBC ?_
 have next:∀ {Ψ:List zB},[d:Drops Ψ (zDt fb (-1) (i + 1) f'::blk r3 (.cells [.int .i64 region].toArray zAs (0,0))::blk l (.loop r)::blk D (.deferred (some []))::blk t7 (.cells [.bool false].toArray zKn (0,0))::blk t6 (.cells itZ.toArray qF (0,0))::blk last5 (.cells [.int .i64 last].toArray zAs (0,0))::Γ)] →
   HG B Ψ (yU.s2 (Aft B l r .ret (StN ⟨t6,0,none⟩ 12 itZ.toArray <| St ⟨t7,0,none⟩ (.bool false) <| jV D <| LdN ⟨t6,0,none⟩ 12 fun r0=>Ld ⟨t7,0,none⟩ Value.bool fun r1=>Q r0 r1) (jV D <| LdN ⟨t6,0,none⟩ 12 fun r0=>Ld ⟨t7,0,none⟩ Value.bool fun r1=>Q r0 r1)) k' (yv l) ⟨r3,0,none⟩ (some ⟨fb,0,none⟩) gs (gs.n:Int) (i:Int)):=fun {Ψ d}=>by
  unfold yU.s2
  refine qU ?_
  exact zC (d:=d) (hk' ((i:Int) + 1) (i + 1,f') ⟨by simp,hil⟩ (by simp only; omega))
 have S3:HG B (zDt fb (-1) (i + 1) f'::blk o6 (.cells (zCt x).toArray yT (0,0))::blk r3 (.cells [.int .i64 region].toArray zAs (0,0))::blk l (.loop r)::blk D (.deferred (some []))::blk t7 (.cells [.bool false].toArray zKn (0,0))::blk t6 (.cells itZ.toArray qF (0,0))::blk last5 (.cells [.int .i64 last].toArray zAs (0,0))::Γ) (yU.s3 (Aft B l r .ret (StN ⟨t6,0,none⟩ 12 itZ.toArray <| St ⟨t7,0,none⟩ (.bool false) <| jV D <| LdN ⟨t6,0,none⟩ 12 fun r0=>Ld ⟨t7,0,none⟩ Value.bool fun r1=>Q r0 r1) (jV D <| LdN ⟨t6,0,none⟩ 12 fun r0=>Ld ⟨t7,0,none⟩ Value.bool fun r1=>Q r0 r1)) k' (yv l) ⟨r3,0,none⟩ (some ⟨fb,0,none⟩) (i:Int) ⟨o6,0,none⟩ gs (gs.n:Int) (i:Int) false):=by
  unfold yU.s3
  refine s_f ?_
  refine qW (b:=o6) (l:=zCt x) (l':=zCt x) ?_
  refine zKA (t:=x.t) (mks:=x.mks) (fun w hw=>(hGr x hmem w (hw.drops (Δ:=Γ))).1) (fun w hw=>(hGr x hmem w (hw.drops (Δ:=Γ))).2) hs1 hs2 fun t' ms' ht'=>?_
  refine zh ?_
  refine zTg ?_
  refine zQ l ?_
  refine hy (itN 2 (i:Int) x.tag t' ms').toArray _ _ _ ?_
  refine zR fun p8=>?_
  refine qX (b:=p8) (l':=itN 2 (i:Int) x.tag t' ms') ?_
  refine zQo ?_
  refine yD (b:=p8) (off:=1) (l:=itN 2 (i:Int) x.tag t' ms') (x:=(i:Int)) ?_
  refine yD (b:=last5) (l:=[.int .i64 last]) (x:=last) ?_
  refine zH (fun h1=>?_) fun h1=>?_
  ·have h1':last < (i:Int):=by simpa using h1
   refine qW (b:=p8) (l:=itN 2 (i:Int) x.tag t' ms') (l':=itN 2 (i:Int) x.tag t' ms') ?_
   refine qX (b:=t6) (l':=itN 2 (i:Int) x.tag t' ms') ?_
   refine zBY (b:=t7) (l:=[.bool false]) (l':=[.bool true]) ?_ rfl rfl
   refine zX2 ?_
   refine zJo ?_
   refine s_t ?_ (by rfl)
   refine zWc ?_
   refine zPH ?_
   refine qW (b:=t6) (l:=itN 2 (i:Int) x.tag t' ms') (l':=itN 2 (i:Int) x.tag t' ms') ?_
   refine yD (b:=t7) (l:=[.bool true]) (x:=true) ?_
   exact zC (hyes i x t' ms' hge h1' ht')
  ·refine zWd hr ?_
   refine zJo ?_
   refine s_f ?_ (by rfl)
   exact next
 cases b
 ·refine s_t ?_ (by rfl)
  unfold yU.s3
  refine s_t ?_
  exact next
 ·refine s_f ?_ (by rfl)
  refine zAW (b:=o6) (l:=zCt x) (l':=zCt x) ?_
  refine u6 (b:=r3) (l:=[.int .i64 region]) (x:=region) ?_
  refine zGq (pre:=qQ x.tag++txL x.t) (L:=x.mks) rfl (fun w hw=>(hGr x hmem w (hw.drops (Δ:=Γ))).2) (by omega) fun hh=>?_
  refine zBC ?_
  have hhl:(xS x.mks).length ≤ 1000000:=by
   have h1:=zFN (zDs (if x.mks.length = 0 then [0] else x.mks.map MkX.home))
   rw [zHM] at h1
   have h2:(if x.mks.length = 0 then [0] else x.mks.map MkX.home).length ≤ 1000:=by split <;> simp <;> omega
   unfold xS
   omega
  refine zNa (L:=xS x.mks) (by omega) (fun w hw=>(yh (s:=hh) hw).1) ?_
  generalize decide (region ∈ xS x.mks) = c
  cases c
  ·show HG B _ (yU.s3 _ _ _ _ _ _ _ _ _ _ true)
   unfold yU.s3
   refine s_t ?_
   exact next
  ·exact zC S3
end
end
section
open Go Go.Sep Go.Sep.Bt
structure ItG where
 kind:Int
 ix:Int
 o:OrG
abbrev zDF (x:ItG):List Value:=itN x.kind x.ix x.o.tag x.o.t x.o.ms
theorem zEd (x:ItG):(zDF x).length = 12:=rfl
structure zWe where
 s:Sl
 items:List ItG
def zCu (x:zWe):zB:=SlC qF 12 x.s (x.items.flatMap zDF)
def zHm (o:OrG):zB:=Sep.stars (SlC yu 3 o.ms (o.mks.flatMap mkL)::txC o.t [])
structure zDu where
 logs:List zWe
 gs:Sl
 G:List OrG
 la:List Int
 P:List OrG
abbrev uL (x:zDu):List Value:=x.logs.map (fun l=>l.s.val)++x.gs.val::x.la.map (Value.int .i64)
structure zB5 (Ok:OrG→Prop) (m c:Nat) (x:zDu):Prop where
 ll:x.logs.length = 3
 al:x.la.length = 3
 ok:∀ o ∈ x.P,Ok o∧zME o
 g:∀ o ∈ x.G,o ∈ x.P
 it:∀ l ∈ x.logs,∀ i ∈ l.items,i.o ∈ x.P
 gc:x.G.length ≤ c
 ic:∀ l ∈ x.logs,l.items.length ≤ c
 kd:∀ l ∈ x.logs,∀ i ∈ l.items,i.kind = 1∧i.ix = 0∨i.kind = 2∧0 ≤ i.ix∧i.ix < c
 uq:∀ o ∈ x.P,∀ o' ∈ x.P,o.tag = o'.tag→o.mks = o'.mks∧zEb o.t o'.t
 sq:∀ o ∈ x.P,o.tag.seq ≤ m
 lo:∀ v ∈ x.la,-1 ≤ v∧v ≤ x.G.length
abbrev zIK (tb:Nat) (x:zDu) (Γ:List zB):List zB :=
 blk tb (.cells (uL x).toArray zf (0,0))::Sep.stars (x.logs.map zCu)::SlC yT 10 x.gs (x.G.flatMap zCt)::Sep.stars (x.P.map zHm)::Γ
theorem zEe {x:zDu} {j:Nat} {l:zWe} (h:x.logs[j]? = some l):(uL x)[j]? = some l.s.val:=by
 unfold uL
 rw [List.getElem?_append_left (by rw [List.length_map]; exact (List.getElem?_eq_some_iff.1 h).1),List.getElem?_map,h]; rfl
theorem zTi {x:zDu} (h:x.logs.length = 3):(uL x)[3]? = some x.gs.val:=by
 unfold uL
 rw [List.getElem?_append_right (by rw [List.length_map]; omega),List.length_map,h]; rfl
theorem zX3 {x:zDu} {j:Nat} {v:Int} (h:x.logs.length = 3) (hv:x.la[j]? = some v):(uL x)[4 + j]? = some (.int .i64 v):=by
 unfold uL
 rw [List.getElem?_append_right (by rw [List.length_map]; omega),List.length_map,h,show 4 + j - 3 = j + 1 by omega,List.getElem?_cons_succ,List.getElem?_map,hv]; rfl
section
variable {B:World} {Γ Δ:List zB} {k:K}
theorem zA8 {a:Addr} {b off len:Nat} {i:Int} {kk:Addr→K} [ad:zC2 a b off] (h0:0 ≤ i) (h1:i < len) (h:HG B Γ (kk ⟨b,off + i.toNat,none⟩)):HG B Γ (zAz a len i 1 kk):=fun w hw=>⟨_,h0,h1,by rw [ad.h,uV,Nat.mul_one],h w hw⟩
theorem zFS {x:zDu} (h:x.logs.length = 3) (h2:x.la.length = 3):(uL x).length = 7:=by simp [uL,h,h2]
theorem zR3 {x:zDu} {j:Nat} {v:Int} (h:x.logs.length = 3):(uL x).set (4 + j) (.int .i64 v) = uL { x with la:=x.la.set j v }:=by
 unfold uL
 rw [List.set_append,if_neg (by rw [List.length_map]; omega),List.length_map,h,show 4 + j - 3 = j + 1 by omega,List.set_cons_succ,List.map_set]
theorem zKB {x:zDu} {j:Nat} {l:zWe} (h:j < x.logs.length):(uL x).set (0 + j) l.s.val = uL { x with logs:=x.logs.set j l }:=by
 unfold uL
 rw [Nat.zero_add,List.set_append,if_pos (by rw [List.length_map]; omega),List.map_set]
theorem zDG {P:List OrG} {o:OrG} {w:World} (ho:o ∈ P) (hw:Holds B (Sep.stars (P.map zHm)::Γ) w):zCs w o.t∧RdC w o.ms 3 (o.mks.flatMap mkL):=by
 obtain ⟨Δ,hd⟩:=zCn (F:=zHm) ho hw
 have h1:Holds B (SlC yu 3 o.ms (o.mks.flatMap mkL)::txC o.t Δ) w:=(Holds.flat (Δ:=SlC yu 3 o.ms (o.mks.flatMap mkL)::txC o.t [])).1 hd
 exact ⟨zO8 h1.tail,(yh (s:=o.ms) h1).1⟩
theorem zPI {o:OrG} (h:HG B (zHm o::Γ) k):HG B (SlC yu 3 o.ms (o.mks.flatMap mkL)::txC o.t Γ) k:=fun w hw=>h w ((Holds.flat (Δ:=SlC yu 3 o.ms (o.mks.flatMap mkL)::txC o.t [])).2 hw)
theorem zQr {Ok:OrG→Prop} {tb m c:Nat} {x:zDu} {r:Int} {q:Bool→K} (hr:0 ≤ r∧r < 3) (hx:zB5 Ok m c x) (hc:c ≤ 900) (hOk:∀ o o':OrG,o'.tag = o.tag→o'.mks = o.mks→zEb o'.t o.t→Ok o→Ok o')
  (hno:HG B (zIK tb x Γ) (q false)) (hyes:∀ x' v,zB5 Ok m (c + 1) x'→x'.G = x.G→x.la.getD r.toNat 0 < v→v < x.G.length→x'.la = x.la.set r.toNat v→HG B (zIK tb x' Γ) (q true)) :
  HG B (zIK tb x Γ) (yI.call (some ⟨tb,0,none⟩) r q):=by
 refine fun w hw=>zGp _ _ _ _ ?_
 refine hg hw ?_
 clear hw w
 obtain ⟨la,hla⟩:∃ v,x.la[r.toNat]? = some v:=⟨_,List.getElem?_eq_getElem (by rw [hx.al]; omega)⟩
 obtain ⟨lg,hlg⟩:∃ v,x.logs[r.toNat]? = some v:=⟨_,List.getElem?_eq_getElem (by rw [hx.ll]; omega)⟩
 have hgl:=hx.gc
 unfold yI
 refine vk ?_
 refine zBw [blk tb (.cells (uL x).toArray zf (0,0))] ?_
 refine vg ?_
 refine zA8 hr.1 (by omega) ?_
 refine u6 (b:=tb) (off:=3) (l:=uL x) (x:=x.gs) ?_ (by rw [zAq]; exact zTi hx.ll)
 refine u6 (b:=tb) (off:=4 + r.toNat) (l:=uL x) (x:=la) ?_ (by rw [zAq]; exact zX3 hx.ll hla)
 have hlaD:x.la.getD r.toNat 0 = la:=by rw [List.getD_eq_getElem?_getD,hla]; rfl
 have no:∀ {p5:Nat} {cs:List Value},HG B (blk p5 (.cells cs.toArray qF (0,0))::zIK tb x Γ) (yI.s1 q (some ⟨tb,0,none⟩) r ⟨p5,0,none⟩ false):=fun {p5 cs}=>by
  unfold yI.s1 yI.s2
  refine s_f ?_
  exact zC hno
 have yes:∀ {p5:Nat} (i:Nat) (o:OrG) (t':TxX) (ms':Sl),x.G[i]? = some o→la < (i:Int)→zUR t' o.t →
   HG B (blk p5 (.cells (itN 2 (i:Int) o.tag t' ms').toArray qF (0,0))::SlC yu 3 ms' (o.mks.flatMap mkL)::txC t' (zIK tb x Γ)) (yI.s1 q (some ⟨tb,0,none⟩) r ⟨p5,0,none⟩ true):=fun {p5} i o t' ms' hGi hlt ht'=>by
  have hmem:o ∈ x.G:=List.mem_of_getElem? hGi
  have hil:i < x.G.length:=(List.getElem?_eq_some_iff.1 hGi).1
  obtain ⟨ho1,ho2⟩:=hx.ok o (hx.g o hmem)
  unfold yI.s1 yI.s2
  refine s_t ?_
  refine vk ?_
  refine vg ?_
  refine yD (b:=p5) (off:=1) (l:=itN 2 (i:Int) o.tag t' ms') (x:=(i:Int)) ?_
  refine zA8 hr.1 (by omega) ?_
  refine zBY (b:=tb) (off:=4 + r.toNat) (l:=uL x) (l':=uL { x with la:=x.la.set r.toNat (i:Int) }) ?_ (Nat.ble_eq_true_of_le (by rw [zFS hx.ll hx.al]; omega)) (zR3 hx.ll) rfl
  refine vk ?_
  refine zBw [blk tb (.cells (uL { x with la:=x.la.set r.toNat (i:Int) }).toArray zf (0,0)),blk p5 (.cells (itN 2 (i:Int) o.tag t' ms').toArray qF (0,0))] ?_
  refine zA8 hr.1 (by omega) ?_
  refine u6 (b:=tb) (off:=0 + r.toNat) (l:=uL { x with la:=x.la.set r.toNat (i:Int) }) (x:=lg.s) ?_ (by rw [zAq,Nat.zero_add]; exact zEe hlg)
  refine zAW (b:=p5) (l:=itN 2 (i:Int) o.tag t' ms') (l':=itN 2 (i:Int) o.tag t' ms') ?_
  refine zBp (cs:=itN 2 (i:Int) o.tag t' ms') ?_
  refine zR fun t39=>?_
  refine zBC ?_
  have hjl:r.toNat < x.logs.length:=by rw [hx.ll]; omega
  have hsp:=List.take_append_drop r.toNat x.logs
  rw [List.drop_eq_getElem_cons hjl,(List.getElem?_eq_some_iff.1 hlg).2] at hsp
  have hsl:(x.logs.take r.toNat).length = r.toNat:=by rw [List.length_take]; omega
  generalize x.logs.take r.toNat = A at hsp hsl
  generalize x.logs.drop (r.toNat + 1) = C at hsp
  have hlgm:lg ∈ x.logs:=List.mem_of_getElem? hlg
  have hlc:=hx.ic lg hlgm
  have e1:Sep.stars (x.logs.map zCu) = Sep.stars ((A++lg::C).map zCu):=by rw [hsp]
  refine zX (Sep.stars (x.logs.map zCu)) ?_
  rw [e1]
  refine zEk ?_
  show HG B (SlC qF 12 lg.s (lg.items.flatMap zDF)::_) _
  refine yS lg.s fun b1 b2 b3 b4=>?_
  rw [zn _ 12 zEd] at b1
  refine xR (s:=lg.s) (esz:=12) (us:=itN 2 (i:Int) o.tag t' ms') (zAX rfl) (by simp [yX]) (by simp only; omega) fun s' _=>?_
  refine zA8 hr.1 (by omega) ?_
  generalize hit:(⟨2,(i:Int),⟨o.tag,t',ms',o.mks⟩⟩:ItG) = it
  have hitF:itN 2 (i:Int) o.tag t' ms' = zDF it:=by rw [← hit]
  rw [hitF,show lg.items.flatMap zDF++zDF it = (lg.items++[it]).flatMap zDF by simp]
  refine zBY (b:=tb) (off:=0 + r.toNat) (l:=uL { x with la:=x.la.set r.toNat (i:Int) }) (l':=uL { x with la:=x.la.set r.toNat (i:Int),logs:=x.logs.set r.toNat ⟨s',lg.items++[it]⟩ }) ?_ (Nat.ble_eq_true_of_le (by rw [zFS (by exact hx.ll) (by simp [hx.al])]; omega)) (zKB (x:={ x with la:=x.la.set r.toNat (i:Int) }) (l:=⟨s',lg.items++[it]⟩) hjl) rfl
  have hset:x.logs.set r.toNat ⟨s',lg.items++[it]⟩ = A++⟨s',lg.items++[it]⟩::C:=by
   rw [← hsp,← hsl]; simp
  generalize hx':({ logs:=x.logs.set r.toNat ⟨s',lg.items++[it]⟩,gs:=x.gs,G:=x.G,la:=x.la.set r.toNat (i:Int),P:=x.P++[⟨o.tag,t',ms',o.mks⟩] }:zDu) = x'
  have ho':Ok ⟨o.tag,t',ms',o.mks⟩:=hOk o _ rfl rfl ht' ho1
  have hsm:zME ⟨o.tag,t',ms',o.mks⟩:=by
   obtain ⟨⟨a1,a2,a3,a4⟩,a5⟩:=ho2
   obtain ⟨g1,g2,g3,g4,g5⟩:=ht'
   have e5:=congrArg List.length g5
   simp only [List.length_map] at e5
   refine ⟨⟨by simp only; rw [g3]; exact a1,by simp only; rw [g4]; exact a2,by simp only; rw [e5]; exact a3,fun y hy=>?_⟩,a5⟩
   have h1:y.1 ∈ o.t.ops.map Prod.fst:=by rw [← g5]; exact List.mem_map.2 ⟨y,hy,rfl⟩
   obtain ⟨z,hz,e⟩:=List.mem_map.1 h1
   rw [← e]; exact a4 z hz
  have hmemL:∀ l,l ∈ x.logs.set r.toNat ⟨s',lg.items++[it]⟩→l ∈ x.logs∨l = ⟨s',lg.items++[it]⟩:=fun l hl=>List.mem_or_eq_of_mem_set hl
  have hxok:zB5 Ok m (c + 1) x':=by
   rw [← hx']
   refine ⟨by simp [hx.ll],by simp [hx.al],fun y hy=>?_,fun y hy=>List.mem_append_left _ (hx.g y hy),fun l hl j hj=>?_,by simp only; omega,fun l hl=>?_,fun l hl j hj=>?_,fun y hy y' hy' he=>?_,fun y hy=>?_,fun v hv=>?_⟩
   ·rcases List.mem_append.1 hy with hy | hy
    ·exact hx.ok y hy
    ·rw [List.mem_singleton.1 hy]; exact ⟨ho',hsm⟩
   ·rcases hmemL l hl with hl | rfl
    ·exact List.mem_append_left _ (hx.it l hl j hj)
    ·rcases List.mem_append.1 hj with hj | hj
     ·exact List.mem_append_left _ (hx.it lg hlgm j hj)
     ·rw [List.mem_singleton.1 hj,← hit]; simp
   ·rcases hmemL l hl with hl | rfl
    ·have:=hx.ic l hl; omega
    ·simp; omega
   ·rcases hmemL l hl with hl | rfl
    ·have:=hx.kd l hl j hj; omega
    ·rcases List.mem_append.1 hj with hj | hj
     ·have:=hx.kd lg hlgm j hj; omega
     ·rw [List.mem_singleton.1 hj,← hit]
      refine .inr ⟨rfl,by simp only; omega,by simp only; omega⟩
   ·have hsy:zEb o.t t':=⟨ht'.1.symm,ht'.2.1.symm,ht'.2.2.1.symm,ht'.2.2.2.1.symm,ht'.2.2.2.2.symm⟩
    have tr:∀ {p q r:TxX},zEb p q→zEb q r→zEb p r:=fun h1 h2=>⟨h1.1.trans h2.1,h1.2.1.trans h2.2.1,h1.2.2.1.trans h2.2.2.1,h1.2.2.2.1.trans h2.2.2.2.1,h1.2.2.2.2.trans h2.2.2.2.2⟩
    rcases List.mem_append.1 hy with hy | hy
    ·rcases List.mem_append.1 hy' with hy' | hy'
     ·exact hx.uq y hy y' hy' he
     ·rw [List.mem_singleton.1 hy'] at he ⊢
      obtain ⟨u1,u2⟩:=hx.uq y hy o (hx.g o hmem) he
      exact ⟨u1,tr u2 hsy⟩
    ·rw [List.mem_singleton.1 hy] at he ⊢
     rcases List.mem_append.1 hy' with hy' | hy'
     ·obtain ⟨u1,u2⟩:=hx.uq o (hx.g o hmem) y' hy' he
      exact ⟨u1,tr ht' u2⟩
     ·rw [List.mem_singleton.1 hy']
      exact ⟨rfl,tr ht' hsy⟩
   ·rcases List.mem_append.1 hy with hy | hy
    ·exact hx.sq y hy
    ·rw [List.mem_singleton.1 hy]
     exact hx.sq o (hx.g o hmem)
   ·rcases List.mem_or_eq_of_mem_set hv with hv | rfl
    ·exact hx.lo v hv
    ·simp only; omega
  have hfin:=hyes x' (i:Int) hxok (by rw [← hx']) (by rw [hlaD]; exact hlt) (by omega) (by rw [← hx'])
  refine zC (Δ:=SlC qF 12 s' ((lg.items++[it]).flatMap zDF)::Sep.stars ((A++C).map zCu)::SlC yu 3 ms' (o.mks.flatMap mkL)::txC t' (Sep.stars (x.P.map zHm)::blk tb (.cells (uL { x with la:=x.la.set r.toNat (i:Int),logs:=x.logs.set r.toNat ⟨s',lg.items++[it]⟩ }).toArray zf (0,0))::SlC yT 10 x.gs (x.G.flatMap zCt)::Γ)) ?_
  show HG B (zCu ⟨s',lg.items++[it]⟩::_) _
  refine zAG ?_
  rw [← hset]
  refine zq ms' ?_
  refine zC (Δ:=SlC yu 3 ms' (o.mks.flatMap mkL)::txC t' (Sep.stars (x.P.map zHm)::Sep.stars ((x.logs.set r.toNat ⟨s',lg.items++[it]⟩).map zCu)::blk tb (.cells (uL { x with la:=x.la.set r.toNat (i:Int),logs:=x.logs.set r.toNat ⟨s',lg.items++[it]⟩ }).toArray zf (0,0))::SlC yT 10 x.gs (x.G.flatMap zCt)::Γ)) ?_
  refine zPI (o:=⟨o.tag,t',ms',o.mks⟩) ?_
  refine zHO ?_
  subst hx'
  exact zC hfin
 have rdG:∀ {Ψ:List zB},[d:Drops Ψ [Sep.stars (x.P.map zHm)]]→∀ o ∈ x.G,∀ w,Holds B Ψ w→zCs w o.t∧RdC w o.ms 3 (o.mks.flatMap mkL):=fun {Ψ d} o ho w hw=>zDG (Γ:=[]) (hx.g o ho) (hw.drops (d:=d))
 refine zJK ?_ ?_
 ·refine zTh (G:=x.G) (fun w hw=>(yh (s:=x.gs) hw).1) (rdG) (fun o ho=>(hx.ok o (hx.g o ho)).2) (by omega) ?_ fun i o t' ms' hGi hlt ht'=>?_
  ·refine zR fun p5=>?_
   refine qX (b:=p5) (l':=itZ) ?_
   exact no
  ·refine zR fun p5=>?_
   refine qX (b:=p5) (l':=itN 2 (i:Int) o.tag t' ms') ?_
   exact yes i o t' ms' hGi hlt ht'
 ·refine zR fun p5=>?_
  refine zBC ?_
  refine zTh (G:=x.G) (fun w hw=>(yh (s:=x.gs) hw).1) (rdG) (fun o ho=>(hx.ok o (hx.g o ho)).2) (by omega) ?_ fun i o t' ms' hGi hlt ht'=>?_
  ·refine qX (b:=p5) (l':=itZ) ?_
   exact no
  ·refine qX (b:=p5) (l':=itN 2 (i:Int) o.tag t' ms') ?_
   exact zC (yes i o t' ms' hGi hlt ht')
end
end
section
open Go Go.Sep Go.Sep.Bt
abbrev itV (kind ix:Int) (tag:ql) (t:TxX) (ms:Sl):List Value:=.int .i64 kind::.int .i64 ix::orV tag t ms
abbrev tgB (tb:Nat) (tag:ql):zB:=blk tb (.cells (qQ tag).toArray xW (0,0))
abbrev rgB (rb:Nat) (r:Int):zB:=blk rb (.cells [.int .i64 r].toArray zAs (0,0))
abbrev itB (ib:Nat) (kind ix:Int) (tag:ql) (t:TxX) (ms:Sl):zB:=blk ib (.cells (itV kind ix tag t ms).toArray qF (0,0))
theorem zQs {tag:ql} {r:Int} {j:zD8} {C:List zD8} (hj:j.tag = tag):∀ {A:List zD8},(∀ y ∈ A,y.tag ≠ tag)→zJn tag r (A++j::C) = A++{ j with need:=j.need.filter fun h=>!decide (h = r) }::C
 | [],_=>by simp [zJn,hj]
 | x::A,h=>by
  rw [List.cons_append]
  unfold zJn
  rw [if_neg (h x List.mem_cons_self),zQs hj fun y hy=>h y (List.mem_cons_of_mem _ hy)]
  rfl
section
variable {B:World} {Γ Δ:List zB} {k:K} {sd st l n T:Nat} {S:jk} {a b c:Sl} {F:List FX} {J:List zAp} {t:TxX} {mks:List MkX} {ms:Sl} {tag:ql} {r kind ix:Int}
theorem zWf {q:Sl→K} (ho:zFR n T S F J) (hT:T ≤ 20000) (h:∀ (s:Sl) (D:List DcX),D.map zHl = (zFQ n S).2→D.length ≤ T→HG B (SlC qE 6 s (D.flatMap dcF)::Sep.stars (D.map dcO)::zBG sd n T (zFQ n S).1::Γ) (q s)) :
  HG B (zEN sd st l n T S a b c F J Γ) (xJ.call (some ⟨sd,0,none⟩) q):=by
 obtain ⟨K,hK,hKl⟩:=ho.gz
 have hjl:=ho.jl
 have hml:=ho.ml
 have hsj:=ho.jobs
 refine zXz (T:=K) ho.ok hK (by omega) (by omega) fun s D c' J' hD hJ' hmem hlen hM hG=>?_
 unfold zFQ at h
 rw [← hsj] at h
 have hjl2:(J.map zB3).length = J.length:=List.length_map _
 rw [hjl2] at h
 refine zC (Δ:=zEN sd st l n T (⟨(zAO n J.length (J.map zB3) S.M S.G).1.2.1,(zAO n J.length (J.map zB3) S.M S.G).1.2.2,S.fils,S.fed,(zAO n J.length (J.map zB3) S.M S.G).1.1⟩:jk) a b c' F J' (SlC qE 6 s (D.flatMap dcF)::Sep.stars (D.map dcO)::Γ)) ?_
 refine zB4 ⟨ho.n1,ho.n3,ho.fils,ho.rgs,ho.fedl,ho.fedr,hJ',fun j hj=>ho.ok j (hmem j hj),by omega,⟨K + D.length,hG,by omega⟩,by simp only; omega⟩ ?_
 exact zC (h s D hD (by omega))
theorem zYw {A C:List zAp} {j:zAp} {K rb tb:Nat} {ms2:Sl} {mk2:List MkX} {q:Sl→Sep.K} (hT:T ≤ 20000) (hJ:J = A++j::C) (hA:∀ y ∈ A,y.tag ≠ tag) (hj:j.tag = tag) (ho:zFR n T S F J) (hK:SzG K S.G) (hKl:K + J.length + mk2.length ≤ 40 * T)
  (hm:∀ w,Holds B Γ w→RdC w ms2 3 (mk2.flatMap mkL)) (hk:∀ m ∈ mk2,m.key.length < 1000000000)
  (h:∀ (s:Sl) (D:List DcX),D.map zHl = (zFQ n ⟨S.M,zBF n S.M tag (mk2.map mM) S.G,S.fils,S.fed,zJn tag r S.jobs⟩).2→D.length ≤ T→HG B (SlC qE 6 s (D.flatMap dcF)::Sep.stars (D.map dcO)::zBG sd n T (zFQ n ⟨S.M,zBF n S.M tag (mk2.map mM) S.G,S.fils,S.fed,zJn tag r S.jobs⟩).1::Γ) (q s)) :
  HG B (zEN sd st l n T S a b c F J (rgB rb r::tgB tb tag::Γ)) (zL.s3 q ⟨sd,0,none⟩ ⟨rb,0,none⟩ ⟨tb,0,none⟩ ms2 (zDf j)):=by
 subst hJ
 have hoj:=ho.ok j (by simp)
 have hlen:(A++j::C).length = A.length + (C.length + 1):=by simp
 unfold zL.s3
 refine vg ?_
 refine zX (Sep.stars ((A++j::C).map zEw)) ?_
 refine zEk ?_
 refine zQm ?_
 refine yD (b:=j.b) (off:=10) (l:=zMk j) (x:=j.ns) ?_
 refine zq j.ns ?_
 refine zR2 (L:=j.need) (by have:=hoj.nl; omega) fun ns'=>?_
 refine zBY (b:=j.b) (off:=10) (l:=zMk j) (l':=zMk { j with ns:=ns',need:=j.need.filter fun x=>!decide (x = r) }) ?_ rfl rfl
 refine zC (Δ:=zRx { j with ns:=ns',need:=j.need.filter fun x=>!decide (x = r) } (Sep.stars ((A++C).map zEw)::blk sd (.cells (sdL st l a b c).toArray qB (0,0))::vH l S.G.1 S.G.2::ze st n S.M::SlC jf 1 c (((A++j::C).map zDf).map Value.pointer)::SlC uW 1 a ((F.map zIJ).map Value.pointer)::Sep.stars (F.map (zEh T))::SlI b S.fed::tgB tb tag::Γ)) ?_
 refine zJA ?_
 refine zAG ?_
 rw [show ((A++j::C).map zDf).map Value.pointer = ((A++{ j with ns:=ns',need:=j.need.filter fun x=>!decide (x = r) }::C).map zDf).map Value.pointer by simp]
 refine vk ?_
 refine yD (b:=sd) (off:=1) (l:=sdL st l a b c) (x:=some ⟨l,0,none⟩) ?_
 refine yD (b:=sd) (l:=sdL st l a b c) (x:=some ⟨st,0,none⟩) ?_
 refine qW (b:=tb) (l:=qQ tag) (l':=qQ tag) ?_
 refine zQ st ?_
 refine zQ l ?_
 refine zVq (L:=mk2.map mM) (N:=K) (fun w hw=>by rw [zX0]; exact hm w (hw.drops (Δ:=Γ))) (fun m hm=>by obtain ⟨x,hx,rfl⟩:=List.mem_map.1 hm; exact hk x hx) hK.gsz (by rw [List.length_map]; omega) ?_
 show HG B (vH l (zBF n S.M tag (mk2.map mM) S.G).1 (zBF n S.M tag (mk2.map mM) S.G).2::_) _
 generalize hj':({ j with ns:=ns',need:=j.need.filter fun x=>!decide (x = r) }:zAp) = j'
 have hje:zB3 j' = { zB3 j with need:=(zB3 j).need.filter fun h=>!decide (h = r) }:=by rw [← hj']; rfl
 have hup:(A++j'::C).map zB3 = zJn tag r S.jobs:=by
  rw [← ho.jobs,zMA,zMA,hje,zQs (by exact hj) (fun y hy=>by obtain ⟨z,hz,rfl⟩:=List.mem_map.1 hy; exact hA z hz)]
 refine zC (Δ:=zEN sd st l n T (⟨S.M,zBF n S.M tag (mk2.map mM) S.G,S.fils,S.fed,zJn tag r S.jobs⟩:jk) a b c F (A++j'::C) Γ) ?_
 refine zWf ⟨ho.n1,ho.n3,ho.fils,ho.rgs,ho.fedl,ho.fedr,hup,fun y hy=>?_,?_,⟨K + mk2.length,?_,?_⟩,?_⟩ hT h
 ·rcases List.mem_append.1 hy with hy | hy
  ·exact ho.ok y (List.mem_append_left _ hy)
  rcases List.mem_cons.1 hy with rfl | hy
  ·rw [← hj']
   exact ⟨hoj.ord,hoj.nn,by have:=hoj.nl; have:=List.length_filter_le (fun x=>!decide (x = r)) j.need; simp only; omega⟩
  ·exact ho.ok y (List.mem_append_right _ (List.mem_cons_of_mem _ hy))
 ·have:=ho.jl; simpa using this
 ·have:=hK.enters (n:=n) (S:=S.M) (tag:=tag) (L:=mk2.map mM)
  rwa [List.length_map] at this
 ·simp only [List.length_append,List.length_cons] at hKl ⊢; omega
 ·have:=ho.ml; simpa using this
theorem zas {A C:List zAp} {j:zAp} {K rb tb ib:Nat} {q:Sl→Sep.K} (hT:T ≤ 20000) (hJ:J = A++j::C) (hA:∀ y ∈ A,y.tag ≠ tag) (hj:j.tag = tag) (ho:zFR n T S F J) (hK:SzG K S.G) (hKl:K + J.length + mks.length ≤ 40 * T) (hml:mks.length ≤ 1000)
  (hm:∀ w,Holds B Γ w→RdC w ms 3 (mks.flatMap mkL)) (hk:∀ m ∈ mks,m.key.length < 1000000000)
  (h:∀ (s:Sl) (D:List DcX),D.map zHl = (zFQ n (zPG n r kind tag mks S.jobs S)).2→D.length ≤ T→HG B (SlC qE 6 s (D.flatMap dcF)::Sep.stars (D.map dcO)::zBG sd n T (zFQ n (zPG n r kind tag mks S.jobs S)).1::Γ) (q s)) :
  HG B (zEN sd st l n T S a b c F J (rgB rb r::tgB tb tag::itB ib kind ix tag t ms::Γ)) (zL.s2 q ⟨sd,0,none⟩ ⟨rb,0,none⟩ ⟨ib,0,none⟩ ⟨tb,0,none⟩ ms (zDf j)):=by
 unfold zL.s2
 unfold zPG zK0 at h
 refine yD (b:=ib) (l:=itV kind ix tag t ms) (x:=kind) ?_
 refine zH (fun h1=>?_) fun h1=>?_
 ·have h1':kind = 2:=by simpa using h1
  simp only [h1',if_true] at h
  refine qW (b:=ib) (off:=2) (l:=itV kind ix tag t ms) (l':=orV tag t ms) ?_
  refine yD (b:=rb) (l:=[.int .i64 r]) (x:=r) ?_
  refine zX1 (mks:=mks) (fun w hw=>hm w (hw.drops (Δ:=Γ))) hml fun s=>?_
  have hfl:=List.length_filter_le (fun m:MkX=>decide (m.home = r)) mks
  refine zC (Δ:=zEN sd st l n T S a b c F J (rgB rb r::tgB tb tag::SlC yu 3 s ((mks.filter fun m=>decide (m.home = r)).flatMap mkL)::Γ)) ?_
  refine zYw (mk2:=mks.filter fun m=>decide (m.home = r)) hT hJ hA hj ho hK (by omega) (fun w hw=>(yh (s:=s) hw).1) (fun m hm=>hk m (List.mem_filter.1 hm).1) fun s2 D hD hDl=>?_
  exact zC (h s2 D hD hDl)
 ·have h1':¬ kind = 2:=by simpa using h1
  simp only [h1',if_false] at h
  refine zC (Δ:=zEN sd st l n T S a b c F J (rgB rb r::tgB tb tag::Γ)) ?_
  exact zYw (mk2:=mks) hT hJ hA hj ho hK hKl hm hk h
theorem zFR.up (ho:zFR n T S F J):zFR n (T + 1) S F J:=by
 obtain ⟨K,hK,hKl⟩:=ho.gz
 have:=ho.jl
 have:=ho.ml
 exact ⟨ho.n1,ho.n3,ho.fils,ho.rgs,ho.fedl,fun x hx=>by have:=ho.fedr x hx; omega,ho.jobs,ho.ok,by omega,⟨K,hK,by omega⟩,by omega⟩
theorem zZn (h:HG B (zBG sd n (T + 1) S::Γ) k):HG B (zBG sd n T S::Γ) k:=zHz fun st l a b c F J ho=>by
 refine zX (Sep.stars (F.map (zEh T))) ?_
 refine zTf (N':=T + 1) (by omega) ?_
 refine zC (Δ:=zEN sd st l n (T + 1) S a b c F J Γ) ?_
 exact zB4 ho.up h
theorem zWg (h:HG B (SlC qE 6 ⟨none,0,0⟩ (([]:List DcX).flatMap dcF)::Sep.stars (([]:List DcX).map dcO)::Γ) k):HG B Γ k:=fun w hw=>h w ((hw.zCv).zAk _ _)
theorem zWh (ho:zFR n T S F J) (h:0 ≤ r∧r < n):∃ FA xb xf FC,F = FA++⟨xb,r,xf⟩::FC∧FA.length = r.toNat∧S.fils.getD r.toNat ⟨-1,[]⟩ = xf∧∀ f',(FA++⟨xb,r,f'⟩::FC).map FX.f = S.fils.set r.toNat f'∧(FA++(⟨xb,r,f'⟩:FX)::FC).map FX.rg = F.map FX.rg:=by
 have hl:F.length = n:=by have:=congrArg List.length ho.rgs; simpa using this
 have hi:r.toNat < F.length:=by omega
 have e:=List.take_append_drop r.toNat F
 rw [List.drop_eq_getElem_cons hi] at e
 have hrg:F[r.toNat].rg = r:=by
  have h1:(F.map FX.rg)[r.toNat]? = some F[r.toNat].rg:=by rw [List.getElem?_map,List.getElem?_eq_getElem hi]; rfl
  rw [ho.rgs,List.getElem?_map,List.getElem?_range (by omega)] at h1
  simp only [Option.map_some,Option.some.injEq] at h1
  omega
 generalize F[r.toNat] = x at e hrg
 obtain ⟨xb,xr,xf⟩:=x
 simp only at hrg
 subst hrg
 have hl2:(F.take xr.toNat).length = xr.toNat:=by rw [List.length_take]; omega
 generalize F.take xr.toNat = FA at e hl2
 generalize F.drop (xr.toNat + 1) = FC at e
 refine ⟨FA,xb,xf,FC,e.symm,hl2,?_,fun f'=>⟨?_,by rw [← e]; simp⟩⟩
 ·rw [← ho.fils,← e,List.map_append,List.getD_eq_getElem?_getD,List.getElem?_append_right (by simp [hl2])]
  simp [hl2]
 ·rw [← ho.fils,← e,List.map_append,List.map_append,List.map_cons,List.map_cons,show xr.toNat = (FA.map FX.f).length by simp [hl2]]
  simp
theorem zFo {q:Sl→Sep.K} (hT:T + 1 ≤ 20000) (hr:∀ w,Holds B Γ w→zCs w t) (hm:∀ w,Holds B Γ w→RdC w ms 3 (mks.flatMap mkL)) (hnn:∀ x ∈ t.ops,-9223372036854775808 ≤ x.1.n∧x.1.n ≤ 9223372036854775807)
  (hg0:0 ≤ tag.epoch∧tag.epoch < 18446744073709551616) (hg1:0 ≤ tag.seq∧tag.seq < 18446744073709551616) (hmk:∀ m ∈ mks,0 ≤ m.cnt∧m.cnt < 18446744073709551616)
  (hl:t.reads.length ≤ 1000∧t.writes.length ≤ 1000∧t.ops.length ≤ 1000) (hml:mks.length ≤ 1000)
  (h:∀ (s:Sl) (D:List DcX),D.map zHl = (j5 n r kind ix tag t mks S).2→D.length ≤ T + 1→HG B (SlC qE 6 s (D.flatMap dcF)::Sep.stars (D.map dcO)::zBG sd n (T + 1) (j5 n r kind ix tag t mks S).1::Γ) (q s)) :
  HG B (zBG sd n T S::Γ) (zL.call (some ⟨sd,0,none⟩) r (itV kind ix tag t ms).toArray q):=by
 refine fun w hw=>zHe _ _ _ _ _ ?_
 refine hg hw ?_
 clear hw w
 refine zHz fun st l a b c F J ho=>?_
 unfold zL
 refine zR fun rb=>?_
 refine zR fun ib=>?_
 refine qW (b:=ib) (l:=itV kind ix tag t ms) (l':=itV kind ix tag t ms) ?_
 have bad:¬ zGr n r kind ix tag t mks→HG B (itB ib kind ix tag t ms::rgB rb r::zEN sd st l n T S a b c F J Γ) (zL.s1 q (some ⟨sd,0,none⟩) ⟨rb,0,none⟩ ⟨ib,0,none⟩ true):=fun hb=>by
  unfold zL.s1
  refine s_t ?_
  unfold j5 at h
  rw [if_neg hb] at h
  refine zC (Δ:=zEN sd st l n T S a b c F J Γ) ?_
  refine zB4 ho ?_
  refine zZn ?_
  refine zWg ?_
  exact h ⟨none,0,0⟩ [] rfl (by simp)
 refine zPD (mks:=mks) hg0 hg1 hmk (fun w hw=>hr w (hw.drops (Δ:=Γ))) (fun w hw=>hm w (hw.drops (Δ:=Γ))) hl hml (fun hb=>?_) fun hi h3 s0=>?_
 ·refine vk ?_
  refine zBw [itB ib kind ix tag t ms,rgB rb r] ?_
  refine s_t ?_
  exact bad fun hh=>hb ⟨hh.1,hh.2.1⟩
 refine vk ?_
 refine zBw [itB ib kind ix tag t ms,rgB rb r,blk sd (.cells (sdL st l a b c).toArray qB (0,0))] ?_
 refine s_f ?_
 refine u6 (b:=rb) (l:=[.int .i64 r]) (x:=r) ?_
 refine zq b ?_
 refine zQ sd ?_
 refine zMC (n:=n) ho.fedl ?_
 refine zBC ?_
 by_cases hrn:0 ≤ r∧r < n
 rotate_left
 ·rw [decide_eq_false hrn]
  refine s_t ?_
  exact zC (bad fun hh=>hrn hh.2.2.1)
 rw [decide_eq_true hrn]
 refine s_f ?_
 refine vg ?_
 refine zAW (b:=ib) (off:=2) (l:=itV kind ix tag t ms) (l':=orV tag t ms) ?_
 refine u6 (b:=sd) (off:=3) (l:=sdL st l a b c) (x:=b) ?_
 refine yS b fun a1 a2 a3 a4=>?_
 rw [List.length_map,Nat.mul_one,ho.fedl] at a1
 rw [← a1]
 refine zJ8 (mks:=mks) (fun w hw=>hr w (hw.drops (Δ:=Γ))) (fun w hw=>hm w (hw.drops (Δ:=Γ))) hl (by omega) ?_
 by_cases hon:zDO (n:Int) tag t mks
 rotate_left
 ·rw [if_neg hon]
  exact zC (bad fun hh=>hon hh.2.2.2)
 rw [if_pos hon]
 have hok:zGr n r kind ix tag t mks:=⟨hi,h3,hrn,hon⟩
 unfold j5 at h
 rw [if_pos hok] at h
 obtain ⟨k1,k2,k3,k4⟩:=zEc hon.1
 have hmks:=hon.2.2.1
 have hkl:=zHK (t.reads++t.writes)
 have hml8:mks.length ≤ 8:=by
  have:=congrArg List.length hmks
  rw [List.length_map] at this
  rw [List.length_append] at hkl
  omega
 have hkk:∀ m ∈ mks,m.key.length < 1000000000:=fun m hm=>by
  have h1:m.key ∈ jW (t.reads++t.writes):=by rw [← hmks]; exact List.mem_map.2 ⟨m,hm,rfl⟩
  have:=k1 _ (zJh.1 h1)
  omega
 obtain ⟨FA,xb,xf,FC,rfl,hFl,hgf,hset⟩:=zWh ho hrn
 obtain ⟨K,hK,hKl⟩:=ho.gz
 have hjl:=ho.jl
 have hmlM:=ho.ml
 show HG B _ (zL.s1 q (some ⟨sd,0,none⟩) ⟨rb,0,none⟩ ⟨ib,0,none⟩ false)
 unfold zL.s1
 refine s_f ?_
 refine vk ?_
 refine vg ?_
 refine yD (b:=sd) (off:=3) (l:=sdL st l a b c) (x:=b) ?_
 refine yD (b:=rb) (l:=[.int .i64 r]) (x:=r) ?_
 have hri:r.toNat < S.fed.length:=by rw [ho.fedl]; omega
 have hge:S.fed[r.toNat]? = some (S.fed.getD r.toNat 0):=by rw [List.getD_eq_getElem?_getD,List.getElem?_eq_getElem hri]; rfl
 have hfx:=ho.fedr (S.fed.getD r.toNat 0) (List.mem_of_getElem? hge)
 refine zAA (L:=S.fed) (c:=Value.int .i64) (j:=r.toNat) (x:=S.fed.getD r.toNat 0) (fun w hw=>(yh (s:=b) hw).1) hge ?_ (by omega)
 refine qU ?_
 refine vZ (s:=b) (i:=r.toNat) ?_ (by omega) (by omega)
 rw [← add0 (elA b r.toNat 1)]
 refine zPx (s:=b) ?_ (by simp only [List.length_map]; omega)
 rw [show r.toNat * 1 + 0 = r.toNat by omega,← List.map_set]
 refine vk ?_
 refine yD (b:=sd) (off:=2) (l:=sdL st l a b c) (x:=a) ?_
 refine yD (b:=rb) (l:=[.int .i64 r]) (x:=r) ?_
 refine zAA (c:=Value.pointer) (L:=(FA++⟨xb,r,xf⟩::FC).map zIJ) (j:=r.toNat) (x:=zIJ ⟨xb,r,xf⟩) (fun w hw=>(yh (s:=a) hw).1) (by rw [← hFl]; simp) ?_ (by omega)
 refine qW (b:=ib) (l:=itV kind ix tag t ms) (l':=itV kind ix tag t ms) ?_
 refine zX (Sep.stars ((FA++(⟨xb,r,xf⟩:FX)::FC).map (zEh T))) ?_
 refine zEk ?_
 refine zRw (fb:=xb) (rg:=r) (f:=xf) (N:=T) (t:=t) (mks:=mks) (fun w hw=>hm w (hw.drops (Δ:=Γ))) hml (by omega) ?_
 have hin:zBz r kind ix tag t mks S = uz r xf kind ix tag (xS mks) (zWa t mks):=by unfold zBz; rw [hgf]
 rw [← hin]
 have ho1:zFR n (T + 1) (zMB r kind ix tag t mks S) (FA++⟨xb,r,(zBz r kind ix tag t mks S).1⟩::FC) J:=by
  refine ⟨ho.n1,ho.n3,(hset _).1,by rw [(hset _).2]; exact ho.rgs,by simp [zMB,ho.fedl],fun x hx=>?_,ho.jobs,ho.ok,by omega,⟨K,hK,by omega⟩,by show S.M.length + _ ≤ _; omega⟩
  rcases List.mem_or_eq_of_mem_set hx with hx | rfl
  ·have:=ho.fedr x hx; omega
  ·omega
 refine zX (Sep.stars ((FA++FC).map (zEh T))) ?_
 refine zTf (N':=T + 1) (by omega) ?_
 refine zC (Δ:=zDt xb r (T + 1) (zBz r kind ix tag t mks S).1::Sep.stars ((FA++FC).map (zEh (T + 1)))::itB ib kind ix tag t ms::rgB rb r::blk sd (.cells (sdL st l a b c).toArray qB (0,0))::vH l S.G.1 S.G.2::ze st n S.M::SlC jf 1 c ((J.map zDf).map Value.pointer)::Sep.stars (J.map zEw)::SlC uW 1 a (((FA++⟨xb,r,xf⟩::FC).map zIJ).map Value.pointer)::SlI b (S.fed.set r.toNat (S.fed.getD r.toNat 0 + 1))::Γ) ?_
 show HG B (zEh (T + 1) ⟨xb,r,(zBz r kind ix tag t mks S).1⟩::_) _
 refine zAG ?_
 rw [show ((FA++(⟨xb,r,xf⟩:FX)::FC).map zIJ).map Value.pointer = ((FA++(⟨xb,r,(zBz r kind ix tag t mks S).1⟩:FX)::FC).map zIJ).map Value.pointer by simp]
 generalize hF':FA++(⟨xb,r,(zBz r kind ix tag t mks S).1⟩:FX)::FC = F' at ho1
 unfold zJ9 at h
 by_cases hin2:(zBz r kind ix tag t mks S).2 = false
 ·rw [if_pos hin2] at h
  rw [hin2]
  refine s_t ?_
  refine zC (Δ:=zEN sd st l n (T + 1) (zMB r kind ix tag t mks S) a b c F' J Γ) ?_
  refine zB4 ho1 ?_
  refine zWg ?_
  exact h ⟨none,0,0⟩ [] rfl (by simp)
 rw [if_neg hin2] at h
 rw [Bool.not_eq_false] at hin2
 rw [hin2]
 refine s_f ?_
 refine vk ?_
 refine zBw [itB ib kind ix tag t ms] ?_
 refine zAW (b:=ib) (off:=2) (l:=itV kind ix tag t ms) (l':=qQ tag) ?_
 refine u6 (b:=ib) (off:=11) (l:=itV kind ix tag t ms) (x:=ms) ?_
 refine zR fun tb=>?_
 refine zBC ?_
 refine qX (b:=tb) (l':=qQ tag) ?_
 refine zBC ?_
 refine qW (b:=tb) (l:=qQ tag) (l':=qQ tag) ?_
 have S2:∀ {J2 A:List zAp} {j:zAp} {C:List zAp} {c2:Sl} {S2:jk},J2 = A++j::C→(∀ y ∈ A,y.tag ≠ tag)→j.tag = tag→S2.G = S.G→zFR n (T + 1) S2 F' J2→K + J2.length + mks.length ≤ 40 * (T + 1) →
   (∀ (s:Sl) (D:List DcX),D.map zHl = (zFQ n (zPG n r kind tag mks S2.jobs S2)).2→D.length ≤ T + 1→HG B (SlC qE 6 s (D.flatMap dcF)::Sep.stars (D.map dcO)::zBG sd n (T + 1) (zFQ n (zPG n r kind tag mks S2.jobs S2)).1::Γ) (q s)) →
   HG B (zEN sd st l n (T + 1) S2 a b c2 F' J2 (rgB rb r::tgB tb tag::itB ib kind ix tag t ms::Γ)) (zL.s2 q ⟨sd,0,none⟩ ⟨rb,0,none⟩ ⟨ib,0,none⟩ ⟨tb,0,none⟩ ms (zDf j)):=fun {J2 A j C c2 S2} hJ2 hA hj hG ho2 hKl2 hq=>
  zas hT hJ2 hA hj ho2 (by rw [hG]; exact hK) hKl2 hml hm hkk hq
 have hjm:(∃ j ∈ S.jobs,j.tag = tag) ↔ ∃ j ∈ J,j.tag = tag:=by
  rw [← ho.jobs]
  constructor
  ·rintro ⟨x,hx,e⟩
   obtain ⟨y,hy,rfl⟩:=List.mem_map.1 hx
   exact ⟨y,hy,e⟩
  ·rintro ⟨y,hy,e⟩
   exact ⟨zB3 y,List.mem_map.2 ⟨y,hy,rfl⟩,e⟩
 refine zC (Δ:=zKT sd st l n S.M S.G a b c J (SlC uW 1 a ((F'.map zIJ).map Value.pointer)::Sep.stars (F'.map (zEh (T + 1)))::SlI b (S.fed.set r.toNat (S.fed.getD r.toNat 0 + 1))::rgB rb r::tgB tb tag::itB ib kind ix tag t ms::Γ)) ?_
 refine zWY (by omega) (fun hno=>?_) fun A j C hJ hA hj=>?_
 ·have hno':¬ ∃ j ∈ S.jobs,j.tag = tag:=fun hh=>by obtain ⟨j,hj,e⟩:=hjm.1 hh; exact hno j hj e
  rw [if_neg hno'] at h
  refine s_f ?_ (by rfl)
  unfold zL.s4
  refine s_f ?_
  refine s_t ?_ (by rfl)
  refine vk ?_
  refine zBw [itB ib kind ix tag t ms] ?_
  refine zAW (b:=ib) (off:=2) (l:=itV kind ix tag t ms) (l':=orV tag t ms) ?_
  refine zAW (b:=ib) (off:=2) (l:=itV kind ix tag t ms) (l':=orV tag t ms) ?_
  refine zKA (t:=t) (mks:=mks) (fun w hw=>hr w (hw.drops (Δ:=Γ))) (fun w hw=>hm w (hw.drops (Δ:=Γ))) ⟨hl.1,hl.2.1,hl.2.2,fun x hx=>by have:=(k4 x hx).2; omega⟩ hml fun t' ms' ht'=>?_
  refine zBC ?_
  refine zGq (pre:=qQ tag++txL t) (L:=mks) rfl (fun w hw=>hm w (hw.drops (Δ:=Γ))) (by omega) fun ns=>?_
  refine zh ?_
  refine zR fun jb=>?_
  refine yD (b:=sd) (off:=4) (l:=sdL st l a b c) (x:=c) ?_
  refine yS c fun a1 a2 a3 a4=>?_
  rw [List.length_map,List.length_map,Nat.mul_one] at a1
  refine zOZ (s:=c) (esz:=1) (m:=1) (us:=[.pointer (some ⟨jb,0,none⟩)]) (fun c2 _=>?_)
  rw [show (J.map zDf).map Value.pointer++[.pointer (some ⟨jb,0,none⟩)] = ((J++[(⟨jb,tag,t',ms',mks,ns,xS mks⟩:zAp)]).map zDf).map Value.pointer by simp]
  refine zBY (b:=sd) (off:=4) (l:=sdL st l a b c) (l':=sdL st l a b c2) ?_ rfl rfl
  refine zC (Δ:=zRx ⟨jb,tag,t',ms',mks,ns,xS mks⟩ (Sep.stars (J.map zEw)::blk sd (.cells (sdL st l a b c2).toArray qB (0,0))::vH l S.G.1 S.G.2::ze st n S.M::SlC jf 1 c2 (((J++[(⟨jb,tag,t',ms',mks,ns,xS mks⟩:zAp)]).map zDf).map Value.pointer)::SlC uW 1 a ((F'.map zIJ).map Value.pointer)::Sep.stars (F'.map (zEh (T + 1)))::SlI b (S.fed.set r.toNat (S.fed.getD r.toNat 0 + 1))::rgB rb r::tgB tb tag::itB ib kind ix tag t ms::Γ)) ?_
  refine zJA ?_
  refine zHO ?_
  refine zC (Δ:=zEN sd st l n (T + 1) (⟨S.M,S.G,S.fils.set r.toNat (zBz r kind ix tag t mks S).1,S.fed.set r.toNat (S.fed.getD r.toNat 0 + 1),S.jobs++[⟨tag,zGG t,mks,xS mks⟩]⟩:jk) a b c2 F' (J++[(⟨jb,tag,t',ms',mks,ns,xS mks⟩:zAp)]) (rgB rb r::tgB tb tag::itB ib kind ix tag t ms::Γ)) ?_
  have hhl:(xS mks).length ≤ 1000:=by
   have h1:=zFN (zDs (if mks.length = 0 then [0] else mks.map MkX.home))
   rw [zHM] at h1
   have h2:(if mks.length = 0 then [0] else mks.map MkX.home).length ≤ 1000:=by split <;> simp <;> omega
   unfold xS
   omega
  refine S2 (A:=J) (j:=⟨jb,tag,t',ms',mks,ns,xS mks⟩) (C:=[]) rfl hno rfl rfl ⟨ho1.n1,ho1.n3,ho1.fils,ho1.rgs,ho1.fedl,ho1.fedr,?_,fun y hy=>?_,by simp; omega,⟨K,hK,by simp; omega⟩,by simp; omega⟩ (by simp; omega) h
  ·rw [List.map_append,ho.jobs]
   simp only [List.map_cons,List.map_nil,zB3]
   rw [zUZ ht']
  ·rcases List.mem_append.1 hy with hy | hy
   ·exact ho.ok y hy
   ·rw [List.mem_singleton.1 hy]
    obtain ⟨g1,g2,g3,g4,g5⟩:=ht'
    refine ⟨⟨by rw [zFi ⟨g1,g2,g3,g4,g5⟩]; exact hon.1,hon.2.1,by simp only; rw [g3,g4]; exact hon.2.2⟩,fun x hx=>?_,hhl⟩
    have h1:x.1 ∈ t.ops.map Prod.fst:=by rw [← g5]; exact List.mem_map.2 ⟨x,hx,rfl⟩
    obtain ⟨y,hy2,e⟩:=List.mem_map.1 h1
    rw [← e]; exact hnn y hy2
 ·have hye:∃ j ∈ S.jobs,j.tag = tag:=hjm.2 ⟨j,by rw [hJ]; simp,hj⟩
  rw [if_pos hye] at h
  refine s_t ?_ (by rfl)
  refine yD (b:=ib) (l:=itV kind ix tag t ms) (x:=kind) ?_
  unfold zL.s4
  refine zH (fun h1=>?_) fun h1=>?_
  ·have h1':kind = 1:=by simpa using h1
   simp only [h1',if_true] at h
   refine zC (Δ:=zEN sd st l n (T + 1) (zMB r kind ix tag t mks S) a b c F' J Γ) ?_
   rw [h1'] at ho1 ⊢
   exact zWf ho1 hT h
  ·have h1':¬ kind = 1:=by simpa using h1
   simp only [h1',if_false] at h
   refine s_f ?_ (by rfl)
   refine zC (Δ:=zEN sd st l n (T + 1) (zMB r kind ix tag t mks S) a b c F' J (rgB rb r::tgB tb tag::itB ib kind ix tag t ms::Γ)) ?_
   exact S2 hJ hA hj rfl ho1 (by omega) h
end
end
end Go.Proofs.YtdemfamgieonbaaGreat
namespace Go.Sep
section
open Go Go.RowKit
namespace Bt
structure BtW (κ:Type) extends BtT κ where
 fAll:Nat
 tPT:Nat
 nwalkC:Option Addr→Option Addr→Value→(Bool→K)→K
section
variable {κ:Type}
def zDv (G:BtW κ) (Q:Bool→K) (X2:(Option Addr)→Int→K) (i7_4:Int) (t74_4:Bool):K :=
 Ite t74_4
  (Q false)
  (Ar (IntKind.wrap .i64 (i7_4 + 1)) fun t26=>
  X2 none t26)
def zGt (G:BtW κ) (Q:Bool→K) (X2:(Option Addr)→Int→K) (n0_3:Addr) (yield2_3:Value) (i7_3:Int) (t46_3:Bool):K :=
 Ite t46_3
  (Q false)
  (Dr<|
  Ld n0_3 Sl.val fun t51=>
  Ite (decide (i7_3 < (t51.n:Int)))
   (Ld n0_3 Sl.val fun t59=>
   Idx t59 i7_3 (G.nv + 1) fun t61=>
   Ld t61 G.kV fun t63=>
   Ld n0_3 Sl.val fun t67=>
   Idx t67 i7_3 (G.nv + 1) fun t69=>
   LdN (t69.add 1) G.nv fun t71=>
   jU G.P yield2_3 [(G.kV t63),(.agg t71)] <| yH (fun (t72:Bool)=>Value.bool t72) fun t72=>
   zDv G Q X2 i7_3 (!t72))
   (zDv G Q X2 i7_3 false))
def zMF (G:BtW κ) (Q:Bool→K)  (X2:(Option Addr)→Int→K) (n0_2:(Option Addr)) (yield2_2:Value) (from1_2:(Option Addr)) (i7_2:Int):K :=
 Nn n0_2 fun t20=>
 Ld t20 Sl.val fun t22=>
 Ite (decide (i7_2 ≤ (t22.n:Int)))
  (Ld (t20.add 1) Sl.val fun t31=>
  Ite (decide (i7_2 < (t31.n:Int)))
   (Ld (t20.add 1) Sl.val fun t38=>
   Idx t38 i7_2 1 fun t40=>
   Ld t40 Value.pointer fun t41=>
   G.nwalkC t41 from1_2 yield2_2 fun t44=>
   zGt G Q X2 t20 yield2_2 i7_2 (!t44))
   (zGt G Q X2 t20 yield2_2 i7_2 false))
  (Q true)
def zJB (G:BtW κ) (Q:Bool→K)  (n0_1:(Option Addr)) (from1_1:(Option Addr)) (yield2_1:Value) (i7_1:Int):K :=
 yN (α:=(Option Addr)×Int) (fun X x=>zMF G Q (fun from1_2 i7_2=>X (from1_2,i7_2)) n0_1 yield2_1 x.1 x.2) (from1_1,i7_1)
def zTj (G:BtW κ) (n0:(Option Addr)) (from1:(Option Addr)) (yield2:Value) (Q:Bool→K):K :=
 Ite (!(from1).isNone)
  (Nn from1 fun t13=>
  Ld t13 G.kV fun t14=>
  G.nsearchC n0 t14 fun t15x0 t15x1=>
  zJB G Q n0 (some t13) yield2 t15x0)
  (zJB G Q n0 from1 yield2 0)
def zYx (G:BtW κ) (yield0:Value) (t1:Addr) (Q:K):K :=
 Ld t1 Value.pointer fun t3=>
 Nn t3 fun t4=>
 Ld t4 Value.pointer fun t6=>
 G.nwalkC t6 none yield0 fun t8=>
 Q
end
structure zWi {κ:Type} (G:BtW κ) (c:κ→κ→Int):Prop extends BtOk G.toBtT c where
 walk:∀ n f y Q w,zTj G n f y Q w→G.nwalkC n f y Q w
 cAll:callable G.P G.fAll = true
 all1:∀ y t Q w,zYx G y t Q w→zK G.P G.fAll #[y,.pointer (some t)] (fun _=>Q) w
section
variable {κ:Type} {G:BtW κ} {c:κ→κ→Int} {B:World} {Γ Δ:List zB}
theorem zMG (ok:zWi G c) {F:Nat→zB} {E:zB} {L0:List G.It} {y:Value}
  (step:∀ i x,L0[i]? = some x→∀ (Δ:List zB) (kk:Value→K),HG B (F (i + 1)::Δ) (kk (.bool true))→HG B (E::Δ) (kk (.bool false))→HG B (F i::Δ) (jU G.P y [G.kV x.1,.agg x.2.1.toArray] kk)) :
  ∀ (d:Nat) {m b:Nat} {A L C:List G.It} {Γ:List zB} {Q:Bool→K},L0 = A++L++C→HG B (F (A.length + L.length)::yE G.toBtT d m b L::Γ) (Q true)→HG B (E::yE G.toBtT d m b L::Γ) (Q false) →
   HG B (F A.length::yE G.toBtT d m b L::Γ) (zTj G (some ⟨b,0,none⟩) none y Q)
 | 0,m,b,A,L,C,Γ,Q,hL0,ht,hf=>by
  unfold zTj zJB
  refine s_f ?_
  refine zQ b ?_
  refine zHC fun s kd hm hl=>?_
  refine yS s fun l1 l2 l3 l4=>?_
  refine yS kd fun m1 m2 m3 m4=>?_
  rw [zn G.f _ G.qd] at l1
  have hn:s.n = L.length:=(Nat.eq_of_mul_eq_mul_right (by omega) l1).symm
  have hkn:kd.n = 0:=by simpa using m1.symm
  have ht':HG B (F (A.length + L.length)::y7 G.toBtT b s kd::vC G.toBtT s L::vD G.toBtT kd []::Γ) (Q true):=by
   refine zQ b ?_
   refine zC (Δ:=y7 G.toBtT b s kd::vC G.toBtT s L::vD G.toBtT kd []::F (A.length + L.length)::Γ) ?_
   exact zE3 hm hl (zDW ht)
  have hf':HG B (E::y7 G.toBtT b s kd::vC G.toBtT s L::vD G.toBtT kd []::Γ) (Q false):=by
   refine zQ b ?_
   refine zC (Δ:=y7 G.toBtT b s kd::vC G.toBtT s L::vD G.toBtT kd []::E::Γ) ?_
   exact zE3 hm hl (zDW hf)
  refine zC (Δ:=F (A.length + min 0 L.length)::y7 G.toBtT b s kd::vC G.toBtT s L::vD G.toBtT kd []::Γ) ?_ (d:=by simpa using (inferInstance:Drops (y7 G.toBtT b s kd::vC G.toBtT s L::vD G.toBtT kd []::F A.length::Γ) (F A.length::y7 G.toBtT b s kd::vC G.toBtT s L::vD G.toBtT kd []::Γ)))
  refine vQ (α:=Option Addr×Int) (ι:=Nat) (fun x i=>x = (none,(i:Int))∧i ≤ L.length + 1) (fun x i=>F (A.length + min i L.length)::y7 G.toBtT b s kd::vC G.toBtT s L::vD G.toBtT kd []::Γ) (fun x i=>L.length + 1 - i) 0 ⟨rfl,Nat.zero_le _⟩ ?_
  rintro k' _ i ⟨rfl,hi⟩ hk'
  simp only at hk' ⊢
  unfold zMF
  refine vg ?_
  refine yD (b:=b) (x:=s) ?_
  refine zH (fun hb=>?_) fun hb=>?_
  ·have hiL:i ≤ L.length:=by simp only [decide_eq_true_eq] at hb; omega
   rw [Nat.min_eq_left hiL]
   refine yD (b:=b) (x:=kd) ?_
   refine s_f ?_
   unfold zGt
   refine s_f ?_
   refine vk ?_
   refine yD (b:=b) (x:=s) ?_
   refine zH (fun hb2=>?_) fun hb2=>?_
   ·have hil:i < L.length:=by simp only [decide_eq_true_eq] at hb2; omega
    have hge:L[i]? = some L[i]:=List.getElem?_eq_getElem hil
    generalize L[i] = x at hge
    have hge0:L0[A.length + i]? = some x:=by
     rw [hL0,List.append_assoc,List.getElem?_append_right (by omega),Nat.add_sub_cancel_left,List.getElem?_append_left hil,hge]
    refine yD (b:=b) (x:=s) ?_
    refine vZ (s:=s) (i:=i) ?_
    refine zCB (s:=s) (x:=x.1) (by exact (zJz (off:=0) G.qd hge (by omega)).trans rfl) ?_
    refine yD (b:=b) (x:=s) ?_
    refine vZ (s:=s) (i:=i) ?_
    refine zEq (s:=s) (off:=1) (l':=x.2.1) ?_ x.2.2.1 ?_
    ·have h1:=zDZ G.qd hge
     have e:((L.flatMap G.f).drop (i * (G.nv + 1) + 1)).take G.nv = (((L.flatMap G.f).drop (i * (G.nv + 1))).take (G.nv + 1)).drop 1:=by rw [← List.drop_drop,List.drop_take]; rfl
     rw [e,h1]; rfl
    refine step _ x hge0 _ _ ?_ ?_
    ·refine zJo ?_
     unfold zDv
     refine s_f ?_
     refine qU ?_
     have:=hk' (none,(i:Int) + 1) (i + 1) ⟨by simp,by omega⟩ (by omega)
     rw [Nat.min_eq_left (show i + 1 ≤ L.length from hil)] at this
     exact this
    ·refine zJo ?_
     unfold zDv
     exact s_t hf'
   ·have hil:i = L.length:=by simp only [decide_eq_false_iff_not] at hb2; omega
    unfold zDv
    refine s_f ?_
    refine qU ?_
    have:=hk' (none,(i:Int) + 1) (i + 1) ⟨by simp,by omega⟩ (by omega)
    rw [Nat.min_eq_right (by omega)] at this
    rw [hil]
    rw [hil] at this
    exact this
  ·have hil:¬ i ≤ L.length:=by simp only [decide_eq_false_iff_not] at hb; omega
   rw [Nat.min_eq_right (by omega)]
   exact ht'
 | d + 1,m,b,A,L,C,Γ,Q,hL0,ht,hf=>by
  unfold zTj zJB
  refine s_f ?_
  refine zQ b ?_
  refine zIp fun s kd q0 ps hne hl hM=>?_
  subst hM
  refine yS s fun l1 l2 l3 l4=>?_
  refine yS kd fun m1 m2 m3 m4=>?_
  rw [zn G.f _ G.qd] at l1
  have hn:s.n = ps.length:=by
   have:=Nat.eq_of_mul_eq_mul_right (by omega) l1
   simpa using this.symm
  have hkn:kd.n = ps.length + 1:=by simpa using m1.symm
  have ht':HG B (F (A.length + (psL q0 ps).length)::y7 G.toBtT b s kd::vC G.toBtT s (ps.map Prod.fst)::vD G.toBtT kd ((q0::ps.map Prod.snd).map ptr)::qN G.toBtT d (q0::ps.map Prod.snd)::Γ) (Q true):=by
   refine zQ b ?_
   refine zC (Δ:=y7 G.toBtT b s kd::vC G.toBtT s (ps.map Prod.fst)::vD G.toBtT kd ((q0::ps.map Prod.snd).map ptr)::qN G.toBtT d (q0::ps.map Prod.snd)::F (A.length + (psL q0 ps).length)::Γ) ?_
   exact zGX hne hl (zDW ht)
  have hf':HG B (E::y7 G.toBtT b s kd::vC G.toBtT s (ps.map Prod.fst)::vD G.toBtT kd ((q0::ps.map Prod.snd).map ptr)::qN G.toBtT d (q0::ps.map Prod.snd)::Γ) (Q false):=by
   refine zQ b ?_
   refine zC (Δ:=y7 G.toBtT b s kd::vC G.toBtT s (ps.map Prod.fst)::vD G.toBtT kd ((q0::ps.map Prod.snd).map ptr)::qN G.toBtT d (q0::ps.map Prod.snd)::E::Γ) ?_
   exact zGX hne hl (zDW hf)
  let pos:Option (List (Kid G.toBtT×G.It)×Kid G.toBtT×List (G.It×Kid G.toBtT))→Nat:=fun i=>match i with
   | none=>A.length + (psL q0 ps).length
   | some (l,_,_)=>A.length + (zCN l).length
  let num:Option (List (Kid G.toBtT×G.It)×Kid G.toBtT×List (G.It×Kid G.toBtT))→Nat:=fun i=>match i with
   | none=>ps.length + 1
   | some (l,_,_)=>l.length
  let Gd:Option (List (Kid G.toBtT×G.It)×Kid G.toBtT×List (G.It×Kid G.toBtT))→Prop:=fun i=>match i with
   | none=>True
   | some (l,q,r)=>ps.map Prod.fst = l.map Prod.snd++r.map Prod.fst∧q0::ps.map Prod.snd = l.map Prod.fst++q::r.map Prod.snd∧psL q0 ps = zCN l++q.2++zBD r
  refine zC (Δ:=F (pos (some ([],q0,ps)))::y7 G.toBtT b s kd::vC G.toBtT s (ps.map Prod.fst)::vD G.toBtT kd ((q0::ps.map Prod.snd).map ptr)::qN G.toBtT d (q0::ps.map Prod.snd)::Γ) ?_ (d:=by
   show Drops _ (F A.length::_)
   infer_instance)
  refine vQ (α:=Option Addr×Int) (ι:=Option (List (Kid G.toBtT×G.It)×Kid G.toBtT×List (G.It×Kid G.toBtT))) (fun x i=>x = (none,(num i:Int))∧Gd i)
   (fun x i=>F (pos i)::y7 G.toBtT b s kd::vC G.toBtT s (ps.map Prod.fst)::vD G.toBtT kd ((q0::ps.map Prod.snd).map ptr)::qN G.toBtT d (q0::ps.map Prod.snd)::Γ) (fun x i=>ps.length + 1 - num i) (some ([],q0,ps)) ⟨rfl,rfl,rfl,rfl⟩ ?_
  rintro k' _ i ⟨rfl,hg1⟩ hk'
  simp only at hk' ⊢
  unfold zMF
  refine vg ?_
  refine yD (b:=b) (x:=s) ?_
  match i,hg1,hk' with
  | none,_,hk'=>
   refine s_f ?_ (by simp only [num,decide_eq_false_iff_not]; omega)
   exact ht'
  | some (l,q,r),⟨g1,g2,g3⟩,hk'=>
   simp only [pos,num] at hk' ⊢
   have hlen:ps.length = l.length + r.length:=by have:=congrArg List.length g1; simpa using this
   refine s_t ?_ (by simp only [decide_eq_true_eq]; omega)
   refine yD (b:=b) (x:=kd) ?_
   refine s_t ?_ (by simp only [decide_eq_true_eq]; omega)
   refine yD (b:=b) (x:=kd) ?_
   refine vZ (s:=kd) (i:=l.length) ?_
   rw [g2]
   refine zCB (s:=kd) (x:=ptr q) (by simp) ?_
   refine zX (qN G.toBtT d (l.map Prod.fst++q::r.map Prod.snd)) ?_
   refine zHr ?_
   refine fun w hw=>ok.walk _ _ _ _ _ ?_
   refine hg hw ?_
   clear hw w
   have hbk:∀ {X:zB} {kk:K},HG B (X::y7 G.toBtT b s kd::vC G.toBtT s (ps.map Prod.fst)::vD G.toBtT kd ((q0::ps.map Prod.snd).map ptr)::qN G.toBtT d (q0::ps.map Prod.snd)::Γ) kk →
     HG B (X::yE G.toBtT d 2 q.1 q.2::qN G.toBtT d (l.map Prod.fst++r.map Prod.snd)::y7 G.toBtT b s kd::vC G.toBtT s (ps.map Prod.fst)::vD G.toBtT kd ((l.map Prod.fst++q::r.map Prod.snd).map ptr)::Γ) kk:=fun {X kk} h=>by
    refine zQ q.1 ?_
    refine zC (Δ:=yE G.toBtT d 2 q.1 q.2::qN G.toBtT d (l.map Prod.fst++r.map Prod.snd)::X::y7 G.toBtT b s kd::vC G.toBtT s (ps.map Prod.fst)::vD G.toBtT kd ((l.map Prod.fst++q::r.map Prod.snd).map ptr)::Γ) ?_
    refine zC6 ?_
    rw [← g2]
    exact zC h
   have eA:A.length + (zCN l).length = (A++zCN l).length:=by simp
   rw [eA]
   refine zC (Δ:=F (A++zCN l).length::yE G.toBtT d 2 q.1 q.2::qN G.toBtT d (l.map Prod.fst++r.map Prod.snd)::y7 G.toBtT b s kd::vC G.toBtT s (ps.map Prod.fst)::vD G.toBtT kd ((l.map Prod.fst++q::r.map Prod.snd).map ptr)::Γ) ?_
   have hL0':L0 = (A++zCN l)++q.2++(zBD r++C):=by rw [hL0,g3]; simp
   refine zMG ok step d (C:=zBD r++C) hL0' (hbk ?_) (hbk ?_)
   ·unfold zGt
    refine s_f ?_
    refine vk ?_
    refine yD (b:=b) (x:=s) ?_
    cases r with
    | nil=>
     refine s_f ?_ (by simp only [List.length_nil] at hlen; simp only [decide_eq_false_iff_not]; omega)
     unfold zDv
     refine s_f ?_
     refine qU ?_
     have:=hk' (none,(l.length:Int) + 1) none ⟨by simp only [num]; simp only [List.length_nil] at hlen; rw [hlen]; simp,trivial⟩ (by simp only [num]; omega)
     simp only [pos] at this
     have e2:(A++zCN l).length + q.2.length = A.length + (psL q0 ps).length:=by rw [g3]; simp [zBD]; omega
     rw [e2]; exact this
    | cons p r=>
     obtain ⟨x,q'⟩:=p
     refine s_t ?_ (by simp only [List.length_cons] at hlen; simp only [decide_eq_true_eq]; omega)
     have hge:(ps.map Prod.fst)[l.length]? = some x:=by rw [g1]; simp
     have hge0:L0[(A++zCN l).length + q.2.length]? = some x:=by
      rw [hL0',show A++zCN l++q.2++(zBD ((x,q')::r)++C) = (A++zCN l++q.2)++x::(q'.2++zBD r++C) by simp [zBD]]
      rw [List.getElem?_append_right (by simp; omega)]
      have e9:(A++zCN l).length + q.2.length - (A++zCN l++q.2).length = 0:=by simp only [List.length_append]; omega
      rw [e9]; rfl
     refine yD (b:=b) (x:=s) ?_
     refine vZ (s:=s) (i:=l.length) ?_ rfl (by simp only [List.length_cons] at hlen; omega)
     refine zCB (s:=s) (x:=x.1) (by exact (zJz (off:=0) G.qd hge (by omega)).trans rfl) ?_
     refine yD (b:=b) (x:=s) ?_
     refine vZ (s:=s) (i:=l.length) ?_ rfl (by simp only [List.length_cons] at hlen; omega)
     refine zEq (s:=s) (off:=1) (l':=x.2.1) ?_ x.2.2.1 ?_
     ·have h1:=zDZ G.qd hge
      have e:(((ps.map Prod.fst).flatMap G.f).drop (l.length * (G.nv + 1) + 1)).take G.nv = ((((ps.map Prod.fst).flatMap G.f).drop (l.length * (G.nv + 1))).take (G.nv + 1)).drop 1:=by rw [← List.drop_drop,List.drop_take]; rfl
      rw [e,h1]; rfl
     refine step _ x hge0 _ _ ?_ ?_
     ·refine zJo ?_
      unfold zDv
      refine s_f ?_
      refine qU ?_
      have:=hk' (none,(l.length:Int) + 1) (some (l++[(q,x)],q',r)) ⟨by simp [num],by rw [g1]; simp,by rw [g2]; simp,by rw [g3]; simp [zCN,zBD]⟩ (by simp only [num,List.length_append,List.length_cons,List.length_nil]; simp only [List.length_cons] at hlen; omega)
      simp only [pos] at this
      have e2:A.length + (zCN (l++[(q,x)])).length = (A++zCN l).length + q.2.length + 1:=by simp [zCN]; omega
      rw [e2] at this; exact this
     ·refine zJo ?_
      unfold zDv
      exact s_t hf'
   ·unfold zGt
    exact s_t hf'
theorem zR4 (ok:zWi G c) {t cb:Nat} {J:Exit} {F:Nat→zB} {E:zB} {L:List G.It} {body:(K→K)→K→K→κ×Array Value→K} {after afterJ:Nat→K}
  (step:∀ i x,L[i]? = some x→∀ l r kN kJ (Δ:List zB),zZm r→HG B (F (i + 1)::blk l (.loop r)::Δ) kN→HG B (E::blk l (.loop (zQn r J))::Δ) kJ →
   HG B (F i::blk l (.loop r)::Δ) (body (zLG l r) (zNq l (zGs r) kN) (zPr l (zGs r) J kJ) (x.1,x.2.1.toArray)))
  (ht:∀ D,HG B (F L.length::blk D (.deferred (some []))::blk cb (.cells [.pointer (some ⟨t,0,none⟩)].toArray G.tPT (0,0))::vK G.toBtT c t L::Γ) (after D))
  (hj:∀ D,HG B (E::blk D (.deferred (some []))::blk cb (.cells [.pointer (some ⟨t,0,none⟩)].toArray G.tPT (0,0))::vK G.toBtT c t L::Γ) (afterJ D)) :
  HG B (F 0::blk cb (.cells [.pointer (some ⟨t,0,none⟩)].toArray G.tPT (0,0))::vK G.toBtT c t L::Γ) (jE G.P (.func (.func G.fAll) #[] #[.pointer (some ⟨cb,0,none⟩)]) J (fun x:κ×Array Value=>[G.kV x.1,.agg x.2]) body after afterJ):=by
 refine zQp (cs:=[.pointer (some ⟨cb,0,none⟩)]) ok.cAll fun D l r hr hy=>?_
 refine fun w hw=>ok.all1 _ _ _ _ ?_
 refine hg hw ?_
 clear hw w
 unfold zYx
 refine yD (b:=cb) (x:=some ⟨t,0,none⟩) ?_
 refine vg ?_
 refine zQ t ?_
 refine zLT fun d b hs=>?_
 refine yD (b:=t) (x:=some ⟨b,0,none⟩) ?_
 refine fun w hw=>ok.walk _ _ _ _ _ ?_
 refine hg hw ?_
 clear hw w
 let F':Nat→zB:=fun i=>Sep.stars [F i,blk l (.loop r)]
 let E':zB:=Sep.stars [E,blk l (.loop (zQn r J))]
 have hin:∀ {X Y:zB} {Δ:List zB} {k:K},HG B (X::Y::Δ) k→HG B (Sep.stars [X,Y]::Δ) k:=fun h=>zBX h
 have hout:∀ {X Y:zB} {Δ:List zB} {k:K},HG B (Sep.stars [X,Y]::Δ) k→HG B (X::Y::Δ) k:=fun {X Y Δ k} h=>zDp (Δ:=[X,Y]) h
 refine zC (Δ:=F 0::blk l (.loop r)::yE G.toBtT d 1 b L::blk t (.cells [.pointer (some ⟨b,0,none⟩),.int .i64 L.length].toArray G.tT (0,0))::blk D (.deferred (some []))::blk cb (.cells [.pointer (some ⟨t,0,none⟩)].toArray G.tPT (0,0))::Γ) ?_
 refine hout ?_
 refine zMG ok (F:=F') (E:=E') (L0:=L) (fun i x hx Δ kk h1 h2=>?_) d (A:=[]) (C:=[]) (by simp) ?_ ?_
 ·refine zTg ?_
  refine hin ?_
  refine zDW ?_
  refine hy (x.1,x.2.1.toArray) _ _ _ ?_
  refine zDW ?_
  exact step i x hx l r _ _ _ hr (hout h1) (hout h2)
 ·refine hin ?_
  refine zWb ?_
  simp only [List.length_nil,Nat.zero_add]
  refine zQ t ?_
  refine zQ b ?_
  refine zDW ?_
  refine zC7 hs ?_
  exact zC (ht D)
 ·refine hin ?_
  refine zWc ?_
  refine zQ t ?_
  refine zQ b ?_
  refine zDW ?_
  refine zC7 hs ?_
  exact zC (hj D)
end
end Bt
end
end Go.Sep
namespace Go.Proofs.YtdemfamgieonbaaGreat
section
open Go Go.Sep Go.Sep.Bt
noncomputable def zbo:BtW ByteArray where
 toBtT:=btS
 fAll:=163
 tPT:=uy
 nwalkC:=zF.call
theorem zX4:zWi zbo jA where
 toBtOk:=zJM
 walk:=fun n f y Q w h=>zCC _ _ _ _ _ h
 cAll:=by kernel_rfl
 all1:=fun y t Q w h=>by
  have h1:=zB2 y t Q w h
  exact zK9 h1 fun v w h=>h.2
def zNc (o:Nat) (X:List zBQ) (i:Nat):zB:=ex fun s=>ex fun Y:List zBQ=>Sep.stars [pur (Y.map zAd = (X.take i).map zAd),blk o (.cells [s.val].toArray zBH (0,0)),SlC xX 5 s (Y.flatMap zAn),Sep.stars (Y.map jd),Sep.stars (X.map jd)]
section
variable {B:World} {Γ Δ:List zB} {o i st n:Nat} {M:yY} {X:List zBQ} {k:K}
theorem zTk (h:∀ s (Y:List zBQ),Y.map zAd = (X.take i).map zAd→HG B (blk o (.cells [s.val].toArray zBH (0,0))::SlC xX 5 s (Y.flatMap zAn)::Sep.stars (Y.map jd)::Sep.stars (X.map jd)::Γ) k):HG B (zNc o X i::Γ) k :=
 zC1 fun s=>zC1 fun Y=>zBX <| zGU fun h1=>h s Y h1
theorem zNd {s:Sl} {Y:List zBQ} (h1:Y.map zAd = (X.take i).map zAd) (h:HG B (zNc o X i::Γ) k):HG B (blk o (.cells [s.val].toArray zBH (0,0))::SlC xX 5 s (Y.flatMap zAn)::Sep.stars (Y.map jd)::Sep.stars (X.map jd)::Γ) k:=fun w hw=>by
 refine h w ?_
 have h3:Holds B (Sep.stars [pur (Y.map zAd = (X.take i).map zAd),blk o (.cells [s.val].toArray zBH (0,0)),SlC xX 5 s (Y.flatMap zAn),Sep.stars (Y.map jd),Sep.stars (X.map jd)]::Γ) w:=Holds.flat.2 (Holds.pur.2 ⟨h1,hw⟩)
 exact h3.imp fun g hg=>⟨s,Y,hg⟩
instance (priority:=high) zZy:Sep.Own o (zNc o X i::Γ) (zNc o X i) Γ:=⟨.refl _⟩
theorem zX5 {Y:List zBQ} {y:zBQ} (h:HG B (Sep.stars ((Y++[y]).map jd)::Γ) k):HG B (jd y::Sep.stars (Y.map jd)::Γ) k:=by
 have:=zAG (F:=jd) (A:=Y) (C:=[]) (x:=y) h
 rwa [List.append_nil] at this
theorem zX6 {Q:Sl→K} (hL:M.length < 10000000) (h:∀ s (Y:List zBQ),Y.map zAd = M→HG B (SlC xX 5 s (Y.flatMap zAn)::Sep.stars (Y.map jd)::ze st n M::Γ) (Q s)):HG B (ze st n M::Γ) (zAT.call (some ⟨st,0,none⟩) Q):=by
 refine fun w hw=>zHX _ _ _ ?_
 refine hg hw ?_
 clear hw w
 refine zHD fun t X hM hok h1 h3=>?_
 have hXl:X.length = M.length:=by rw [hM]; simp
 unfold zAT
 refine zR fun o=>?_
 refine vg ?_
 repeat refine zh ?_
 refine fun w hw=>zCO _ _ _ ?_
 refine hg hw ?_
 clear hw w
 unfold xP
 refine zR fun cb=>?_
 refine fun w hw=>hg (show Holds B (SlC xX 5 ⟨none,0,0⟩ (([]:List zBQ).flatMap zAn)::_) w from hw.zAk _ _) ?_
 clear hw w
 refine fun w hw=>hg (show Holds B (Sep.stars (([]:List zBQ).map jd)::_) w from Holds.flat.2 hw) ?_
 clear hw w
 refine zC (Δ:=blk o (.cells [(⟨none,0,0⟩:Sl).val].toArray zBH (0,0))::SlC xX 5 ⟨none,0,0⟩ (([]:List zBQ).flatMap zAn)::Sep.stars (([]:List zBQ).map jd)::Sep.stars (X.map jd)::blk cb (.cells [.pointer (some ⟨t,0,none⟩)].toArray uy (0,0))::vK btS jA t (X.map ji)::blk st (.cells [.int .i64 n,.pointer (some ⟨t,0,none⟩)].toArray qI (0,0))::Γ) ?_
 refine zNd (i:=0) (by simp) ?_
 refine zR4 zX4 (F:=zNc o X) (E:=pur False) (fun i x hx l r kN kJ Δ hr hN hJ=>?_) (fun D=>?_) fun D=>zGU fun hf=>hf.elim
 ·obtain ⟨y,hy,hxy⟩:∃ y,X[i]? = some y∧ji y = x:=by
   have h0:(X.map ji)[i]? = some (x:btS.It):=hx
   rw [List.getElem?_map] at h0
   exact Option.map_eq_some_iff.1 h0
  subst hxy
  have hil:i < X.length:=(List.getElem?_eq_some_iff.1 hy).1
  have hmem:y ∈ X:=List.mem_of_getElem? hy
  have htk:X.take (i + 1) = X.take i++[y]:=by
   rw [List.take_succ_eq_append_getElem hil,(List.getElem?_eq_some_iff.1 hy).2]
  have hyok:y.2.1.ok:=hok (zAd y) (by rw [hM]; exact List.mem_map.2 ⟨y,hmem,rfl⟩)
  refine zR fun r4=>?_
  refine qX (b:=r4) (l':=zBv y.2.1 y.2.2) ?_
  refine zQo ?_
  refine zQ o ?_
  refine zTk fun s Y hY=>?_
  have hYl:Y.length = i:=by have:=congrArg List.length hY; simpa [Nat.min_eq_left (Nat.le_of_lt hil)] using this
  refine yS s fun a1 a2 a3 a4=>?_
  rw [zn _ 5 zDe] at a1
  repeat refine zh ?_
  refine zBW (xs:=y.2.1.val) (fun w hw=>?_) hyok.2.2 fun s' hs'=>?_
  ·obtain ⟨Δ,h1⟩:=zLz hmem (hw.drops (Δ:=[Sep.stars (X.map jd)]))
   exact h1.rdC List.mem_cons_self
  repeat refine zh ?_
  refine zR fun t20=>?_
  refine xR (s:=s) (esz:=5) (us:=zAn (y.1,(y.2.1,s'))) (zAX rfl) (by intro v hv; exact zWC [(y.1,(y.2.1,s'))] v (by simpa using hv)) (by simp only; omega) fun s2 hs2=>?_
  rw [show Y.flatMap zAn++zAn (y.1,(y.2.1,s')) = (Y++[(y.1,(y.2.1,s'))]).flatMap zAn by simp only [List.flatMap_append,List.flatMap_cons,List.flatMap_nil,List.append_nil]]
  repeat refine zh ?_
  refine zWd hr ?_
  refine zC (Δ:=jd (y.1,(y.2.1,s'))::Sep.stars (Y.map jd)::blk o (.cells [s2.val].toArray zBH (0,0))::SlC xX 5 s2 ((Y++[(y.1,(y.2.1,s'))]).flatMap zAn)::Sep.stars (X.map jd)::blk l (.loop r)::Δ) ?_
  refine zX5 ?_
  refine zC (Δ:=blk o (.cells [s2.val].toArray zBH (0,0))::SlC xX 5 s2 ((Y++[(y.1,(y.2.1,s'))]).flatMap zAn)::Sep.stars ((Y++[(y.1,(y.2.1,s'))]).map jd)::Sep.stars (X.map jd)::blk l (.loop r)::Δ) ?_
  exact zNd (by rw [htk,List.map_append,hY,List.map_append]; rfl) hN
 ·show HG B (zNc o X (X.map ji:List btS.It).length::blk D (.deferred (some []))::blk cb (.cells [.pointer (some ⟨t,0,none⟩)].toArray uy (0,0))::vK btS jA t (X.map ji)::blk st (.cells [.int .i64 n,.pointer (some ⟨t,0,none⟩)].toArray qI (0,0))::Γ) _
  refine zTk fun s Y hY=>?_
  repeat refine zh ?_
  refine zPH ?_
  repeat refine zh ?_
  have hY2:Y.map zAd = M:=hY.trans (by
   show ((X.take (X.map ji:List btS.It).length).map zAd) = _
   rw [List.length_map,List.take_length,hM])
  refine zX (Sep.stars (X.map jd)) ?_
  refine zQ t ?_
  refine zQ st ?_
  rw [hM] at h
  refine zBV (by rw [← hM]; exact hok) h1 h3 ?_
  exact zC (h s Y (by rw [hY2,hM]))
end
end
section
open Go Go.Sep Go.Sep.Bt
abbrev zGH (n:Nat):jk:=⟨[],([],fun _=>false),List.replicate n ⟨-1,[]⟩,List.replicate n 0,[]⟩
section
variable {B:World} {Γ Δ:List zB} {k:K} {sd n T:Nat} {S:jk} {t:TxX} {tag:ql}
theorem zWj {z:Value} {m:Nat} {Q:Sl→K} {T E by':Nat} (hT:Tryz.prog.underlying T = some (.slice E)) (hE:(Tryz.prog.info? E).map (fun i=>(i.zero,i.size,i.bytes)) = some (some z,1,by')) (hz:z.cells = #[z]) (hb:by' * m ≤ 281474976710656) (hm:m ≤ 9223372036854775807)
  (h:∀ s,s.n = m→HG B (SlC E 1 s (List.replicate m z)::Γ) (Q s)):HG B Γ (Do Tryz.prog (Instr.makeSlice T (.int .i64 (m:Int)) (.int .i64 (m:Int))) Sl.val Q):=fun w hw=>by
 have h1:=Go.run_make_row' (P:=Tryz.prog) T E z by' hT hE hz .i64 .i64 m hb hm w
 refine ⟨⟨some ⟨w.heap.size,0,none⟩,m,m⟩,_,h1,h ⟨some ⟨w.heap.size,0,none⟩,m,m⟩ rfl _ ?_⟩
 have h2:=hw.alloc (.cells (madeCells #[z] m) E (0,0))
 exact h2.imp (zEI (by
  apply List.ext_getElem?
  intro i
  by_cases hi:i < m <;> simp [madeCells,List.getElem?_range,List.getElem?_replicate,hi,Nat.mod_one]) (by simp))
theorem zHP {Q:Option Addr→Int→K} (h1:1 ≤ n) (h3:n ≤ 3) (h:∀ sd,HG B (zBG sd n 0 (zGH n)::Γ) (Q (some ⟨sd,0,none⟩) 0)):HG B Γ (vv.call (n:Int) Q):=by
 refine fun w hw=>zPB _ _ _ ?_
 refine hg hw ?_
 clear hw w
 unfold vv
 refine zMV h1 h3 fun st=>?_
 refine s_f ?_
 refine vk ?_
 have rest:∀ (l:Nat) (fd:Sl),HG B (vH l [] (fun _=>false)::SlI fd (List.replicate n 0)::ze st n []::Γ) (New qB [.pointer (some ⟨st,0,none⟩),.pointer (some ⟨l,0,none⟩),Sl.val ⟨none,0,0⟩,fd.val,Sl.val ⟨none,0,0⟩].toArray fun t21=>vv.s1 Q (n:Int) (some t21)):=fun l fd=>by
  refine zR fun sd=>?_
  unfold vv.s1
  refine fun w hw=>hg (show Holds B (SlC uW 1 ⟨none,0,0⟩ ((([]:List FX).map zIJ).map Value.pointer)::Sep.stars (([]:List FX).map (zEh 0))::SlC jf 1 ⟨none,0,0⟩ ((([]:List zAp).map zDf).map Value.pointer)::Sep.stars (([]:List zAp).map zEw)::_) w from (((hw.zCv).zAk _ _).zCv).zAk _ _) ?_
  clear hw w
  refine zC (Δ:=zEN sd st l n 0 (zGH n) ⟨none,0,0⟩ fd ⟨none,0,0⟩ [] [] Γ) ?_
  refine vQ (α:=Int) (ι:=Sl×List FX) (fun x i=>x = (i.2.length:Int)∧i.2.length ≤ n∧i.2.map FX.f = List.replicate i.2.length ⟨-1,[]⟩∧i.2.map FX.rg = (List.range i.2.length).map fun j:Nat=>(j:Int)) (fun x i=>zEN sd st l n 0 (zGH n) i.1 fd ⟨none,0,0⟩ i.2 [] Γ) (fun x i=>n - i.2.length) (⟨none,0,0⟩,[]) ⟨rfl,Nat.zero_le _,rfl,rfl⟩ ?_
  rintro k' _ ⟨fs,F⟩ ⟨rfl,hi,hF1,hF2⟩ hk'
  simp only at hi hF1 hF2 hk' ⊢
  unfold vv.b2
  refine zH (fun hb=>?_) fun hb=>?_
  ·have hin:F.length < n:=by simp only [decide_eq_true_eq] at hb; omega
   refine yS fs fun a1 a2 a3 a4=>?_
   rw [List.length_map,List.length_map,Nat.mul_one] at a1
   refine vk ?_
   refine zBw [blk sd (.cells (sdL st l fs fd ⟨none,0,0⟩).toArray qB (0,0))] ?_
   refine vg ?_
   refine u6 (b:=sd) (off:=2) (l:=sdL st l fs fd ⟨none,0,0⟩) (x:=fs) ?_
   refine zNY fun fp=>?_
   refine zBC ?_
   refine zR fun t33=>?_
   refine zBC ?_
   refine xR (s:=fs) (us:=[.pointer (some ⟨fp,0,none⟩)]) (zAX rfl) (by intro v hv; rw [List.mem_singleton.1 hv]; rfl) (by simp only; omega) fun fs2 hfs2=>?_
   refine zBY (b:=sd) (off:=2) (l:=sdL st l fs fd ⟨none,0,0⟩) (l':=sdL st l fs2 fd ⟨none,0,0⟩) ?_ rfl rfl
   refine qU ?_
   rw [show (F.map zIJ).map Value.pointer++[.pointer (some ⟨fp,0,none⟩)] = ((F++[(⟨fp,(F.length:Int),⟨-1,[]⟩⟩:FX)]).map zIJ).map Value.pointer by simp]
   refine zC (Δ:=zDt fp (F.length:Int) 0 ⟨-1,[]⟩::Sep.stars (F.map (zEh 0))::blk sd (.cells (sdL st l fs2 fd ⟨none,0,0⟩).toArray qB (0,0))::vH l [] (fun _=>false)::ze st n []::SlC jf 1 ⟨none,0,0⟩ ((([]:List zAp).map zDf).map Value.pointer)::Sep.stars (([]:List zAp).map zEw)::SlC uW 1 fs2 (((F++[(⟨fp,(F.length:Int),⟨-1,[]⟩⟩:FX)]).map zIJ).map Value.pointer)::SlI fd (List.replicate n 0)::Γ) ?_
   show HG B (zEh 0 ⟨fp,(F.length:Int),⟨-1,[]⟩⟩::_) _
   refine zHO ?_
   refine zC (hk' ((F.length:Int) + 1) (fs2,F++[⟨fp,(F.length:Int),⟨-1,[]⟩⟩]) ⟨by simp,by simp; omega,?_,?_⟩ (by simp; omega))
   ·simp only [List.map_append,hF1,List.map_cons,List.map_nil,List.length_append,List.length_cons,List.length_nil]
    rw [List.replicate_succ']
   ·simp only [List.map_append,hF2,List.map_cons,List.map_nil,List.length_append,List.length_cons,List.length_nil]
    rw [List.range_succ,List.map_append]; rfl
  ·have hil:F.length = n:=by simp only [decide_eq_false_iff_not] at hb; omega
   rw [hil] at hF1 hF2
   refine zB4 ⟨h1,h3,hF1,hF2,by simp [zGH],fun x hx=>?_,rfl,by simp,by simp,⟨0,⟨by simp [zGH],by simp [zGH]⟩,by simp⟩,by simp [zGH]⟩ (h sd)
   have:=List.eq_of_mem_replicate hx
   omega
 have mk:∀ {Δ:List zB} {Q':Sl→K},(∀ s,HG B (SlI s (List.replicate n 0)::Δ) (Q' s))→HG B Δ (Do Tryz.prog (Instr.makeSlice zPs (.int .i64 (n:Int)) (.int .i64 (n:Int))) Sl.val Q'):=fun {Δ Q'} hq=>
  zWj (by':=8) (z:=.int .i64 0) (by kernel_rfl) (by kernel_rfl) rfl (by omega) (by omega) fun s _=>by
   have:=hq s
   rw [SlI,List.map_replicate] at this
   exact this
 refine zJK ?_ ?_
 ·refine zJ3 fun l=>?_
  refine mk fun fd=>?_
  exact zC (rest l fd)
 ·refine mk fun fd=>?_
  refine zJ3 fun l=>?_
  exact zC (rest l fd)
theorem zFp {Q:Sl→K} (hT:T ≤ 20000) (h:∀ s,HG B (SlC xW 4 s ((S.jobs.map zD8.tag).flatMap qQ)::zBG sd n T S::Γ) (Q s)):HG B (zBG sd n T S::Γ) (qO.call (some ⟨sd,0,none⟩) Q):=by
 refine fun w hw=>zFj _ _ _ ?_
 refine hg hw ?_
 clear hw w
 refine zHz fun st l a b c F J ho=>?_
 refine yS c fun a1 a2 a3 a4=>?_
 rw [List.length_map,List.length_map,Nat.mul_one] at a1
 have hjl:=ho.jl
 unfold qO
 refine vg ?_
 refine yD (b:=sd) (off:=4) (l:=sdL st l a b c) (x:=c) ?_
 refine fun w hw=>hg (show Holds B (SlC xW 4 ⟨none,0,0⟩ []::_) w from hw.zAk _ _) ?_
 clear hw w
 refine vQ (α:=Sl×Int) (ι:=Nat) (fun x i=>x.2 = (i:Int)∧i ≤ J.length) (fun x i=>SlC xW 4 x.1 (((J.take i).map zAp.tag).flatMap qQ)::zEN sd st l n T S a b c F J Γ) (fun x i=>J.length - i) 0 ⟨rfl,Nat.zero_le _⟩ ?_
 rintro k' ⟨o,_⟩ i ⟨rfl,hi⟩ hk'
 simp only at hi hk' ⊢
 unfold qO.b1
 refine zH (fun hb=>?_) fun hb=>?_
 ·have hil:i < J.length:=by simp only [decide_eq_true_eq] at hb; omega
  have hge:J[i]? = some J[i]:=List.getElem?_eq_getElem hil
  have hmem:J[i] ∈ J:=List.getElem_mem hil
  have htk:J.take (i + 1) = J.take i++[J[i]]:=List.take_succ_eq_append_getElem hil
  generalize J[i] = e at hge htk hmem
  refine yS o fun b1 b2 b3 b4=>?_
  rw [zn _ 4 zFD,List.length_map,List.length_take,Nat.min_eq_left hi] at b1
  refine zAA (c:=Value.pointer) (L:=J.map zDf) (j:=i) (x:=zDf e) (fun w hw=>(yh (s:=c) hw).1) (by rw [List.getElem?_map,hge]; rfl) ?_
  refine vg ?_
  obtain ⟨A,C,hAC⟩:=List.append_of_mem hmem
  have hJ2:Sep.stars (J.map zEw) = Sep.stars ((A++e::C).map zEw):=by rw [hAC]
  refine zX (Sep.stars (J.map zEw)) ?_
  rw [hJ2]
  refine zEk ?_
  refine zQm ?_
  refine qW (b:=e.b) (l:=zMk e) (l':=qQ e.tag) ?_
  refine zJA ?_
  refine zAG ?_
  rw [← hJ2]
  refine zBp (cs:=qQ e.tag) ?_
  refine zR fun t20=>?_
  refine xR (s:=o) (esz:=4) (us:=qQ e.tag) (zAX rfl) (by simp [yX]) (by simp only; omega) fun o' _=>?_
  refine qU ?_
  rw [show ((J.take i).map zAp.tag).flatMap qQ++qQ e.tag = ((J.take (i + 1)).map zAp.tag).flatMap qQ by rw [htk]; simp]
  exact zC (hk' (o',(i:Int) + 1) (i + 1) ⟨by simp,hil⟩ (by omega))
 ·have hil:i = J.length:=by simp only [decide_eq_false_iff_not] at hb; omega
  rw [hil,List.take_length]
  have hjt:J.map zAp.tag = S.jobs.map zD8.tag:=by rw [← ho.jobs,List.map_map]; rfl
  rw [hjt]
  refine zq b ?_
  refine zX (Sep.stars (F.map (zEh T))) ?_
  refine zq a ?_
  refine zX (Sep.stars (J.map zEw)) ?_
  refine zq c ?_
  refine zQ st ?_
  refine zQ l ?_
  refine zQ sd ?_
  refine zB4 ho ?_
  exact zC (h o)
theorem zQt {Q:Sl→K} (hT:T ≤ 20000) (h:∀ s (Y:List zBQ),Y.map zAd = S.M→HG B (SlC xX 5 s (Y.flatMap zAn)::Sep.stars (Y.map jd)::zBG sd n T S::Γ) (Q s)):HG B (zBG sd n T S::Γ) (jP.call (some ⟨sd,0,none⟩) Q):=by
 refine fun w hw=>zHf _ _ _ ?_
 refine hg hw ?_
 clear hw w
 refine zHz fun st l a b c F J ho=>?_
 have:=ho.ml
 unfold jP
 refine vg ?_
 refine yD (b:=sd) (l:=sdL st l a b c) (x:=some ⟨st,0,none⟩) ?_
 refine zQ st ?_
 refine zX6 (by omega) fun s Y hY=>?_
 refine zq b ?_
 refine zX (Sep.stars (F.map (zEh T))) ?_
 refine zq a ?_
 refine zX (Sep.stars (J.map zEw)) ?_
 refine zq c ?_
 refine zQ st ?_
 refine zQ l ?_
 refine zQ sd ?_
 refine zB4 ho ?_
 exact zC (h s Y hY)
theorem zQu {Q:Array Value→K} (hr:∀ w,Holds B Γ w→zCs w t) (hl:t.reads.length ≤ 1000∧t.writes.length ≤ 1000∧t.ops.length ≤ 1000∧∀ x ∈ t.ops,x.1.val.length ≤ 1000000) (hk:∀ x ∈ t.reads++t.writes,x.length ≤ 1000)
  (h:∀ t' ms,zUR t' t→HG B (SlC yu 3 ms ((zBy n S.M (jW (t.reads++t.writes))).flatMap mkL)::zBG sd n T S::txC t' Γ) (Q (orV tag t' ms).toArray)) :
  HG B (zBG sd n T S::Γ) (jO.call (some ⟨sd,0,none⟩) (qQ tag).toArray (txL t).toArray Q):=by
 refine fun w hw=>zHd _ _ _ _ _ ?_
 refine hg hw ?_
 clear hw w
 refine zHz fun st l a b c F J ho=>?_
 unfold jO
 refine zR fun tag4=>?_
 refine zR fun t5=>?_
 refine zR fun t6=>?_
 refine vk ?_
 refine vg ?_
 refine yD (b:=sd) (l:=sdL st l a b c) (x:=some ⟨st,0,none⟩) ?_
 refine qW (b:=tag4) (l:=qQ tag) (l':=qQ tag) ?_
 refine qW (b:=t5) (l:=txL t) (l':=txL t) ?_
 refine zQ st ?_
 refine zXv (t:=t) (fun w hw=>hr w (hw.drops (Δ:=Γ))) hl hk fun t' ms ht'=>?_
 refine qX (b:=t6) (l':=orV tag t' ms) ?_
 refine qW (b:=t6) (l:=orV tag t' ms) (l':=orV tag t' ms) ?_
 refine zq b ?_
 refine zX (Sep.stars (F.map (zEh T))) ?_
 refine zq a ?_
 refine zX (Sep.stars (J.map zEw)) ?_
 refine zq c ?_
 refine zQ st ?_
 refine zQ l ?_
 refine zQ sd ?_
 refine zB4 ho ?_
 exact zC (h t' ms ht')
end
end
section
open Go Go.Sep Go.Sep.Bt
theorem zIL {L:List MkX} (h:L ≠ []) {x:Int}:x ∈ xS L ↔ ∃ m ∈ L,m.home = x:=by
 unfold xS
 rw [zHJ,(List.mergeSort_perm _ _).mem_iff,if_neg (by simpa using h)]
 exact List.mem_map
theorem zMH:xS [] = [0]:=by unfold xS zDs; simp [uD]
theorem zUa (L:List MkX):xS L ≠ []:=by
 by_cases h:L = []
 ·rw [h,zMH]; simp
 ·obtain ⟨m,hm⟩:=List.exists_mem_of_ne_nil _ h
  exact List.ne_nil_of_mem ((zIL h).2 ⟨m,hm,rfl⟩)
def GOk (g:ql) (G:GM×DM):Prop:=(∀ p ∈ G.1,(∀ c ∈ p.2.1,c.1 = g)∧p.2.2 = [])∧G.2 g = false
theorem zQv {g:ql} {k:TX} {M:GM} (h:∀ p ∈ M,(∀ c ∈ p.2.1,c.1 = g)∧p.2.2 = []):∀ p ∈ zAm k M,(∀ c ∈ p.2.1,c.1 = g)∧p.2.2 = []:=fun p hp=>by
 unfold zAm at hp
 split at hp
 ·rcases List.mem_append.1 hp with hp | hp
  ·exact h p hp
  ·rw [List.mem_singleton.1 hp]; simp
 ·exact h p hp
theorem zZo {g:ql} {k:TX} {M:GM} (h:∀ p ∈ M,(∀ c ∈ p.2.1,c.1 = g)∧p.2.2 = []):(∀ c ∈ (atM k M).1,c.1 = g)∧(atM k M).2 = []:=by
 unfold atM
 rcases zE7 k M with ⟨h1,_⟩ | ⟨j,v,_,h0,_,h1,_⟩
 ·rw [h1]; simp
 ·rw [h1]; exact h _ (List.mem_of_getElem? h0)
theorem zR5 {n:Nat} {R:yY} {g:ql} {x:GM×DM} {m:zEn} (h:GOk g x) (h0:zBR n R m = 0):GOk g (zBx n R g x m):=by
 obtain ⟨h1,h2⟩:=h
 unfold zBx
 split
 ·exact ⟨zQv h1,h2⟩
 ·try rw [if_pos h0]
  refine ⟨fun p hp=>?_,h2⟩
  rcases zLg hp with rfl | hp
  ·obtain ⟨a1,a2⟩:=zZo (k:=m.key) h1
   refine ⟨fun c hc=>?_,a2⟩
   rcases List.mem_append.1 hc with hc | hc
   ·exact a1 c hc
   ·rw [List.mem_singleton.1 hc]
  ·exact zQv h1 p hp
theorem zMI {n:Nat} {R:yY} {g:ql}:∀ (L:List zEn) {x:GM×DM},(∀ m ∈ L,zBR n R m = 0)→GOk g x→GOk g (zBF n R g L x)
 | [],x,_,h=>h
 | m::L,x,h0,h=>zMI L (fun m hm=>h0 m (List.mem_cons_of_mem _ hm)) (zR5 h (h0 m List.mem_cons_self))
theorem zUb {g:ql} {G:GM×DM} (h:GOk g G):zFc g G.1 = true:=by
 unfold zFc
 rw [List.all_eq_true]
 intro p hp
 obtain ⟨h1,h2⟩:=h.1 p hp
 unfold zGh
 rw [h2]
 cases hl:p.2.1 with
 | nil=>simp [zKG,zFb]
 | cons c L=>
  have hc:c.1 = g:=h1 c (by rw [hl]; exact List.mem_cons_self)
  simp [zKG,List.findIdx?_cons,hc,zFb]
theorem zUc {n:Nat} {j:zD8} {M:yY} {G:GM×DM} (h:pick G j = true):zAO n 1 [j] M G = (([],zGE n j.tag j.tx M G,zIH n j.tag j.tx M G),[⟨j.tag,zGF n j.tag j.tx M G,zMj n j.tag j.tx M G⟩]):=by
 simp [zAO,zHy,h]
theorem zR6 {n:Nat} {j:zD8} {M:yY} {G:GM×DM} (h:pick G j = false):zAO n 1 [j] M G = (([j],M,G),[]):=by
 simp [zAO,zHy,h]
structure PW (n:Nat) (ix:Int) (g:ql) (t:TxX) (mks:List MkX) (rest:List Int) (S:jk):Prop where
 M:S.M = []
 G:GOk g S.G
 fl:S.fils.length = n
 fils:∀ r ∈ rest,(S.fils.getD r.toNat ⟨-1,[]⟩).last < ix
 sub:∀ r ∈ rest,r ∈ xS mks
 jobs:S.jobs = []∧rest = xS mks∨S.jobs = [⟨g,zGG t,mks,rest⟩]
theorem zMJ {n:Nat} {ix:Int} {g:ql} {t:TxX} {mks:List MkX} {rest:List Int} {S:jk} {r:Int} (hok:∀ r ∈ xS mks,zGr n r 2 ix g t mks) (hs:zWa t mks = false) (hfit:∀ m ∈ mks,zBR n [] (mM m) = 0) (hp:PW n ix g t mks rest S) (hr:r ∈ rest) :
  ((rest.filter fun h=>!decide (h = r)) ≠ []→(j5 n r 2 ix g t mks S).2 = []∧PW n ix g t mks (rest.filter fun h=>!decide (h = r)) (j5 n r 2 ix g t mks S).1∧(j5 n r 2 ix g t mks S).1.jobs.length = 1) ∧
  ((rest.filter fun h=>!decide (h = r)) = []→∃ G',GOk g G'∧(j5 n r 2 ix g t mks S).2 = [⟨g,zGF n g (zGG t) [] G',zMj n g (zGG t) [] G'⟩]∧(j5 n r 2 ix g t mks S).1.jobs = []):=by
 have hrh:=hp.sub r hr
 have hin:zBz r 2 ix g t mks S = ({ (S.fils.getD r.toNat ⟨-1,[]⟩) with last:=ix },true):=by
  unfold zBz uz
  rw [if_neg (by simpa using hrh),if_neg (by simp),if_pos ⟨rfl,hs,hp.fils r hr⟩]
 have hS:j5 n r 2 ix g t mks S = zFQ n ⟨[],zBF n [] g ((mks.filter fun m=>decide (m.home = r)).map mM) S.G,S.fils.set r.toNat { (S.fils.getD r.toNat ⟨-1,[]⟩) with last:=ix },S.fed.set r.toNat (S.fed.getD r.toNat 0 + 1),[⟨g,zGG t,mks,rest.filter fun h=>!decide (h = r)⟩]⟩:=by
  unfold j5
  rw [if_pos (hok r hrh)]
  unfold zJ9
  rw [hin,if_neg (by simp)]
  rcases hp.jobs with ⟨h1,h2⟩ | h1
  ·rw [if_neg (by rw [h1]; simp)]
   simp only [zPG,zMB,hin,h1,List.nil_append,zJn,if_true,zK0,hp.M,← h2]
  ·rw [if_pos (by rw [h1]; exact ⟨_,List.mem_cons_self,rfl⟩),if_neg (by omega)]
   simp only [zPG,zMB,hin,h1,zJn,if_true,zK0,hp.M]
 rw [hS]
 have hG':GOk g (zBF n [] g ((mks.filter fun m=>decide (m.home = r)).map mM) S.G):=zMI _ (fun m hm=>by
  obtain ⟨x,hx,rfl⟩:=List.mem_map.1 hm
  exact hfit x (List.mem_filter.1 hx).1) hp.G
 have hrn:=(hok r hrh).2.2.1
 refine ⟨fun hne=>?_,fun he=>?_⟩
 ·unfold zFQ
  simp only [List.length_cons,List.length_nil]
  rw [show (0 + 1:Nat) = 1 from rfl,zR6 (by unfold pick; simp only; rw [decide_eq_false hne]; rfl)]
  refine ⟨rfl,⟨rfl,hG',by simpa using hp.fl,fun r' hr'=>?_,fun r' hr'=>hp.sub r' (List.mem_filter.1 hr').1,.inr rfl⟩,rfl⟩
  obtain ⟨h1,h2⟩:=List.mem_filter.1 hr'
  have h3:r' ≠ r:=by simpa using h2
  have hrn':=(hok r' (hp.sub r' h1)).2.2.1
  have h4:=hp.fils r' h1
  simp only
  rw [List.getD_eq_getElem?_getD,List.getElem?_set_ne (by omega),← List.getD_eq_getElem?_getD]
  exact h4
 ·unfold zFQ
  simp only [List.length_cons,List.length_nil]
  rw [he,show (0 + 1:Nat) = 1 from rfl,zUc (by unfold pick; simp only; rw [zUb hG']; simp)]
  exact ⟨_,hG',rfl,rfl⟩
theorem zX7 {n:Nat} {ks:List TX}:∀ m ∈ zBy n [] ks,zBR n [] (mM m) = 0:=fun m hm=>by
 obtain ⟨k,_,rfl⟩:=List.mem_map.1 hm
 unfold zBR mM zEl
 simp
end
section
open Go Go.Sep Go.Sep.Bt
theorem zNe {k:List UInt8} {n:Nat} (h:0 < n):zEs k n < n:=by
 have:∀ (l:List UInt8) (s:Nat),s < n→l.foldl (fun s b=>(s + b.toNat) % n) s < n:=fun l=>by
  induction l with
  | nil=>exact fun s hs=>hs
  | cons b l ih=>exact fun s _=>ih _ (Nat.mod_lt _ h)
 exact this k 0 h
theorem zFq {n:Int} {g:ql} {a b:TxX} {mks:List MkX} (h:zEb a b) (ho:zDO n g b mks):zDO n g a mks:=by
 obtain ⟨h1,h2,h3⟩:=ho
 refine ⟨by rw [zFi h]; exact h1,h2,?_⟩
 obtain ⟨g1,g2,g3,g4,g5⟩:=h
 rw [g3,g4]; exact h3
theorem zPJ {B:World} {Γ:List zB} {s:Sl} {D:List DcX} {k:K} (h:s.n = D.length→HG B (SlC qE 6 s (D.flatMap dcF)::Γ) k):HG B (SlC qE 6 s (D.flatMap dcF)::Γ) k:=by
 refine yS s fun a1 a2 a3 a4=>?_
 rw [zn _ 6 zEM] at a1
 exact h (by omega)
theorem zWk {B:World} {Γ:List zB} {s:Sl} {D:List ql} {k:K} (h:s.n = D.length→HG B (SlC xW 4 s (D.flatMap qQ)::Γ) k):HG B (SlC xW 4 s (D.flatMap qQ)::Γ) k:=by
 refine yS s fun a1 a2 a3 a4=>?_
 rw [zn _ 4 zFD] at a1
 exact h (by omega)
theorem zX8 {n:Nat} {ix:Int} {g:ql} {t:TxX} {mks:List MkX} (hix:0 ≤ ix):PW n ix g t mks (xS mks) (zGH n):=by
 refine ⟨rfl,⟨by simp [zGH],rfl⟩,by simp [zGH],fun r _=>?_,fun _ h=>h,.inl ⟨rfl,rfl⟩⟩
 simp only [zGH]
 rw [List.getD_eq_getElem?_getD]
 cases he:(List.replicate n (⟨-1,[]⟩:zHk))[r.toNat]? with
 | none=>simp; omega
 | some f=>
  have:=List.eq_of_mem_replicate (List.mem_of_getElem? he)
  rw [this]; simp; omega
theorem zX9 {n:Nat} {g:ql} {t:TxX} (hg:zFO g) (h1:1 ≤ n) (h3:n ≤ 3) (hrt:vE n t = true) (hrt3:vE 3 t = true):zDO (n:Int) g t (zBy n [] (jW (t.reads++t.writes)))∧zDO 3 g t (zBy n [] (jW (t.reads++t.writes))):=by
 have hm:∀ m ∈ zBy n [] (jW (t.reads++t.writes)),0 ≤ m.home∧m.home < n:=fun m hm=>by
  obtain ⟨k,_,rfl⟩:=List.mem_map.1 hm
  have:((vo n [] (bs k)).home:Int) = (zEs (bs k).toList n:Nat):=rfl
  simp only [this]
  have:=zNe (k:=(bs k).toList) (n:=n) (by omega)
  omega
 have hk:(zBy n [] (jW (t.reads++t.writes))).map MkX.key = jW (t.reads++t.writes):=by simp [zBy,Function.comp_def]
 exact ⟨⟨hrt,hg,hk,hm⟩,⟨hrt3,hg,hk,fun m h=>by have:=hm m h; omega⟩⟩
section
variable {B:World} {Γ Δ:List zB}
theorem zWl {q:Bool→K} (h:HG B Γ (q true)):HG B Γ (qx.call q):=by
 refine fun w hw=>zKS _ _ ?_
 refine hg hw ?_
 clear hw w
 unfold qx
 refine zHP (n:=2) (by omega) (by omega) fun sd=>?_
 refine s_f ?_ (by rfl)
 unfold qx.s1
 refine s_f ?_ (by rfl)
 refine zOo (cs:=qQ ⟨0,1,1,0⟩) ?_
 refine zR fun t21=>?_
 have hk:jW (([]:List TX)++[[97],[98]]) = [[97],[98]]:=by
  refine zQZ (zQa _) ?_ fun x=>?_
  ·refine List.pairwise_cons.2 ⟨fun y hy=>?_,List.pairwise_singleton _ _⟩
   rw [List.mem_singleton.1 hy]
   decide
  ·rw [zJh]; rfl
 generalize hw:(⟨some ⟨t21,0,none⟩,2,2⟩:Sl) = ws
 have hrt:∀ n:Int,1 ≤ n→n ≤ 3→vE n ⟨1,[],[[97],[98]],[],0,⟨none,0,0⟩,ws,⟨none,0,0⟩⟩ = true:=fun n h1 h3=>by
  unfold vE
  rw [if_neg (by simp [zAJ]; refine ⟨h1,h3,?_⟩; decide),if_neg (by simp [zFh]),if_neg (by simp),if_neg (by simp)]
  rfl
 refine zQ sd ?_
 refine zQu (tag:=⟨0,1,1,0⟩) (t:=⟨1,[],[[97],[98]],[],0,⟨none,0,0⟩,ws,⟨none,0,0⟩⟩) (fun w hw=>⟨RdC.none',?_,RdC.none',by simp⟩) (by simp) (by simp) fun t' ms ht'=>?_
 ·subst ws
  exact RdC.zLM (E:=uh) (b:=t21) (vs:=[xU [97],xU [98]]) (cs:=#[xU [97],xU [98]]) hw List.mem_cons_self rfl rfl 2
 simp only at hrt ⊢
 have hmk:zBy 2 [] [[97],[98]] = [⟨[97],1,0⟩,⟨[98],0,0⟩]:=by
  simp only [zBy,List.map_cons,List.map_nil,zam,vo,getM,Option.getD_none,List.cons.injEq,MkX.mk.injEq,and_true,true_and]
  refine ⟨⟨by rw [uU]; rfl,rfl⟩,by rw [uU]; rfl,rfl⟩
 have hokT:=zX9 (n:=2) (g:=⟨0,1,1,0⟩) (t:=⟨1,[],[[97],[98]],[],0,⟨none,0,0⟩,ws,⟨none,0,0⟩⟩) (by decide) (by omega) (by omega) (hrt 2 (by omega) (by omega)) (hrt 3 (by omega) (by omega))
 have hfit:=zX7 (n:=2) (ks:=jW (([]:List TX)++[[97],[98]]))
 simp only at hokT
 rw [hk,hmk] at hokT hfit
 rw [hk]
 show HG B (SlC yu 3 ms ((zBy 2 [] [[97],[98]]).flatMap mkL)::_) _
 rw [hmk]
 generalize hmks:([⟨[97],1,0⟩,⟨[98],0,0⟩]:List MkX) = mks at *
 have ho2:=zFq ht' hokT.1
 have ho3:=zFq ht' hokT.2
 have hmem:∀ x,x ∈ xS mks ↔ x = 0∨x = 1:=fun x=>by
  rw [zIL (by rw [← hmks]; simp),← hmks]
  simp [or_comm,eq_comm]
 have hs:zWa t' mks = false:=by
  have:(xS mks).length ≠ 1:=fun h1=>by
   obtain ⟨a,ha⟩:=List.length_eq_one_iff.1 h1
   have h2:=(hmem 0).2 (.inl rfl)
   have h3:=(hmem 1).2 (.inr rfl)
   rw [ha] at h2 h3
   have h4:=List.mem_singleton.1 h2
   have h5:=List.mem_singleton.1 h3
   omega
  simp [zWa,this]
 have hfo:∀ r ∈ xS mks,zGr 2 r 2 0 ⟨0,1,1,0⟩ t' mks:=fun r hr=>⟨.inr ⟨rfl,by omega,by omega⟩,ho3,by rcases (hmem r).1 hr with rfl | rfl <;> omega,ho2⟩
 have hops:t'.ops = []:=by have:=ht'.2.2.2.2; simpa using this
 have hml:mks.length = 2:=by rw [← hmks]; rfl
 have hmc:∀ m ∈ mks,0 ≤ m.cnt∧m.cnt < 18446744073709551616:=fun m hm=>by
  rw [← hmks] at hm
  simp only [List.mem_cons,List.not_mem_nil,or_false] at hm
  rcases hm with rfl | rfl <;> simp
 have hl:t'.reads.length ≤ 1000∧t'.writes.length ≤ 1000∧t'.ops.length ≤ 1000:=by
  rw [ht'.2.2.1,ht'.2.2.2.1,hops]; simp
 have p0:=zX8 (n:=2) (ix:=0) (g:=⟨0,1,1,0⟩) (t:=t') (mks:=mks) (by omega)
 obtain ⟨q1,_⟩:=zMJ (r:=0) hfo hs hfit p0 ((hmem 0).2 (.inl rfl))
 have hm1:(1:Int) ∈ (xS mks).filter fun h=>!decide (h = 0):=List.mem_filter.2 ⟨(hmem 1).2 (.inr rfl),by simp⟩
 obtain ⟨d1,p1,j1⟩:=q1 (List.ne_nil_of_mem hm1)
 obtain ⟨_,q2⟩:=zMJ (r:=1) hfo hs hfit p1 hm1
 obtain ⟨G',hG',d2,j2⟩:=q2 (by
  rw [List.filter_eq_nil_iff]
  intro x hx
  obtain ⟨h1,h2⟩:=List.mem_filter.1 hx
  rcases (hmem x).1 h1 with rfl | rfl
  ·simp at h2
  ·simp)
 refine zR fun o3=>?_
 refine qX (b:=o3) (l':=orV ⟨0,1,1,0⟩ t' ms) ?_
 refine qW (b:=o3) (l:=orV ⟨0,1,1,0⟩ t' ms) (l':=orV ⟨0,1,1,0⟩ t' ms) ?_
 refine zh ?_
 refine zR fun p4=>?_
 refine qX (b:=p4) (l':=itV 2 0 ⟨0,1,1,0⟩ t' ms) ?_
 refine qW (b:=p4) (l:=itV 2 0 ⟨0,1,1,0⟩ t' ms) (l':=itV 2 0 ⟨0,1,1,0⟩ t' ms) ?_
 refine zQ sd ?_
 refine zFo (mks:=mks) (by omega) (fun w hw=>zO8 (Γ:=[]) hw.drops) (fun w hw=>(yh (s:=ms) hw).1) (by rw [hops]; simp) (by simp) (by simp) hmc hl (by omega) fun s1 D1 hD1 _=>?_
 refine zPJ fun n1=>?_
 have hD1':D1.length = 0:=by have:=congrArg List.length hD1; rw [List.length_map,d1] at this; simpa using this
 refine zQ sd ?_
 refine zFp (by omega) fun s2=>?_
 refine zWk fun n2=>?_
 rw [List.length_map,j1] at n2
 refine qW (b:=p4) (l:=itV 2 0 ⟨0,1,1,0⟩ t' ms) (l':=itV 2 0 ⟨0,1,1,0⟩ t' ms) ?_
 refine zQ sd ?_
 refine zFo (mks:=mks) (by omega) (fun w hw=>zO8 (Γ:=[]) hw.drops) (fun w hw=>(yh (s:=ms) hw).1) (by rw [hops]; simp) (by simp) (by simp) hmc hl (by omega) fun s3 D3 hD3 _=>?_
 refine zPJ fun n3=>?_
 rw [d2] at hD3
 obtain ⟨d,rfl,hd⟩:=List.map_eq_singleton_iff.1 hD3
 refine s_t ?_ (by simp; omega)
 refine s_t ?_ (by simp; omega)
 refine s_t ?_ (by simp at n3 ⊢; omega)
 have hcode:d.code = 0:=by
  have h1:=congrArg DcM.code hd
  simp only [zHl,zGF] at h1
  rw [h1,if_neg (by rw [hG'.2]; simp)]
  have hk1:(zGG t').kind = 1:=ht'.1
  have hop:(zGG t').ops = []:=by simp [zGG,hops]
  unfold jJ
  rw [hk1,hop,if_neg (by omega)]
  rfl
 refine zHL dcF (off:=4) (L:=[d]) (j:=0) (c:=Value.int .i64) (x:=d) (v:=d.code) zEM (fun w hw=>(yh (s:=s3) hw).1) rfl rfl ?_
 rw [hcode]
 refine s_t ?_ (by rfl)
 refine zQ sd ?_
 refine zFp (by omega) fun s4=>?_
 refine zWk fun n4=>?_
 rw [List.length_map,j2] at n4
 unfold qx.s2
 rw [show decide ((s4.n:Int) = 0) = true by rw [n4]; rfl]
 exact zC h
end
end
section
open Go Go.Sep Go.Sep.Bt
def vF (n:Nat) (M:yY):Prop:=∀ x ∈ M,0 ≤ x.2.home∧x.2.home < (n:Int)
theorem vF.nil {n:Nat}:vF n []:=by intro x hx; cases hx
theorem vF.get {n:Nat} {M:yY} (h:vF n M) (hn:1 ≤ n) (k:ByteArray):0 ≤ (vo n M k).home∧(vo n M k).home < (n:Int):=by
 unfold vo
 cases hm:getM M k with
 | none=>
  have:=zNe (k:=k.toList) (n:=n) (by omega)
  simp only [Option.getD_none]
  omega
 | some r=>exact h _ (zLZ hm)
theorem vF.move {n:Nat} {M:yY} (h:vF n M) (k:ByteArray) (to:Int):vF n (zE6 n M k to).1:=by
 unfold zE6
 split
 ·exact h
 rename_i h1
 split
 ·exact h
 ·intro x hx
  rcases zLY hx with rfl | hx
  ·simp only; omega
  ·exact h x hx
theorem vF.set {n:Nat} {M:yY} (h:vF n M) {k:ByteArray} {r:Rec} (hr:0 ≤ r.home∧r.home < (n:Int)):vF n (zKO M k r):=by
 unfold zKO
 split
 ·intro x hx
  unfold zO5 at hx
  exact h x (List.mem_filter.1 hx).1
 ·intro x hx
  rcases zLY hx with rfl | hx
  ·exact hr
  ·exact h x hx
theorem vF.zCG {n:Nat} {M:yY} (h:vF n M) (hn:1 ≤ n) (x:List UInt8×Rec):vF n (zCG n M x):=by
 have h0:vF n (zFe n M x):=by
  unfold zFe
  split
  ·exact h.move _ _
  ·exact h
 unfold Go.Proofs.YtdemfamgieonbaaGreat.zCG zXm zXn
 split
 ·exact h0.set (h0.get hn _)
 ·exact h0.set (h0.get hn _)
theorem vF.zBM {n:Nat} (hn:1 ≤ n):∀ {W:WM} {M:yY},vF n M→vF n (zBM n M W)
 | [],_,h=>h
 | x::W,M,h=>by
  show vF n (Go.Proofs.YtdemfamgieonbaaGreat.zBM n (Go.Proofs.YtdemfamgieonbaaGreat.zCG n M x) W)
  exact vF.zBM hn (h.zCG hn x)
theorem vF.zGE {n:Nat} {M:yY} (h:vF n M) (hn:1 ≤ n) {g:ql} {t:TxX} {G:GM×DM}:vF n (zGE n g t M G):=by
 unfold Go.Proofs.YtdemfamgieonbaaGreat.zGE
 split
 ·exact h
 ·exact vF.zBM hn h
theorem vF.work {n:Nat} (hn:1 ≤ n):∀ {f:Nat} {J:List zD8} {M:yY} {G:GM×DM},vF n M→vF n (zAO n f J M G).1.2.1
 | 0,J,M,G,h=>h
 | f + 1,J,M,G,h=>by
  unfold zAO
  split
  ·exact h
  ·exact vF.work hn (h.zGE hn)
theorem vF.run {n:Nat} (hn:1 ≤ n) {S:jk} (h:vF n S.M):vF n (zFQ n S).1.M:=vF.work hn h
theorem vF.feed {n:Nat} (hn:1 ≤ n) {S:jk} (h:vF n S.M) {r kind ix:Int} {tag:ql} {t:TxX} {mks:List MkX}:vF n (j5 n r kind ix tag t mks S).1.M:=by
 unfold j5
 split
 ·unfold zJ9
  split
  ·exact h
  split
  ·split
   ·exact vF.run hn h
   ·exact vF.run hn h
  ·exact vF.run hn h
 ·exact h
theorem zWm {n:Nat} {g:ql} {t:TxX} {M:yY} (hM:vF n M) (hg:zFO g) (h1:1 ≤ n) (hrt:vE n t = true):zDO (n:Int) g t (zBy n M (jW (t.reads++t.writes))):=by
 refine ⟨hrt,hg,by simp [zBy,Function.comp_def],fun m hm=>?_⟩
 obtain ⟨k,_,rfl⟩:=List.mem_map.1 hm
 exact hM.get h1 _
end
section
open Go Go.Sep Go.Sep.Bt
section
variable {B:World} {Γ Δ:List zB} {k:K} {sd n T:Nat} {S:jk} {r:Int}
def zF0 (n:Nat) (S:jk) (r:Int):Int:=if 0 ≤ r∧r < n then S.fed.getD r.toNat 0 else 0
def lastOf (n:Nat) (S:jk) (r:Int):Int:=if 0 ≤ r∧r < n then (S.fils.getD r.toNat ⟨-1,[]⟩).last else -1
theorem zTl {q:Int→K} (h:HG B (zBG sd n T S::Γ) (q (zF0 n S r))):HG B (zBG sd n T S::Γ) (j6.call (some ⟨sd,0,none⟩) r q):=by
 refine fun w hw=>zIG _ _ _ _ ?_
 refine hg hw ?_
 clear hw w
 refine zHz fun st l a b c F J ho=>?_
 have back:HG B (zEN sd st l n T S a b c F J Γ) (q (zF0 n S r)):=zB4 ho h
 unfold j6
 refine zq b ?_
 refine zQ sd ?_
 refine zMC (n:=n) ho.fedl ?_
 by_cases hr:0 ≤ r∧r < n
 ·rw [decide_eq_true hr]
  refine s_f ?_
  refine vg ?_
  refine yD (b:=sd) (off:=3) (l:=sdL st l a b c) (x:=b) ?_
  have hri:r.toNat < S.fed.length:=by rw [ho.fedl]; omega
  have hge:S.fed[r.toNat]? = some (S.fed.getD r.toNat 0):=by rw [List.getD_eq_getElem?_getD,List.getElem?_eq_getElem hri]; rfl
  refine zAA (L:=S.fed) (c:=Value.int .i64) (j:=r.toNat) (x:=S.fed.getD r.toNat 0) (fun w hw=>(yh (s:=b) hw).1) hge ?_ (by omega)
  unfold zF0 at back
  rw [if_pos hr] at back
  exact zC back
 ·rw [decide_eq_false hr]
  refine s_t ?_
  unfold zF0 at back
  rw [if_neg hr] at back
  exact zC back
theorem zQw {q:Int→K} (h:HG B (zBG sd n T S::Γ) (q (lastOf n S r))):HG B (zBG sd n T S::Γ) (jQ.call (some ⟨sd,0,none⟩) r q):=by
 refine fun w hw=>zHg _ _ _ _ ?_
 refine hg hw ?_
 clear hw w
 refine zHz fun st l a b c F J ho=>?_
 have back:HG B (zEN sd st l n T S a b c F J Γ) (q (lastOf n S r)):=zB4 ho h
 unfold jQ
 refine zq b ?_
 refine zQ sd ?_
 refine zMC (n:=n) ho.fedl ?_
 by_cases hr:0 ≤ r∧r < n
 ·rw [decide_eq_true hr]
  obtain ⟨FA,xb,xf,FC,hF,hFl,hgf,_⟩:=zWh ho hr
  unfold lastOf at back
  rw [if_pos hr,hgf] at back
  refine s_f ?_
  refine vg ?_
  refine yD (b:=sd) (off:=2) (l:=sdL st l a b c) (x:=a) ?_
  refine zAA (c:=Value.pointer) (L:=F.map zIJ) (j:=r.toNat) (x:=zIJ ⟨xb,r,xf⟩) (fun w hw=>(yh (s:=a) hw).1) (by rw [hF,← hFl]; simp) ?_ (by omega)
  have e:Sep.stars (F.map (zEh T)) = Sep.stars ((FA++(⟨xb,r,xf⟩:FX)::FC).map (zEh T)):=by rw [hF]
  refine zX (Sep.stars (F.map (zEh T))) ?_
  rw [e]
  refine zEk ?_
  refine zRv (fb:=xb) (rg:=r) (f:=xf) (N:=T) ?_
  show HG B (zEh T ⟨xb,r,xf⟩::_) _
  refine zAG ?_
  rw [← e]
  exact zC back
 ·rw [decide_eq_false hr]
  unfold lastOf at back
  rw [if_neg hr] at back
  refine s_t ?_
  exact zC back
end
end
section
open Go Go.Sep Go.Sep.Bt
structure OkG (n:Nat) (o:OrG):Prop where
 ord:zDO (n:Int) o.tag o.t o.mks
 nn:∀ x ∈ o.t.ops,-9223372036854775808 ≤ x.1.n∧x.1.n ≤ 9223372036854775807
 g0:0 ≤ o.tag.epoch∧o.tag.epoch < 18446744073709551616
 g1:0 ≤ o.tag.seq∧o.tag.seq < 18446744073709551616
 mc:∀ m ∈ o.mks,0 ≤ m.cnt∧m.cnt < 18446744073709551616
theorem OkG.copy {n:Nat} (o o':OrG) (h1:o'.tag = o.tag) (h2:o'.mks = o.mks) (h3:zEb o'.t o.t) (h:OkG n o):OkG n o':=by
 refine ⟨?_,fun x hx=>?_,by rw [h1]; exact h.g0,by rw [h1]; exact h.g1,by rw [h2]; exact h.mc⟩
 ·rw [h1,h2]; exact zFq h3 h.ord
 ·have e:x.1 ∈ o.t.ops.map Prod.fst:=by rw [← h3.2.2.2.2]; exact List.mem_map.2 ⟨x,hx,rfl⟩
  obtain ⟨y,hy,e⟩:=List.mem_map.1 e
  rw [← e]; exact h.nn y hy
structure zKC where
 kind:Int
 rg:Int
 t:TxX
abbrev zEB (x:zKC):List Value:=.int .i64 x.kind::.int .i64 x.rg::txL x.t
theorem zFT (x:zKC):(zEB x).length = 7:=rfl
theorem zB5.up {Ok:OrG→Prop} {m c m' c':Nat} {x:zDu} (h:zB5 Ok m c x) (hm:m ≤ m') (hc:c ≤ c'):zB5 Ok m' c' x :=
 ⟨h.ll,h.al,h.ok,h.g,h.it,Nat.le_trans h.gc hc,fun l hl=>Nat.le_trans (h.ic l hl) hc,fun l hl i hi=>by have:=h.kd l hl i hi; omega,h.uq,fun o ho=>by have:=h.sq o ho; omega,h.lo⟩
def zGu:zDu:=⟨[⟨⟨none,0,0⟩,[]⟩,⟨⟨none,0,0⟩,[]⟩,⟨⟨none,0,0⟩,[]⟩],⟨none,0,0⟩,[],[-1,-1,-1],[]⟩
theorem zYA {Ok:OrG→Prop}:zB5 Ok 0 0 zGu:=by
 refine ⟨rfl,rfl,by simp [zGu],by simp [zGu],?_,by simp [zGu],?_,?_,by simp [zGu],by simp [zGu],by simp [zGu]⟩
 all_goals (intro l hl; simp only [zGu,List.mem_cons,List.not_mem_nil,or_false,or_self] at hl; subst hl; simp)
section
variable {B:World} {Γ Δ:List zB} {k:K}
theorem zat {α:Type} {s:Sem Value} {c:α→Value} {x:α} {kk:α→K} (h0:∀ w,s.run Tryz.prog w = .ok (c x) w) (h:HG B Γ (kk x)):HG B Γ (Pu Tryz.prog s c kk):=fun w hw=>⟨x,h0,h w hw⟩
theorem zUd {Ok:OrG→Prop} {tb m c:Nat} {x:zDu} {r:Int} {X1 X3:Int→K} {q:Array Value→Bool→K} {regions:Int} {t4:Addr} (hr:0 ≤ r∧r < 3) (hx:zB5 Ok m c x) (hc:c ≤ 700) (hg:x.G.length ≤ 60) (hOk:∀ o o':OrG,o'.tag = o.tag→o'.mks = o.mks→zEb o'.t o.t→Ok o→Ok o')
  (h:∀ x',zB5 Ok m (c + 70) x'→x'.G = x.G→HG B (zIK tb x' Γ) (X3 (r + 1))) :
  HG B (zIK tb x Γ) (yN (α:=Unit) (fun X _=>qD.b4 q X1 X3 (X ()) regions t4 ⟨tb,0,none⟩ r) ()):=by
 refine vQ (α:=Unit) (ι:=Nat×zDu) (fun _ i=>zB5 Ok m (c + i.1) i.2∧i.2.G = x.G∧(i.1:Int) ≤ i.2.la.getD r.toNat 0 + 1) (fun _ i=>zIK tb i.2 Γ) (fun _ i=>(x.G.length + 1 - (i.2.la.getD r.toNat 0 + 1)).toNat) (0,x) ⟨hx,rfl,?_⟩ ?_
 ·have hl:r.toNat < x.la.length:=by rw [hx.al]; omega
  have:=(hx.lo (x.la[r.toNat]) (List.getElem_mem hl)).1
  rw [List.getD_eq_getElem?_getD,List.getElem?_eq_getElem hl]
  simp only [Option.getD_some]; omega
 rintro k' _ ⟨i,x'⟩ ⟨h1,h2,h3⟩ hk'
 simp only at h1 h2 h3 hk' ⊢
 have hl:r.toNat < x'.la.length:=by rw [h1.al]; omega
 have hlo:=h1.lo (x'.la[r.toNat]) (List.getElem_mem hl)
 have hgd:x'.la.getD r.toNat 0 = x'.la[r.toNat]:=by rw [List.getD_eq_getElem?_getD,List.getElem?_eq_getElem hl]; rfl
 rw [h2] at hlo
 unfold qD.b4
 refine zQr (m:=m) (c:=c + i) hr h1 (by omega) hOk ?_ fun x2 v hx2 hG2 hlt hvl hla=>?_
 ·refine s_f ?_
  refine qU ?_
  exact h x' (h1.up (Nat.le_refl _) (by omega)) h2
 ·refine s_t ?_
  have hv:x2.la.getD r.toNat 0 = v:=by
   rw [hla,List.getD_eq_getElem?_getD,List.getElem?_set_self hl]; rfl
  refine hk' () (i + 1,x2) ⟨hx2,by rw [hG2]; exact h2,?_⟩ ?_
  ·simp only; rw [hv]; push_cast; omega
  ·simp only
   rw [hv]
   rw [h2] at hvl
   omega
theorem zau (n:Int):0 ≤ bitsOf .and .i64 n 3∧bitsOf .and .i64 n 3 ≤ 3:=by
 unfold bitsOf
 simp only
 have h1:((BitVec.ofInt IntKind.i64.bits n &&& BitVec.ofInt IntKind.i64.bits 3).toNat) ≤ 3:=by
  rw [BitVec.toNat_and]
  exact Nat.le_trans Nat.and_le_right (by decide)
 rw [wrap64 (by omega) (by omega)]
 omega
theorem zbp (n:Int):0 ≤ bitsOf .and .i64 n 1023∧bitsOf .and .i64 n 1023 ≤ 1023:=by
 unfold bitsOf
 simp only
 have h1:((BitVec.ofInt IntKind.i64.bits n &&& BitVec.ofInt IntKind.i64.bits 1023).toNat) ≤ 1023:=by
  rw [BitVec.toNat_and]
  exact Nat.le_trans Nat.and_le_right (by decide)
 rw [wrap64 (by omega) (by omega)]
 omega
theorem zNf {x:zDu}:(uL x).all yX = true:=by
 rw [List.all_eq_true]
 intro v hv
 unfold uL at hv
 rcases List.mem_append.1 hv with hv | hv
 ·obtain ⟨l,_,rfl⟩:=List.mem_map.1 hv; rfl
 rcases List.mem_cons.1 hv with rfl | hv
 ·rfl
 ·obtain ⟨l,_,rfl⟩:=List.mem_map.1 hv; rfl
theorem zYB {n tb t4 m c:Nat} {x:zDu} {X1:Int→K} {q:Array Value→Bool→K} {cs:List Value} (hn:n ≤ 3) (hcs:cs.length = 7) (hx:zB5 (OkG n) m c x) (hc:c ≤ 60) (hg:x.G.length ≤ 60)
  (h:∀ x',zB5 (OkG n) m 300 x'→HG B (Sep.stars (x'.logs.map zCu)::SlC yT 10 x'.gs (x'.G.flatMap zCt)::Sep.stars (x'.P.map zHm)::Γ) (q (uL x').toArray true)) :
  HG B (zIK tb x (blk t4 (.cells cs.toArray zf (0,0))::Γ)) (yN (α:=Int) (fun X x=>qD.b3 q X1 X (n:Int) ⟨t4,0,none⟩ ⟨tb,0,none⟩ x) 0):=by
 refine vQ (α:=Int) (ι:=Nat×zDu) (fun y i=>y = (i.1:Int)∧i.1 ≤ n∧zB5 (OkG n) m (c + 70 * i.1) i.2∧i.2.G = x.G) (fun _ i=>zIK tb i.2 (blk t4 (.cells cs.toArray zf (0,0))::Γ)) (fun _ i=>n - i.1) (0,x) ⟨rfl,Nat.zero_le _,by simpa using hx,rfl⟩ ?_
 rintro k' _ ⟨i,x'⟩ ⟨rfl,hi,h1,h2⟩ hk'
 simp only at hi h1 h2 hk' ⊢
 unfold qD.b3
 refine zH (fun hb=>?_) fun hb=>?_
 ·have hil:i < n:=by simp only [decide_eq_true_eq] at hb; omega
  refine zUd (m:=m) (c:=c + 70 * i) (by omega) h1 (by omega) (by rw [h2]; exact hg) OkG.copy fun x2 hx2 hG2=>?_
  exact hk' ((i:Int) + 1) (i + 1,x2) ⟨by simp,hil,hx2.up (Nat.le_refl _) (by omega),by rw [hG2]; exact h2⟩ (by simp only; omega)
 ·have h7:(uL x').length = 7:=zFS h1.ll h1.al
  refine qW (b:=tb) (l:=uL x') (l':=uL x') ?_ (by rw [List.drop_zero,List.take_of_length_le (by omega)]) h7
  refine zR0 (b:=t4) (off:=0) (us:=uL x') (uL x') ?_ h7 (by omega) (by rw [List.take_zero,List.nil_append,List.drop_of_length_le (by omega),List.append_nil]) zNf
  refine qW (b:=t4) (l:=uL x') (l':=uL x') ?_ (by rw [List.drop_zero,List.take_of_length_le (by omega)]) h7
  exact zC (h x' (h1.up (Nat.le_refl _) (by omega)))
end
end
section
open Go Go.Sep Go.Sep.Bt
structure zBb (a b:jk):Prop where
 M:a.M = b.M
 G:a.G = b.G
 fi:a.fils = b.fils
 jo:a.jobs = b.jobs
theorem zBb.rfl' {a:jk}:zBb a a:=⟨rfl,rfl,rfl,rfl⟩
theorem zBb.trans' {a b c:jk} (h:zBb a b) (g:zBb b c):zBb a c:=⟨h.M.trans g.M,h.G.trans g.G,h.fi.trans g.fi,h.jo.trans g.jo⟩
theorem zBb.zTm {a b:jk} (h:zBb a b):zBb b a:=⟨h.M.symm,h.G.symm,h.fi.symm,h.jo.symm⟩
section
variable {n:Nat} {r kind ix:Int} {tag:ql} {t:TxX} {mks:List MkX}
theorem zJp {a b:jk} (h:zBb a b):zBb (zFQ n a).1 (zFQ n b).1∧(zFQ n a).2 = (zFQ n b).2:=by
 obtain ⟨M,G,fi,fe,jo⟩:=a
 obtain ⟨M',G',fi',fe',jo'⟩:=b
 obtain ⟨h1,h2,h3,h4⟩:=h
 simp only at h1 h2 h3 h4
 subst h1 h2 h3 h4
 exact ⟨⟨rfl,rfl,rfl,rfl⟩,rfl⟩
theorem zUe {a b:jk} (h:zBb a b):zBb (j5 n r kind ix tag t mks a).1 (j5 n r kind ix tag t mks b).1∧(j5 n r kind ix tag t mks a).2 = (j5 n r kind ix tag t mks b).2:=by
 obtain ⟨M,G,fi,fe,jo⟩:=a
 obtain ⟨M',G',fi',fe',jo'⟩:=b
 obtain ⟨h1,h2,h3,h4⟩:=h
 simp only at h1 h2 h3 h4
 subst h1 h2 h3 h4
 unfold j5
 by_cases hok:zGr n r kind ix tag t mks
 ·rw [if_pos hok,if_pos hok]
  unfold zJ9
  simp only [zBz]
  split
  ·exact ⟨⟨rfl,rfl,rfl,rfl⟩,rfl⟩
  ·split
   ·split
    ·exact zJp ⟨rfl,rfl,rfl,rfl⟩
    ·exact zJp ⟨rfl,rfl,rfl,rfl⟩
   ·exact zJp ⟨rfl,rfl,rfl,rfl⟩
 ·rw [if_neg hok,if_neg hok]
  exact ⟨⟨rfl,rfl,rfl,rfl⟩,rfl⟩
theorem zNg {S:jk}:(j5 n r kind ix tag t mks S).1.fils = if zGr n r kind ix tag t mks then S.fils.set r.toNat (zBz r kind ix tag t mks S).1 else S.fils:=by
 unfold j5
 split
 ·unfold zJ9
  split
  ·rfl
  ·split
   ·split <;> rfl
   ·rfl
 ·rfl
def zYy (f g:zHk):Prop:=f.last ≤ g.last∧∀ x ∈ f.seen,x ∈ g.seen
theorem zUf {f:zHk} {hs:List Int} {sg:Bool}:zYy f (uz r f kind ix tag hs sg).1:=by
 unfold uz
 split
 ·exact ⟨Int.le_refl _,fun x hx=>hx⟩
 split
 ·refine ⟨Int.le_refl _,fun x hx=>?_⟩
  show x ∈ firstM tag f.seen
  unfold firstM
  split
  ·exact hx
  ·exact List.mem_append_left _ hx
 split
 ·rename_i h; exact ⟨by simp only; omega,fun x hx=>hx⟩
 ·exact ⟨Int.le_refl _,fun x hx=>hx⟩
theorem zNh {f g:zHk} {hs:List Int} {sg:Bool} (hfg:zYy f g) (h:(uz r f kind ix tag hs sg).2 = false):uz r g kind ix tag hs sg = (g,false):=by
 unfold uz at h ⊢
 split
 ·rfl
 rename_i h1
 rw [if_neg h1] at h
 split
 ·rename_i h2
  rw [if_pos h2] at h
  have hm:tag ∈ g.seen:=hfg.2 _ (by simpa using h)
  simp [firstM,hm]
 rename_i h2
 rw [if_neg h2] at h
 split
 ·rename_i h3
  rw [if_pos ⟨h3.1,h3.2.1,by have:=hfg.1; omega⟩] at h
  cases h
 ·rfl
theorem zQx {f:zHk} {hs:List Int} {sg:Bool}:(uz r (uz r f kind ix tag hs sg).1 kind ix tag hs sg).2 = false:=by
 by_cases h1:r ∉ hs
 ·unfold uz; rw [if_pos h1,if_pos h1]
 by_cases h2:kind = 1∧sg = true
 ·have e:(uz r f kind ix tag hs sg).1 = { f with seen:=firstM tag f.seen }:=by unfold uz; rw [if_neg h1,if_pos h2]
  rw [e]
  have hm:tag ∈ firstM tag f.seen:=by unfold firstM; split <;> simp_all
  unfold uz
  rw [if_neg h1,if_pos h2]
  simp [hm]
 by_cases h3:kind = 2∧sg = false∧f.last < ix
 ·have e:(uz r f kind ix tag hs sg).1 = { f with last:=ix }:=by unfold uz; rw [if_neg h1,if_neg h2,if_pos h3]
  rw [e]
  unfold uz
  rw [if_neg h1,if_neg h2,if_neg (by simp)]
 ·have e:(uz r f kind ix tag hs sg).1 = f:=by unfold uz; rw [if_neg h1,if_neg h2,if_neg h3]
  rw [e]
  unfold uz
  rw [if_neg h1,if_neg h2,if_neg h3]
theorem zQy {l:List zHk} {i j:Nat} {v d:zHk}:(l.set i v).getD j d = if i = j∧i < l.length then v else l.getD j d:=by
 simp only [List.getD_eq_getElem?_getD,List.getElem?_set]
 by_cases h:i = j
 ·subst h
  by_cases h2:i < l.length
  ·simp [h2]
  ·simp [h2,List.getElem?_eq_none (Nat.not_lt.1 h2)]
 ·simp [h]
def knows (n:Nat) (r kind ix:Int) (tag:ql) (t:TxX) (mks:List MkX) (S:jk):Prop:=zGr n r kind ix tag t mks→(zBz r kind ix tag t mks S).2 = false
theorem zMK {S:jk} (h:knows n r kind ix tag t mks S):zBb (j5 n r kind ix tag t mks S).1 S∧(j5 n r kind ix tag t mks S).2 = []:=by
 unfold j5
 split
 ·rename_i hok
  have h1:=h hok
  unfold zJ9
  rw [if_pos h1]
  have h2:(zBz r kind ix tag t mks S).1 = S.fils.getD r.toNat ⟨-1,[]⟩:=by
   unfold zBz at h1 ⊢
   rw [zNh (f:=S.fils.getD r.toNat ⟨-1,[]⟩) ⟨Int.le_refl _,fun x hx=>hx⟩ h1]
  refine ⟨⟨rfl,rfl,?_,rfl⟩,rfl⟩
  show S.fils.set r.toNat (zBz r kind ix tag t mks S).1 = S.fils
  rw [h2]
  apply List.ext_getElem?
  intro i
  rw [List.getElem?_set]
  split
  ·rename_i e; subst e
   split
   ·rename_i hl; simp [List.getD_eq_getElem?_getD,List.getElem?_eq_getElem hl]
   ·rename_i hl; rw [List.getElem?_eq_none (Nat.not_lt.1 hl)]
  ·rfl
 ·exact ⟨.rfl',rfl⟩
theorem zR7 {S:jk} (hl:r.toNat < S.fils.length):knows n r kind ix tag t mks (j5 n r kind ix tag t mks S).1:=fun hok=>by
 unfold zBz
 rw [zNg,if_pos hok,zQy,if_pos ⟨rfl,hl⟩]
 exact zQx
theorem zIM {S:jk} {r' kind' ix':Int} {tag':ql} {t':TxX} {mks':List MkX} (hr:0 ≤ r') (h:knows n r kind ix tag t mks S):knows n r kind ix tag t mks (j5 n r' kind' ix' tag' t' mks' S).1:=fun hok=>by
 have h1:=h hok
 unfold zBz at h1 ⊢
 rw [zNg]
 split
 ·rw [zQy]
  split
  ·rename_i hh
   have e:r' = r:=by have:=hok.2.2.1; omega
   subst e
   rw [zNh (g:=(zBz r' kind' ix' tag' t' mks' S).1) zUf h1]
  ·exact h1
 ·exact h1
theorem zML {a b:jk} (h:zBb a b) (g:knows n r kind ix tag t mks a):knows n r kind ix tag t mks b:=fun hok=>by
 have:=g hok
 unfold zBz at this ⊢
 rw [← h.fi]; exact this
theorem zMM {f:Nat}:∀ {J:List zD8} {M:yY} {G:GM×DM},(∀ j ∈ J,vE (n:Int) j.tx = true)→∀ d ∈ (zAO n f J M G).2,d.out.length ≤ 16:=by
 induction f with
 | zero=>intro J M G _ d hd; cases hd
 | succ f ih=>
  intro J M G hJ d hd
  unfold zAO at hd
  cases ht:zHy (pick G) J with
  | none=>rw [ht] at hd; cases hd
  | some p=>
   obtain ⟨j,J'⟩:=p
   rw [ht] at hd
   have hsub:j ∈ J∧∀ y ∈ J',y ∈ J:=by
    rcases zTe (pick G) J with h | ⟨A,x,C,h1,h2,h3⟩
    ·rw [zII h] at ht; cases ht
    ·rw [h1,zJm h2 h3] at ht
     cases ht
     rw [h1]
     exact ⟨by simp,fun y hy=>by rcases List.mem_append.1 hy with hy | hy <;> simp [hy]⟩
   rcases List.mem_cons.1 hd with rfl | hd
   ·simp only [zMj]
    split
    ·simp
    split
    ·rename_i h0
     exact ((zL8 (n:=n) (M:=M) (hJ j hsub.1)).2 h0).1
    ·simp
   ·exact ih (fun y hy=>hJ y (hsub.2 y hy)) d hd
theorem zWn {S:jk} (hJ:∀ j ∈ S.jobs,vE (n:Int) j.tx = true):∀ d ∈ (j5 n r kind ix tag t mks S).2,d.out.length ≤ 16:=by
 unfold j5
 split
 ·rename_i hok
  have upd:∀ {J:List zD8},(∀ j ∈ J,vE (n:Int) j.tx = true)→∀ j ∈ zJn tag r J,vE (n:Int) j.tx = true:=by
   intro J
   induction J with
   | nil=>intro _ j hj; cases hj
   | cons x J ih=>
    intro h j hj
    unfold zJn at hj
    split at hj
    ·rcases List.mem_cons.1 hj with rfl | hj
     ·exact h x List.mem_cons_self
     ·exact h j (List.mem_cons_of_mem _ hj)
    ·rcases List.mem_cons.1 hj with rfl | hj
     ·exact h _ List.mem_cons_self
     ·exact ih (fun y hy=>h y (List.mem_cons_of_mem _ hy)) j hj
  unfold zJ9
  split
  ·intro d hd; cases hd
  split
  ·split
   ·exact zMM hJ
   ·exact zMM (upd hJ)
  ·refine zMM (upd fun j hj=>?_)
   rcases List.mem_append.1 hj with hj | hj
   ·exact hJ j hj
   ·rw [List.mem_singleton.1 hj]
    show vE (n:Int) (zGG t) = true
    rw [zFi (zPF t)]
    exact hok.2.2.2.1
 ·intro d hd; cases hd
end
end
section
open Go Go.Sep Go.Sep.Bt
theorem zR8 {Ok:OrG→Prop} {m c:Nat} {x:zDu} {o:OrG} (h:zB5 Ok m c x) (h1:Ok o) (h2:zME o) (h3:o.tag.seq = (m:Int) + 1):zB5 Ok (m + 1) c { x with P:=x.P++[o] }:=by
 refine ⟨h.ll,h.al,fun y hy=>?_,fun y hy=>List.mem_append_left _ (h.g y hy),fun l hl i hi=>List.mem_append_left _ (h.it l hl i hi),h.gc,h.ic,h.kd,fun y hy y' hy' he=>?_,fun y hy=>?_,h.lo⟩
 ·rcases List.mem_append.1 hy with hy | hy
  ·exact h.ok y hy
  ·rw [List.mem_singleton.1 hy]; exact ⟨h1,h2⟩
 ·rcases List.mem_append.1 hy with hy | hy
  ·rcases List.mem_append.1 hy' with hy' | hy'
   ·exact h.uq y hy y' hy' he
   ·rw [List.mem_singleton.1 hy'] at he
    have:=h.sq y hy
    rw [he] at this; omega
  ·rw [List.mem_singleton.1 hy] at he ⊢
   rcases List.mem_append.1 hy' with hy' | hy'
   ·have:=h.sq y' hy'
    rw [← he] at this; omega
   ·rw [List.mem_singleton.1 hy']
    exact ⟨rfl,rfl,rfl,rfl,rfl,rfl⟩
 ·rcases List.mem_append.1 hy with hy | hy
  ·have:=h.sq y hy; push_cast; omega
  ·rw [List.mem_singleton.1 hy,h3]; push_cast; omega
theorem zR9 {Ok:OrG→Prop} {m c j:Nat} {x:zDu} {o:OrG} {lg:zWe} {s':Sl} (h:zB5 Ok m c x) (ho:o ∈ x.P) (hl:x.logs[j]? = some lg):zB5 Ok m (c + 1) { x with logs:=x.logs.set j ⟨s',lg.items++[⟨1,0,o⟩]⟩ }:=by
 have hm:∀ l,l ∈ x.logs.set j ⟨s',lg.items++[⟨1,0,o⟩]⟩→l ∈ x.logs∨l = ⟨s',lg.items++[⟨1,0,o⟩]⟩:=fun l hl=>List.mem_or_eq_of_mem_set hl
 have hlm:lg ∈ x.logs:=List.mem_of_getElem? hl
 refine ⟨by simp [h.ll],h.al,h.ok,h.g,fun l hl i hi=>?_,by have:=h.gc; show x.G.length ≤ c + 1; omega,fun l hl=>?_,fun l hl i hi=>?_,h.uq,h.sq,h.lo⟩
 ·rcases hm l hl with hl | rfl
  ·exact h.it l hl i hi
  ·rcases List.mem_append.1 hi with hi | hi
   ·exact h.it lg hlm i hi
   ·rw [List.mem_singleton.1 hi]; exact ho
 ·rcases hm l hl with hl | rfl
  ·have:=h.ic l hl; omega
  ·have:=h.ic lg hlm; simp; omega
 ·rcases hm l hl with hl | rfl
  ·have:=h.kd l hl i hi; omega
  ·rcases List.mem_append.1 hi with hi | hi
   ·have:=h.kd lg hlm i hi; omega
   ·rw [List.mem_singleton.1 hi]; exact .inl ⟨rfl,rfl⟩
theorem zSA {Ok:OrG→Prop} {m c:Nat} {x:zDu} {o:OrG} {s':Sl} (h:zB5 Ok m c x) (ho:o ∈ x.P):zB5 Ok m (c + 1) { x with gs:=s',G:=x.G++[o] }:=by
 refine ⟨h.ll,h.al,h.ok,fun y hy=>?_,h.it,?_,fun l hl=>by have:=h.ic l hl; omega,fun l hl i hi=>by have:=h.kd l hl i hi; omega,h.uq,h.sq,fun v hv=>?_⟩
 ·rcases List.mem_append.1 hy with hy | hy
  ·exact h.g y hy
  ·rw [List.mem_singleton.1 hy]; exact ho
 ·have:=h.gc; simp; omega
 ·have:=h.lo v hv; simp; omega
end
section
open Go Go.Sep Go.Sep.Bt
section
variable {B:World} {Γ Δ:List zB} {k:K}
theorem zav {sd n T:Nat} {S:jk} (h:(∀ x ∈ S.M,x.2.ok)→HG B (zBG sd n T S::Γ) k):HG B (zBG sd n T S::Γ) k:=zHz fun st l a b c F J ho=>by
 refine zQ st ?_
 refine zUQ fun hok=>?_
 refine zq b ?_
 refine zX (Sep.stars (F.map (zEh T))) ?_
 refine zq a ?_
 refine zX (Sep.stars (J.map zEw)) ?_
 refine zq c ?_
 refine zQ st ?_
 refine zQ l ?_
 refine zQ sd ?_
 exact zB4 ho (h hok)
theorem zbq {n:Nat} {M:yY} (h:∀ x ∈ M,x.2.ok) (k:ByteArray):0 ≤ (vo n M k).cnt∧(vo n M k).cnt < 18446744073709551616:=by
 unfold vo
 cases hg:getM M k with
 | none=>simp
 | some r=>
  have:=h _ (zLZ hg)
  simp only [Option.getD_some]
  obtain ⟨h1,h2,_⟩:=this
  simp only at h1 h2
  omega
theorem zZp {sd n T:Nat} {S:jk} (h:(∀ x ∈ S.fed,0 ≤ x)→HG B (zBG sd n T S::Γ) k):HG B (zBG sd n T S::Γ) k:=zHz fun st l a b c F J ho=>zB4 ho (h fun x hx=>(ho.fedr x hx).1)
theorem zSB {x:zDu} {s:Sl} {G P:List OrG} (h:x.logs.length = 3):(uL x).set 3 s.val = uL { logs:=x.logs,gs:=s,G:=G,la:=x.la,P:=P }:=by
 unfold uL
 rw [List.set_append,if_neg (by rw [List.length_map]; omega),List.length_map,h]; rfl
theorem zYC {n:Nat} (h1:1 ≤ n) (h3:n ≤ 3) {L:List zKC} {ss:Sl} {q:Array Value→Bool→K} (hL:∀ w,Holds B Γ w→RdC w ss 7 (L.flatMap zEB)) (hLr:∀ x ∈ L,(∀ w,Holds B Γ w→zCs w x.t)∧∀ y ∈ x.t.ops,-9223372036854775808 ≤ y.1.n∧y.1.n ≤ 9223372036854775807) (hLg:∀ x ∈ L,¬ zFg x.t) (hl:L.length ≤ 50)
  (h:∀ x,zB5 (OkG n) 50 300 x→HG B (Sep.stars (x.logs.map zCu)::SlC yT 10 x.gs (x.G.flatMap zCt)::Sep.stars (x.P.map zHm)::Γ) (q (uL x).toArray true)):HG B Γ (qD.call (n:Int) ss q):=fun w hw=>by
 refine zMh _ _ _ _ ?_
 have hsn:ss.n = L.length:=zAb zFT (by omega) (hL w hw)
 refine hg hw ?_
 clear hw w
 unfold qD
 refine zR fun t4=>?_
 refine zat (x:=#[.int .i64 (-1),.int .i64 (-1),.int .i64 (-1)]) (fun w=>by kernel_rfl) ?_
 refine zOo (cs:=uL zGu) ?_
 refine zR fun t6=>?_
 refine qX (b:=t6) (l':=uL zGu) ?_
 refine zHP h1 h3 fun sd=>?_
 refine s_f ?_ (by rfl)
 refine fun w hw=>hg (show Holds B (SlC qF 12 ⟨none,0,0⟩ []::SlC qF 12 ⟨none,0,0⟩ []::SlC qF 12 ⟨none,0,0⟩ []::SlC yT 10 ⟨none,0,0⟩ (([]:List OrG).flatMap zCt)::Sep.stars (([]:List OrG).map zHm)::_) w from ((((hw.zCv).zAk _ _).zAk _ _).zAk _ _).zAk _ _) ?_
 clear hw w
 show HG B (zCu ⟨⟨none,0,0⟩,[]⟩::zCu ⟨⟨none,0,0⟩,[]⟩::zCu ⟨⟨none,0,0⟩,[]⟩::_) _
 refine zDp (Δ:=[zCu ⟨⟨none,0,0⟩,[]⟩,zCu ⟨⟨none,0,0⟩,[]⟩,zCu ⟨⟨none,0,0⟩,[]⟩]) ?_
 show HG B (Sep.stars (zGu.logs.map zCu)::SlC yT 10 zGu.gs (zGu.G.flatMap zCt)::Sep.stars (zGu.P.map zHm)::zBG sd n 0 (zGH n)::blk t6 (.cells (uL zGu).toArray zf (0,0))::blk t4 (.cells [Sl.val ⟨none,0,0⟩,Sl.val ⟨none,0,0⟩,Sl.val ⟨none,0,0⟩,Sl.val ⟨none,0,0⟩,.int .i64 0,.int .i64 0,.int .i64 0].toArray zf (0,0))::Γ) _
 refine zC (Δ:=zBG sd n 0 (zGH n)::zIK t6 zGu (blk t4 (.cells [Sl.val ⟨none,0,0⟩,Sl.val ⟨none,0,0⟩,Sl.val ⟨none,0,0⟩,Sl.val ⟨none,0,0⟩,.int .i64 0,.int .i64 0,.int .i64 0].toArray zf (0,0))::Γ)) ?_
 generalize hZ:[Sl.val ⟨none,0,0⟩,Sl.val ⟨none,0,0⟩,Sl.val ⟨none,0,0⟩,Sl.val ⟨none,0,0⟩,.int .i64 0,.int .i64 0,.int .i64 0] = cz
 have hcz:cz.length = 7:=by rw [← hZ]; rfl
 refine vQ (α:=Int) (ι:=Nat×Nat×jk×zDu) (fun y i=>y = (i.1:Int)∧i.1 ≤ L.length∧i.2.1 ≤ i.1∧vF n i.2.2.1.M∧zB5 (OkG n) i.1 i.1 i.2.2.2) (fun y i=>zBG sd n i.2.1 i.2.2.1::zIK t6 i.2.2.2 (blk t4 (.cells cz.toArray zf (0,0))::Γ)) (fun y i=>L.length - i.1) (0,0,zGH n,zGu) ⟨rfl,Nat.zero_le _,Nat.le_refl _,vF.nil,zYA⟩ ?_
 rintro k' _ ⟨i,T,S,x⟩ ⟨rfl,hi,hT,hH,hx⟩ hk'
 simp only at hi hT hH hx hk' ⊢
 have hgc:=hx.gc
 unfold qD.b1
 refine zH (fun hb=>?_) fun hb=>?_
 rotate_left
 ·refine zC (Δ:=zIK t6 x (blk t4 (.cells cz.toArray zf (0,0))::Γ)) ?_
  refine zYB h3 hcz (hx.up (m':=50) (c':=50) (by omega) (by omega)) (by omega) (by omega) fun x' hx'=>h x' hx'
 have hil:i < L.length:=by simp only [decide_eq_true_eq] at hb; omega
 have hge:L[i]? = some L[i]:=List.getElem?_eq_getElem hil
 have hmem:L[i] ∈ L:=List.getElem_mem hil
 generalize L[i] = st at hge hmem
 obtain ⟨ht,htn⟩:=hLr st hmem
 obtain ⟨z1,z2,z3,z4,z5⟩:=zWM (hLg st hmem)
 have next:∀ {Ψ:List zB} {T':Nat} {S':jk} {x':zDu},[d:Drops Ψ (zBG sd n T' S'::zIK t6 x' (blk t4 (.cells cz.toArray zf (0,0))::Γ))]→T' ≤ i + 1→vF n S'.M→zB5 (OkG n) (i + 1) (i + 1) x' →
   HG B Ψ (qD.s2 q k' (n:Int) ⟨t4,0,none⟩ ⟨t6,0,none⟩ (some ⟨sd,0,none⟩) ss (ss.n:Int) (i:Int)):=fun {Ψ T' S' x' d} a1 a2 a3=>by
  unfold qD.s2
  refine qU ?_
  exact zC (d:=d) (hk' ((i:Int) + 1) (i + 1,T',S',x') ⟨by simp,hil,a1,a2,a3⟩ (by simp only; omega))
 refine zAw zEB zFT (fun w hw=>hL w (hw.drops (Δ:=Γ))) hge ?_
 refine zR fun x10=>?_
 refine qX (b:=x10) (l':=zEB st) ?_
 refine yD (b:=x10) (off:=1) (l:=zEB st) (x:=st.rg) ?_
 obtain ⟨a1,a2⟩:=zbp st.rg
 generalize hr0:bitsOf .and .i64 st.rg 1023 = r0 at a1 a2
 refine zBK rfl ?_
 refine zTv (by omega) ?_
 refine zBK rfl ?_
 have hrr:0 ≤ Int.tmod r0 (n:Int)∧Int.tmod r0 (n:Int) < n:=⟨Int.tmod_nonneg _ a1,Int.tmod_lt_of_pos _ (by omega)⟩
 generalize Int.tmod r0 (n:Int) = r at hrr
 refine yD (b:=x10) (l:=zEB st) (x:=st.kind) ?_
 obtain ⟨b1,b2⟩:=zau st.kind
 generalize hk3:bitsOf .and .i64 st.kind 3 = k3 at b1 b2
 refine zBK rfl ?_
 refine zH (fun hc=>?_) fun hc=>?_
 ·refine qW (b:=x10) (off:=2) (l:=zEB st) (l':=txL st.t) ?_
  refine zRo (t:=st.t) (n:=(n:Int)) (fun w hw=>ht w (hw.drops (Δ:=Γ))) ⟨by omega,by omega,by omega⟩ ?_
  cases hrt:vE (n:Int) st.t with
  | false=>
   refine s_t ?_ (by rfl)
   exact next (T':=T) (S':=S) (x':=x) (by omega) hH (hx.up (by omega) (by omega))
  | true=>
  refine s_f ?_ (by rfl)
  obtain ⟨k1,k2,k3',k4⟩:=zEc hrt
  refine qU ?_
  refine zBK (zDg (by omega) (by omega)) ?_
  refine zOo (cs:=qQ ⟨0,1,(i:Int) + 1,0⟩) ?_
  refine qW (b:=x10) (off:=2) (l:=zEB st) (l':=txL st.t) ?_
  refine zQ sd ?_
  refine zav fun hrec=>?_
  refine zQu (tag:=⟨0,1,(i:Int) + 1,0⟩) (t:=st.t) (fun w hw=>ht w (hw.drops (Δ:=Γ))) ⟨by omega,by omega,by omega,fun y hy=>by have:=(k4 y hy).2; omega⟩ (fun y hy=>by have:=k1 y hy; omega) fun t' ms ht'=>?_
  have hord0:=zWm (g:=⟨0,1,(i:Int) + 1,0⟩) hH (by unfold zFO; simp only; omega) h1 hrt
  have hmc:∀ m ∈ zBy n S.M (jW (st.t.reads++st.t.writes)),0 ≤ m.cnt∧m.cnt < 18446744073709551616:=fun m hm=>by
   obtain ⟨y,_,rfl⟩:=List.mem_map.1 hm
   exact zbq hrec _
  have hkl:=zHK (st.t.reads++st.t.writes)
  have hml:(zBy n S.M (jW (st.t.reads++st.t.writes))).length ≤ 1000:=by
   rw [zBy,List.length_map]
   rw [List.length_append] at hkl
   omega
  generalize zBy n S.M (jW (st.t.reads++st.t.writes)) = mks at hord0 hmc hml ⊢
  have hord:=zFq ht' hord0
  have hops:∀ y ∈ t'.ops,∃ z ∈ st.t.ops,z.1 = y.1:=fun y hy=>by
   have h1:y.1 ∈ st.t.ops.map Prod.fst:=by rw [← ht'.2.2.2.2]; exact List.mem_map.2 ⟨y,hy,rfl⟩
   exact List.mem_map.1 h1
  have hlen:t'.ops.length = st.t.ops.length:=by have:=congrArg List.length ht'.2.2.2.2; simpa using this
  have hOk:OkG n ⟨⟨0,1,(i:Int) + 1,0⟩,t',ms,mks⟩:=⟨hord,fun y hy=>by obtain ⟨z,hz,e⟩:=hops y hy; rw [← e]; exact htn z hz,by simp,by simp only; omega,hmc⟩
  have hsm:zME ⟨⟨0,1,(i:Int) + 1,0⟩,t',ms,mks⟩:=⟨⟨by simp only; rw [ht'.2.2.1]; omega,by simp only; rw [ht'.2.2.2.1]; omega,by simp only; omega,fun y hy=>by obtain ⟨z,hz,e⟩:=hops y hy; rw [← e]; have:=(k4 z hz).2; omega⟩,hml⟩
  have hx1:=zR8 hx hOk hsm rfl
  refine zR fun o12=>?_
  refine qX (b:=o12) (l':=orV ⟨0,1,(i:Int) + 1,0⟩ t' ms) ?_
  refine qW (b:=o12) (l:=orV ⟨0,1,(i:Int) + 1,0⟩ t' ms) (l':=orV ⟨0,1,(i:Int) + 1,0⟩ t' ms) ?_
  refine zJl (L:=mks) (fun w hw=>(yh (s:=ms) hw).1) hml ?_
  generalize (decide (t'.kind = 1) && decide ((xS mks).length = 1)) = sg
  have hxg:=hx.gc
  cases sg
  ·refine s_f ?_
   refine yD (b:=t6) (off:=3) (l:=uL x) (x:=x.gs) ?_ (by rw [zAq]; exact zTi hx.ll)
   refine qW (b:=o12) (l:=orV ⟨0,1,(i:Int) + 1,0⟩ t' ms) (l':=orV ⟨0,1,(i:Int) + 1,0⟩ t' ms) ?_
   refine zBp (cs:=orV ⟨0,1,(i:Int) + 1,0⟩ t' ms) ?_
   refine zR fun t97=>?_
   refine yS x.gs fun e1 e2 e3 e4=>?_
   rw [zn _ 10 zMD] at e1
   refine xR (s:=x.gs) (esz:=10) (us:=orV ⟨0,1,(i:Int) + 1,0⟩ t' ms) (zAX rfl) (by simp [yX]) (by simp only; omega) fun gs' _=>?_
   rw [show x.G.flatMap zCt++orV ⟨0,1,(i:Int) + 1,0⟩ t' ms = (x.G++[(⟨⟨0,1,(i:Int) + 1,0⟩,t',ms,mks⟩:OrG)]).flatMap zCt by simp]
   generalize hog:(⟨⟨0,1,(i:Int) + 1,0⟩,t',ms,mks⟩:OrG) = og at hx1
   refine zBY (b:=t6) (off:=3) (l:=uL x) (l':=uL { logs:=x.logs,gs:=gs',G:=x.G++[og],la:=x.la,P:=x.P++[og] }) ?_ (Nat.ble_eq_true_of_le (by rw [zFS hx.ll hx.al]; omega)) (zSB hx.ll) rfl
   refine zC (Δ:=SlC yu 3 ms (mks.flatMap mkL)::txC t' (Sep.stars (x.P.map zHm)::zBG sd n T S::blk t6 (.cells (uL { logs:=x.logs,gs:=gs',G:=x.G++[og],la:=x.la,P:=x.P++[og] }).toArray zf (0,0))::Sep.stars (x.logs.map zCu)::SlC yT 10 gs' ((x.G++[og]).flatMap zCt)::blk t4 (.cells cz.toArray zf (0,0))::Γ)) ?_
   refine zPI (o:=⟨⟨0,1,(i:Int) + 1,0⟩,t',ms,mks⟩) ?_
   rw [hog]
   refine zHO ?_
   have hx2:=zSA (s':=gs') hx1 (o:=og) (by simp)
   exact next (T':=T) (S':=S) (x':={ logs:=x.logs,gs:=gs',G:=x.G++[og],la:=x.la,P:=x.P++[og] }) (by omega) hH hx2
  ·refine s_t ?_
   refine qW (b:=o12) (l:=orV ⟨0,1,(i:Int) + 1,0⟩ t' ms) (l':=orV ⟨0,1,(i:Int) + 1,0⟩ t' ms) ?_
   refine zGq (pre:=qQ ⟨0,1,(i:Int) + 1,0⟩++txL t') (L:=mks) rfl (fun w hw=>(yh (s:=ms) hw).1) hml fun hs=>?_
   obtain ⟨hd,tl,hHe⟩:=List.exists_cons_of_ne_nil (zUa mks)
   have hhb:0 ≤ hd∧hd < 3:=by
    have hm:hd ∈ xS mks:=by rw [hHe]; simp
    by_cases hn:mks = []
    ·rw [hn,zMH,List.mem_singleton] at hm; omega
    ·obtain ⟨m,hm2,rfl⟩:=(zIL hn).1 hm
     have:=hord0.2.2.2 m hm2; omega
   refine zAA (L:=xS mks) (c:=Value.int .i64) (j:=0) (x:=hd) (fun w hw=>(yh (s:=hs) hw).1) (by rw [hHe]; rfl) ?_
   have hjl:hd.toNat < x.logs.length:=by rw [hx.ll]; omega
   have hlg:x.logs[hd.toNat]? = some x.logs[hd.toNat]:=List.getElem?_eq_getElem hjl
   have hlm:x.logs[hd.toNat] ∈ x.logs:=List.getElem_mem hjl
   generalize x.logs[hd.toNat] = lg at hlg hlm
   refine vk ?_
   refine zBw [blk t6 (.cells (uL x).toArray zf (0,0)),blk o12 (.cells (orV ⟨0,1,(i:Int) + 1,0⟩ t' ms).toArray yT (0,0))] ?_
   refine zA8 (by omega) (by omega) ?_
   refine u6 (b:=t6) (off:=0 + hd.toNat) (l:=uL x) (x:=lg.s) ?_ (by rw [zAq,Nat.zero_add]; exact zEe hlg)
   refine zAW (b:=o12) (l:=orV ⟨0,1,(i:Int) + 1,0⟩ t' ms) (l':=orV ⟨0,1,(i:Int) + 1,0⟩ t' ms) ?_
   refine zh ?_
   refine zBp (cs:=itN 1 0 ⟨0,1,(i:Int) + 1,0⟩ t' ms) ?_
   refine zR fun t90=>?_
   refine zBC ?_
   have hsp:=List.take_append_drop hd.toNat x.logs
   rw [List.drop_eq_getElem_cons hjl,(List.getElem?_eq_some_iff.1 hlg).2] at hsp
   have hsl:(x.logs.take hd.toNat).length = hd.toNat:=by rw [List.length_take]; omega
   generalize x.logs.take hd.toNat = A at hsp hsl
   generalize x.logs.drop (hd.toNat + 1) = C at hsp
   have hlc:=hx.ic lg hlm
   have e1:Sep.stars (x.logs.map zCu) = Sep.stars ((A++lg::C).map zCu):=by rw [hsp]
   refine zX (Sep.stars (x.logs.map zCu)) ?_
   rw [e1]
   refine zEk ?_
   show HG B (SlC qF 12 lg.s (lg.items.flatMap zDF)::_) _
   refine yS lg.s fun b1 b2 b3 b4=>?_
   rw [zn _ 12 zEd] at b1
   refine xR (s:=lg.s) (esz:=12) (us:=itN 1 0 ⟨0,1,(i:Int) + 1,0⟩ t' ms) (zAX rfl) (by simp [yX]) (by simp only; omega) fun s' _=>?_
   refine zA8 (by omega) (by omega) ?_
   generalize hog:(⟨⟨0,1,(i:Int) + 1,0⟩,t',ms,mks⟩:OrG) = og at hx1
   rw [show lg.items.flatMap zDF++itN 1 0 ⟨0,1,(i:Int) + 1,0⟩ t' ms = (lg.items++[(⟨1,0,og⟩:ItG)]).flatMap zDF by rw [← hog]; simp]
   refine zBY (b:=t6) (off:=0 + hd.toNat) (l:=uL x) (l':=uL { logs:=x.logs.set hd.toNat ⟨s',lg.items++[⟨1,0,og⟩]⟩,gs:=x.gs,G:=x.G,la:=x.la,P:=x.P++[og] }) ?_ (Nat.ble_eq_true_of_le (by rw [zFS hx.ll hx.al]; omega)) (zKB (x:=x) (l:=⟨s',lg.items++[⟨1,0,og⟩]⟩) hjl) rfl
   have hset:x.logs.set hd.toNat ⟨s',lg.items++[⟨1,0,og⟩]⟩ = A++⟨s',lg.items++[⟨1,0,og⟩]⟩::C:=by
    rw [← hsp,← hsl]; simp
   refine zC (Δ:=SlC qF 12 s' ((lg.items++[(⟨1,0,og⟩:ItG)]).flatMap zDF)::Sep.stars ((A++C).map zCu)::SlC yu 3 ms (mks.flatMap mkL)::txC t' (Sep.stars (x.P.map zHm)::zBG sd n T S::blk t6 (.cells (uL { logs:=x.logs.set hd.toNat ⟨s',lg.items++[⟨1,0,og⟩]⟩,gs:=x.gs,G:=x.G,la:=x.la,P:=x.P++[og] }).toArray zf (0,0))::SlC yT 10 x.gs (x.G.flatMap zCt)::blk t4 (.cells cz.toArray zf (0,0))::Γ)) ?_
   show HG B (zCu ⟨s',lg.items++[⟨1,0,og⟩]⟩::_) _
   refine zAG ?_
   rw [← hset]
   refine zC (Δ:=SlC yu 3 ms (mks.flatMap mkL)::txC t' (Sep.stars (x.P.map zHm)::Sep.stars ((x.logs.set hd.toNat ⟨s',lg.items++[⟨1,0,og⟩]⟩).map zCu)::zBG sd n T S::blk t6 (.cells (uL { logs:=x.logs.set hd.toNat ⟨s',lg.items++[⟨1,0,og⟩]⟩,gs:=x.gs,G:=x.G,la:=x.la,P:=x.P++[og] }).toArray zf (0,0))::SlC yT 10 x.gs (x.G.flatMap zCt)::blk t4 (.cells cz.toArray zf (0,0))::Γ)) ?_
   refine zPI (o:=⟨⟨0,1,(i:Int) + 1,0⟩,t',ms,mks⟩) ?_
   rw [hog]
   refine zHO ?_
   have hx2:=zR9 (s':=s') hx1 (o:=og) (by simp) hlg
   exact next (T':=T) (S':=S) (x':={ logs:=x.logs.set hd.toNat ⟨s',lg.items++[⟨1,0,og⟩]⟩,gs:=x.gs,G:=x.G,la:=x.la,P:=x.P++[og] }) (by omega) hH hx2
 refine zH (fun hd=>?_) fun hd=>?_
 ·refine zC (Δ:=zIK t6 x (zBG sd n T S::blk t4 (.cells cz.toArray zf (0,0))::Γ)) ?_
  refine zQr (m:=i) (c:=i) (by omega) hx (by omega) OkG.copy ?_ fun x' v hx' hG' _ _ _=>?_
  ·exact next (T':=T) (S':=S) (x':=x) (by omega) hH (hx.up (by omega) (by omega))
  ·exact next (T':=T) (S':=S) (x':=x') (by omega) hH (hx'.up (by omega) (by omega))
 ·have hrl:r.toNat < x.logs.length:=by rw [hx.ll]; omega
  have hlg:x.logs[r.toNat]? = some x.logs[r.toNat]:=List.getElem?_eq_getElem hrl
  have hlm:x.logs[r.toNat] ∈ x.logs:=List.getElem_mem hrl
  generalize x.logs[r.toNat] = lg at hlg hlm
  refine vk ?_
  refine zBw [blk t6 (.cells (uL x).toArray zf (0,0))] ?_
  refine zA8 (by omega) (by omega) ?_
  refine u6 (b:=t6) (off:=0 + r.toNat) (l:=uL x) (x:=lg.s) ?_ (by rw [zAq,Nat.zero_add]; exact zEe hlg)
  refine zQ sd ?_
  refine zTl ?_
  refine zBC ?_
  refine zH (fun he=>?_) fun he=>?_
  rotate_left
  ·exact next (T':=T) (S':=S) (x':=x) (by omega) hH (hx.up (by omega) (by omega))
  refine vk ?_
  refine zBw [blk t6 (.cells (uL x).toArray zf (0,0))] ?_
  refine zA8 (by omega) (by omega) ?_
  refine u6 (b:=t6) (off:=0 + r.toNat) (l:=uL x) (x:=lg.s) ?_ (by rw [zAq,Nat.zero_add]; exact zEe hlg)
  refine zTl ?_
  refine zBC ?_
  have rdL:∀ {Ψ:List zB},[d:Drops Ψ [Sep.stars (x.logs.map zCu)]]→∀ w,Holds B Ψ w→RdC w lg.s 12 (lg.items.flatMap zDF):=fun {Ψ d} w hw=>by
   obtain ⟨Δ,hd2⟩:=zCn (Γ:=[]) (F:=zCu) hlm (hw.drops (d:=d))
   have h2:Holds B (SlC qF 12 lg.s (lg.items.flatMap zDF)::Δ) w:=hd2
   exact (yh (s:=lg.s) h2).1
  refine fun w hw=>?_
  have hln:lg.s.n = lg.items.length:=zAb zEd (by have:=hx.ic lg hlm; omega) (rdL w hw)
  refine hg hw ?_
  clear hw w
  refine zZp fun hf0=>?_
  have hf1:0 ≤ zF0 n S r:=by
   unfold zF0
   split
   ·rename_i hrn
    rw [List.getD_eq_getElem?_getD]
    cases hfe:S.fed[r.toNat]? with
    | none=>simp
    | some v=>exact hf0 v (List.mem_of_getElem? hfe)
   ·omega
  have he':zF0 n S r < (lg.s.n:Int):=by simpa using he
  have hjl:(zF0 n S r).toNat < lg.items.length:=by omega
  have hgi:lg.items[(zF0 n S r).toNat]? = some lg.items[(zF0 n S r).toNat]:=List.getElem?_eq_getElem hjl
  have hgm:lg.items[(zF0 n S r).toNat] ∈ lg.items:=List.getElem_mem hjl
  generalize lg.items[(zF0 n S r).toNat] = it at hgi hgm
  have hop:=hx.it lg hlm it hgm
  obtain ⟨hok,hsm⟩:=hx.ok it.o hop
  refine zAw zDF zEd (fun w hw=>rdL w hw) hgi ?_ (by omega)
  refine zFo (r:=r) (kind:=it.kind) (ix:=it.ix) (tag:=it.o.tag) (t:=it.o.t) (ms:=it.o.ms) (mks:=it.o.mks) (by omega) (fun w hw=>(zDG (Γ:=[]) hop hw.drops).1) (fun w hw=>(zDG (Γ:=[]) hop hw.drops).2) hok.nn hok.g0 hok.g1 hok.mc ⟨hsm.1.1,hsm.1.2.1,hsm.1.2.2.1⟩ hsm.2 fun s1 D1 _ _=>?_
  exact next (T':=T + 1) (x':=x) (by omega) (hH.feed h1 (r:=r) (kind:=it.kind) (ix:=it.ix) (tag:=it.o.tag) (t:=it.o.t) (mks:=it.o.mks)) (hx.up (by omega) (by omega))
end
end
section
open Go Go.Sep Go.Sep.Bt
section
variable {B:World} {Γ Δ:List zB} {Q:Bool→Sep.K}
def zYD (w:World) (s:Sl) (X:List DcX):Prop:=RdC w s 6 (X.flatMap dcF)∧∀ x ∈ X,RdC w x.os 2 (x.O.flatMap oF)∧∀ y ∈ x.O,RdB w y.2 y.1.2
theorem zQz {w:World} {s:Sl} {X:List DcX} (h:Holds B (SlC qE 6 s (X.flatMap dcF)::Sep.stars (X.map dcO)::Γ) w):zYD w s X:=by
 refine ⟨(yh (s:=s) h).1,fun x hx=>?_⟩
 obtain ⟨Δ,hd⟩:=zCn (F:=dcO) hx h.tail
 have h1:Holds B (SlC qH 2 x.os (x.O.flatMap oF)::Sep.stars (x.O.map oB)::Δ) w:=(Holds.flat (Δ:=[SlC qH 2 x.os (x.O.flatMap oF),Sep.stars (x.O.map oB)])).1 hd
 refine ⟨(yh (s:=x.os) h1).1,fun y hy=>?_⟩
 obtain ⟨Δ',h2⟩:=zCn (F:=oB) hy h1.tail
 exact zJa h2
theorem zUg {a b:Sl} {X Y:List DcX} (hX:X.length < 100000000) (hXY:X.map zHl = Y.map zHl) (hs:∀ x ∈ X,x.O.length < 100000000) (ha:∀ w,Holds B Γ w→zYD w a X) (hb:∀ w,Holds B Γ w→zYD w b Y) (h:HG B Γ (Q true)):HG B Γ (uY.call a b Q):=fun w hw=>by
 refine zMi _ _ _ _ ?_
 have han:=zAb zEM (by omega) (ha w hw).1
 have hbn:=zAb zEM (by omega) (hb w hw).1
 have hlen:X.length = Y.length:=by have:=congrArg List.length hXY; simpa using this
 refine Sep.hg hw ?_
 clear hw w
 unfold uY
 refine s_f ?_ (by simp; omega)
 refine j4 (α:=Int) (fun x=>∃ i:Nat,x = (i:Int)∧i ≤ X.length) (fun x=>X.length - x.toNat) ⟨0,rfl,Nat.zero_le _⟩ fun k' x hx hk'=>?_
 obtain ⟨i,rfl,hi⟩:=hx
 unfold uY.b1
 refine zH (fun hc=>?_) fun hc=>h
 have hil:i < X.length:=by simp only [decide_eq_true_eq] at hc; omega
 have g1:X[i]? = some X[i]:=List.getElem?_eq_getElem hil
 have g2:Y[i]? = some Y[i]:=List.getElem?_eq_getElem (by omega)
 have m1:X[i] ∈ X:=List.getElem_mem hil
 have m2:Y[i] ∈ Y:=List.getElem_mem (by omega)
 have he:zHl X[i] = zHl Y[i]:=by
  have:=congrArg (·[i]?) hXY
  simp only [List.getElem?_map,g1,g2,Option.map_some,Option.some.injEq] at this
  exact this
 generalize X[i] = x at g1 m1 he
 generalize Y[i] = y at g2 m2 he
 obtain ⟨xt,xc,xs,xo⟩:=x
 obtain ⟨yt,yc,ys,yo⟩:=y
 simp only [zHl,DcM.mk.injEq] at he
 obtain ⟨rfl,rfl,he⟩:=he
 have part:∀ {t:Addr} {z:DcX} {n off:Nat} {us:List Value} {s:Sl} {Z:List DcX} {k:Array Value→Sep.K},off + n ≤ 6→((dcF z).drop off).take n = us→us.length = n→(∀ w,RdC w s 6 (Z.flatMap dcF)→RdN w t (dcF z).toArray)→(∀ w,Holds B Γ w→zYD w s Z)→HG B Γ (k us.toArray)→HG B Γ (LdN (t.add off) n k):=fun {t z n off us s Z k} ho hu hn ht hz hk w hw=>⟨_,by simpa using hn,fun i hi=>by
  have hi':i < n:=by simpa [hn] using hi
  have:=ht w (hz w hw).1 (off + i) (by simp; omega)
  have e:(t.add off).add i = t.add (off + i):=by
   unfold Addr.add
   by_cases h1:off = 0 <;> by_cases h2:i = 0 <;> simp [h1,h2,Nat.add_assoc]
  rw [e,this,← hu]
  simp [List.getElem?_take,hi'],hk w hw⟩
 refine vk ?_
 refine zDj dcF zEM (by omega) (fun w hw=>(ha w hw).1) g1 fun t1 ht1=>?_
 refine zDj dcF zEM (by omega) (fun w hw=>(hb w hw).1) g2 fun t2 ht2=>?_
 rw [show LdN t1 = LdN (t1.add 0) by rw [add0],show LdN t2 = LdN (t2.add 0) by rw [add0]]
 refine part (z:=⟨xt,xc,xs,xo⟩) (us:=qQ xt) (by omega) rfl rfl ht1 ha ?_
 refine part (z:=⟨xt,xc,ys,yo⟩) (us:=qQ xt) (by omega) rfl rfl ht2 hb ?_
 refine zYp (xs:=qQ xt) (ys:=qQ xt) (ks:=zVh) (p:=xt = xt) zGf ?_
 refine s_f ?_ (by simp)
 refine zDj dcF zEM (by omega) (fun w hw=>(ha w hw).1) g1 fun t3 ht3=>?_
 refine zDj dcF zEM (by omega) (fun w hw=>(hb w hw).1) g2 fun t4 ht4=>?_
 refine part (z:=⟨xt,xc,xs,xo⟩) (off:=4) (us:=[.int .i64 xc,xs.val]) (by omega) rfl rfl ht3 ha ?_
 refine part (z:=⟨xt,xc,ys,yo⟩) (off:=4) (us:=[.int .i64 xc,ys.val]) (by omega) rfl rfl ht4 hb ?_
 refine zWT (X:=xo) (Y:=yo) (hs _ m1) he (fun w hw=>((ha w hw).2 _ m1).1) (fun w hw=>((hb w hw).2 _ m2).1) (fun z hz w hw=>((ha w hw).2 _ m1).2 z hz) (fun z hz w hw=>((hb w hw).2 _ m2).2 z hz) ?_
 unfold uY.s2
 refine s_f ?_ (by rfl)
 refine qU ?_
 exact hk' _ ⟨i + 1,by simp,hil⟩ (by omega)
end
end
section
open Go Go.Sep
set_option maxHeartbeats 4000000
attribute [local irreducible] G Gp Cx Tx Ex Sx Dx Ox Ax Lx Rx Fx Bx Bj Al Do Ld LdN St StN New zK Ar DoU Rd Rd2 Pu Cd Ite Fv vW jU jI yH zAZ zDH zDQ zDl Ext Dead Dr yZ Sv LdS vG RdS zDw Nn Idx zAz zDk Fld Bld Slc zDx Cat All yN jN jE jV
instance:AT Tryz.prog 307 7:=⟨by kernel_rfl⟩
instance:CB Tryz.prog 181:=⟨by kernel_rfl⟩
instance:CB Tryz.prog 182:=⟨by kernel_rfl⟩
instance:CB Tryz.prog 183:=⟨by kernel_rfl⟩
instance:CB Tryz.prog 210:=⟨by kernel_rfl⟩
instance:CB Tryz.prog 212:=⟨by kernel_rfl⟩
instance:CB Tryz.prog 233:=⟨by kernel_rfl⟩
instance:CB Tryz.prog 234:=⟨by kernel_rfl⟩
instance:CT Tryz.prog 182:=⟨by kernel_rfl⟩
instance:FT Tryz.prog 184 0 0 1:=⟨by kernel_rfl⟩
instance:FT Tryz.prog 184 1 1 1:=⟨by kernel_rfl⟩
instance:FT Tryz.prog 307 0 0 4:=⟨by kernel_rfl⟩
instance:FT Tryz.prog 307 1 4 3:=⟨by kernel_rfl⟩
instance:PLT Tryz.prog 307 [(0,4),(4,3)]:=⟨_,Tryz.underlying307,by kernel_rfl⟩
instance:SLT Tryz.prog 182 307 7:=⟨by kernel_rfl⟩
instance:SZ Tryz.prog 182 1:=⟨by kernel_rfl⟩
instance:SZ Tryz.prog 307 7:=⟨by kernel_rfl⟩
instance:SZ Tryz.prog 54 1:=⟨by kernel_rfl⟩
instance:ZT Tryz.prog 307 (.agg #[(.int .i64 0),(.int .u64 0),(.int .u64 0),(.int .i64 0),(.string ⟨#[]⟩),(.int .i64 0),(.int .u64 0)]):=⟨Tryz.t307,by kernel_rfl,by kernel_rfl⟩
def zAt.b1 (Q:Bool→K) (k:Int→K) (d l:Sl) (a:Int): K :=
 Ite (decide (a < (d.n:Int)))
  (Dr<|
  Idx d a 4 fun f=>
  LdN f 4 fun b=>
  Idx l a 4 fun g=>
  LdN g 4 fun c=>
  Pu Tryz.prog (do eqGuard .neq 37 (.tmp 20) (.tmp 24) (.agg b) (.agg c); binOp .neq 37 (.agg b) (.agg c):Sem Value) Value.bool fun i=>
  Ite i
   (Q false)
   (Ar (IntKind.wrap .i64 (a + 1)) fun j=>
   k j))
  (Q true)
def zAt (a b:Sl) (Q:Bool→K): K :=
 Ite (decide ((a.n:Int) ≠ (b.n:Int)))
  (Q false)
  (yN (α:=Int) (fun X x=>zAt.b1 Q X a b x) 0)
theorem zMl (a b Q w) (h:zAt a b Q w):zAt.call a b Q w:=by
 have:∀ c d,LH 4 (fun x:Int=>[(0,Sl.val c),(1,Sl.val d),(5,.int .i64 x)]) (fun X x=>zAt.b1 Q X c d x):=fun _ _=>⟨⟩
 exact zO 26 h Tryz.func41
instance:ART Tryz.prog 119 3 2 1:=⟨by kernel_rfl⟩
instance:CB Tryz.prog 17:=⟨by kernel_rfl⟩
instance:CB Tryz.prog 25:=⟨by kernel_rfl⟩
instance:CB Tryz.prog 26:=⟨by kernel_rfl⟩
instance:CB Tryz.prog 33:=⟨by kernel_rfl⟩
instance:CB Tryz.prog 40:=⟨by kernel_rfl⟩
instance:CB Tryz.prog 41:=⟨by kernel_rfl⟩
instance:CB Tryz.prog 42:=⟨by kernel_rfl⟩
instance:CB Tryz.prog 8:=⟨by kernel_rfl⟩
instance:SZ Tryz.prog 119 2:=⟨by kernel_rfl⟩
instance:ZT Tryz.prog 119 (.agg #[(.int .i64 0),(.int .i64 0)]):=⟨Tryz.t119,by kernel_rfl,by kernel_rfl⟩
def zD.s4 (Q:Bool→K) (b:Int→K) (d:Sl) (f:Addr) (g i:Pt) (j:Addr) (c:Int): K :=
 Ar (IntKind.wrap .i64 (c + 1)) fun a=>
 b a
def zD.s8 (Q:Bool→K) (a:Int→K) (b:Sl) (c:Addr) (d f:Pt) (g:Addr) (i:Int) (j:Bool): K :=
 Ite j
  (Q false)
  (zD.s4 Q a b c d f g i)
def zD.s7 (Q:Bool→K) (c:Int→K) (d:Sl) (f:Addr) (a b:Pt) (g:Addr) (i j:Int) (s:Bool): K :=
 Ite s
  (Q false)
  (qO.call a fun k=>
  qO.call b fun l=>
  zAt.call k l fun m=>
  Ite (!m)
   (zD.s8 Q c d f a b g i true)
   (jP.call a fun n=>
   jP.call b fun o=>
   uX.call n o fun p=>
   Ite (!p)
    (zD.s8 Q c d f a b g i true)
    (jQ.call a j fun q=>
    jQ.call b j fun r=>
    zD.s8 Q c d f a b g i (decide (q ≠ r)))))
def zD.s6 (Q:Bool→K) (f:Int→K) (g:Sl) (b:Addr) (i c:Pt) (d:Addr) (j a:Int) (s:Bool): K :=
 Ite s
  (Q false)
  (zAz d 2 a 1 fun k=>
  Ld k (Value.int .i64) fun l=>
  Ite (decide ((1:Int) < l))
   (zAz b 3 a 1 fun m=>
   Ld m Sl.val fun o=>
   Idx o 0 12 fun p=>
   LdN p 12 fun q=>
   zL.call c a q fun r=>
   zD.s7 Q f g b i c d j a (decide ((r.n:Int) ≠ 0)))
   (zD.s7 Q f g b i c d j a false))
def zD.s5 (Q:Bool→K) (i:Int→K) (j:Sl) (c:Addr) (g d:Pt) (b:Addr) (k a:Int): K :=
 Dr<|
 zAz b 2 a 1 fun l=>
 Ld l (Value.int .i64) fun m=>
 zAz c 3 a 1 fun o=>
 Ld o Sl.val fun p=>
 Ite (decide (m = (p.n:Int)))
  (zD.s4 Q i j c g d b k)
  (Dr <| yZ fun S=>
  zAz c 3 a 1 fun q=>
  zAz b 2 a 1 fun r=>
  LdS S q Sl.val fun s=>
  LdS S r (Value.int .i64) fun t=>
  Idx s t 12 fun u=>
  vG S u 12 fun v=>
  New 48 #[.int .i64 0,.int .i64 0,.int .i64 0,.int .u64 0,.int .u64 0,.int .i64 0,.int .i64 0,Sl.val ⟨none,0,0⟩,Sl.val ⟨none,0,0⟩,Sl.val ⟨none,0,0⟩,.int .i64 0,Sl.val ⟨none,0,0⟩] fun f=>
  Sv S<|
  StN f 12 v<|
  zAz b 2 a 1 fun x=>
  Ld x (Value.int .i64) fun y=>
  Ar (IntKind.wrap .i64 (y + 1)) fun z=>
  zAz b 2 a 1 fun aa=>
  St aa (.int .i64 z)<|
  Dr <| yZ fun S=>
  vG S f 12 fun ab=>
  vG S f 12 fun ac=>
  zL.call g a ab fun ad=>
  Sv S<|
  zL.call d a ac fun ae=>
  uY.call ad ae fun af=>
  Ite (!af)
   (zD.s6 Q i j c g d b k a true)
   (LdN f 12 fun ag=>
   zL.call d a ag fun ah=>
   zD.s6 Q i j c g d b k a (decide ((ah.n:Int) ≠ 0))))
def zD.b3 (Q:Bool→K) (c:Int→K) (b:Sl) (d:Addr) (f g:Pt) (i:Addr) (a:Int): K :=
 Ite (decide (a < 120))
  (Ar (bitsOf .and .i64 a 1) fun j=>
  Ite (decide (a < (b.n:Int)))
   (Idx b a 1 fun k=>
   Ld k (Value.int .i64) fun l=>
   Ar (bitsOf .and .i64 l 1) fun m=>
   zD.s5 Q c b d f g i a m)
   (zD.s5 Q c b d f g i a j))
  (Q true)
def zD.s2 (Q:Bool→K) (c:Sl) (d:Addr) (f g:Pt) (i:Bool): K :=
 Ite i
  (Q false)
  (Pu Tryz.prog (Instr.build 119 [].toArray) Value.agg fun b=>
  New 119 #[.int .i64 0,.int .i64 0] fun a=>
  StN a 2 b<|
  yN (α:=Int) (fun X x=>zD.b3 Q X c d f g a x) 0)
def zD.s1 (Q:Bool→K) (i d:Sl) (j:Bool): K :=
 Ite j
  (Q true)
  (qD.call 2 i fun f g=>
  New 76 #[Sl.val ⟨none,0,0⟩,Sl.val ⟨none,0,0⟩,Sl.val ⟨none,0,0⟩,Sl.val ⟨none,0,0⟩,.int .i64 0,.int .i64 0,.int .i64 0] fun a=>
  StN a 7 f<|
  vv.call 2 fun b k=>
  vv.call 2 fun c l=>
  Ite (!g)
   (zD.s2 Q d a b c true)
   (Ite ((b).isNone)
    (zD.s2 Q d a b c true)
    (zD.s2 Q d a b c ((c).isNone))))
def zD (a b:Sl) (Q:Bool→K): K :=
 qx.call  fun c=>
 Ite (!c)
  (Q false)
  (vM.call a fun d=>
  Ite d
   (zD.s1 Q a b true)
   (zD.s1 Q a b (decide ((60:Int) < (b.n:Int)))))
theorem zHn (aw ax Q w) (h:zD aw ax Q w):zD.call aw ax Q w:=by
 have:∀ b,XH 12 b→JH 13 fun D=>∃ c d f g i j,D [(1,Sl.val c),(5,(.pointer (some d))),(7,.pointer f),(9,.pointer g),(11,(.pointer (some i))),(12,.int .i64 j)] (fun C=>C [(1,Sl.val c),(5,(.pointer (some d))),(7,.pointer f),(9,.pointer g),(11,(.pointer (some i))),(12,.int .i64 j)] (zD.s4 Q b c d f g i j)):=by intros; exact ⟨fun _ ⟨_,_,_,_,_,_,h⟩=>⟨_,_,h⟩⟩
 have:∀ b,XH 12 b→JH 26 fun D=>∃ k l m n o p,D [(1,Sl.val k),(5,(.pointer (some l))),(7,.pointer m),(9,.pointer n),(11,(.pointer (some o))),(12,.int .i64 p)] (fun C=>∀ ay,C [(1,Sl.val k),(5,(.pointer (some l))),(7,.pointer m),(9,.pointer n),(11,(.pointer (some o))),(12,.int .i64 p),(147,.bool ay)] (zD.s8 Q b k l m n o p ay)):=by intros; exact ⟨fun _ ⟨_,_,_,_,_,_,h⟩=>⟨_,_,h⟩⟩
 have:∀ b,XH 12 b→JH 24 fun D=>∃ q r t u v y z,D [(1,Sl.val q),(5,(.pointer (some r))),(7,.pointer t),(9,.pointer u),(11,(.pointer (some v))),(12,.int .i64 y),(13,.int .i64 z)] (fun C=>∀ az,C [(1,Sl.val q),(5,(.pointer (some r))),(7,.pointer t),(9,.pointer u),(11,(.pointer (some v))),(12,.int .i64 y),(13,.int .i64 z),(124,.bool az)] (zD.s7 Q b q r t u v y z az)):=by intros; exact ⟨fun _ ⟨_,_,_,_,_,_,_,h⟩=>⟨_,_,h⟩⟩
 have:∀ b,XH 12 b→JH 22 fun D=>∃ aa ab ac ad ae af ag,D [(1,Sl.val aa),(5,(.pointer (some ab))),(7,.pointer ac),(9,.pointer ad),(11,(.pointer (some ae))),(12,.int .i64 af),(13,.int .i64 ag)] (fun C=>∀ a0,C [(1,Sl.val aa),(5,(.pointer (some ab))),(7,.pointer ac),(9,.pointer ad),(11,(.pointer (some ae))),(12,.int .i64 af),(13,.int .i64 ag),(107,.bool a0)] (zD.s6 Q b aa ab ac ad ae af ag a0)):=by intros; exact ⟨fun _ ⟨_,_,_,_,_,_,_,h⟩=>⟨_,_,h⟩⟩
 have:DH 20 2 [7] (.s [0,1,4,5,2,6] (.a [(3,1,.a [(7,0,.s [8,9] .e)])])):=⟨⟩
 have:DH 18 2 [10] (.s [0,1,2,4,5,3,6,7,8] (.a [(9,1,.a [(10,0,.e)])])):=⟨⟩
 have:∀ b,XH 12 b→JH 17 fun D=>∃ ah aj ak al am an,D [(1,Sl.val ah),(5,(.pointer (some aj))),(7,.pointer ak),(9,.pointer al),(11,(.pointer (some am))),(12,.int .i64 an)] (fun C=>∀ a1,C [(1,Sl.val ah),(5,(.pointer (some aj))),(7,.pointer ak),(9,.pointer al),(11,(.pointer (some am))),(12,.int .i64 an),(13,.int .i64 a1)] (zD.s5 Q b ah aj ak al am an a1)):=by intros; exact ⟨fun _ ⟨_,_,_,_,_,_,h⟩=>⟨_,_,h⟩⟩
 have:∀ a2 a3 a4 a5 a6,LH 12 (fun x:Int=>[(1,Sl.val a2),(5,(.pointer (some a3))),(7,.pointer a4),(9,.pointer a5),(11,(.pointer (some a6))),(12,.int .i64 x)]) (fun X x=>zD.b3 Q X a2 a3 a4 a5 a6 x):=fun _ _ _ _ _=>⟨⟩
 have:JH 9 fun D=>∃ ao ap aq ar,D [(1,Sl.val ao),(5,(.pointer (some ap))),(7,.pointer aq),(9,.pointer ar)] (fun C=>∀ a7,C [(1,Sl.val ao),(5,(.pointer (some ap))),(7,.pointer aq),(9,.pointer ar),(48,.bool a7)] (zD.s2 Q ao ap aq ar a7)):=⟨fun _ ⟨_,_,_,_,h⟩=>⟨_,_,h⟩⟩
 have:JH 4 fun D=>∃ au av,D [(0,Sl.val au),(1,Sl.val av)] (fun C=>∀ a8,C [(0,Sl.val au),(1,Sl.val av),(25,.bool a8)] (zD.s1 Q au av a8)):=⟨fun _ ⟨_,_,h⟩=>⟨_,_,h⟩⟩
 exact zO 148 h Tryz.func7
end
section
open Go Go.Sep Go.Sep.Bt
section
variable {B:World} {Γ Δ:List zB}
theorem zUh {s1 s2:Sl} {L1 L2:List ql} {Q:Bool→K} (hl:L1.length < 1000000000) (h1:∀ w,Holds B Γ w→RdC w s1 4 (L1.flatMap qQ)) (h2:∀ w,Holds B Γ w→RdC w s2 4 (L2.flatMap qQ)) (h:HG B Γ (Q (decide (L1 = L2)))):HG B Γ (zAt.call s1 s2 Q):=fun w hw=>by
 refine zMl _ _ _ _ ?_
 have l1:s1.n = L1.length:=zAb zFD (by omega) (h1 w hw)
 have l2:s2.n = L2.length:=zAb zFD (by omega) (h2 w hw)
 refine hg hw ?_
 clear hw w
 unfold zAt
 refine zH (fun hb=>?_) fun hb=>?_
 ·have hne:L1.length ≠ L2.length:=by simp only [decide_eq_true_eq] at hb; omega
  rw [show decide (L1 = L2) = false by simpa using fun e=>hne (by rw [e])] at h
  exact h
 have hll:L1.length = L2.length:=by simp only [decide_eq_false_iff_not] at hb; omega
 refine j4 (α:=Int) (fun x=>∃ i:Nat,x = (i:Int)∧i ≤ L1.length∧L1.take i = L2.take i) (fun x=>L1.length - x.toNat) ⟨0,rfl,Nat.zero_le _,by simp⟩ fun k' x hx hk'=>?_
 obtain ⟨i,rfl,hi,he⟩:=hx
 unfold zAt.b1
 refine zH (fun hb=>?_) fun hb=>?_
 ·have hil:i < L1.length:=by simp only [decide_eq_true_eq] at hb; omega
  have hil2:i < L2.length:=by omega
  have t1:=List.take_succ_eq_append_getElem hil
  have t2:=List.take_succ_eq_append_getElem hil2
  have g1:L1[i]? = some L1[i]:=List.getElem?_eq_getElem hil
  have g2:L2[i]? = some L2[i]:=List.getElem?_eq_getElem hil2
  generalize L1[i] = x at t1 g1
  generalize L2[i] = y at t2 g2
  repeat refine zh ?_
  refine zAw qQ zFD h1 g1 ?_
  refine zAw qQ zFD h2 g2 ?_
  refine zYp (xs:=qQ x) (ys:=qQ y) (ks:=zVh) (p:=x = y) zGf ?_
  refine zH (fun hp=>?_) fun hp=>?_
  ·have hp':x ≠ y:=by simpa using hp
   rw [show decide (L1 = L2) = false by simp only [decide_eq_false_iff_not]; rintro rfl; rw [g1] at g2; exact hp' (Option.some.inj g2)] at h
   exact h
  ·have hp':x = y:=by simpa using hp
   refine qU ?_
   exact hk' _ ⟨i + 1,by simp,hil,by rw [t1,t2,he,hp']⟩ (by omega)
 ·have hil:i = L1.length:=by simp only [decide_eq_false_iff_not] at hb; omega
  rw [hil,List.take_length,hll,List.take_length] at he
  rw [show decide (L1 = L2) = true by simpa using he] at h
  exact h
end
end
section
open Go Go.Sep Go.Sep.Bt
theorem zYz (n:Int):0 ≤ bitsOf .and .i64 n 1∧bitsOf .and .i64 n 1 ≤ 1:=by
 unfold bitsOf
 simp only
 have h1:((BitVec.ofInt IntKind.i64.bits n &&& BitVec.ofInt IntKind.i64.bits 1).toNat) ≤ 1:=by
  rw [BitVec.toNat_and]
  exact Nat.le_trans Nat.and_le_right (by decide)
 rw [wrap64 (by omega) (by omega)]
 omega
def zPK (w:World) (x:zKC):Prop:=zCs w x.t∧∀ y ∈ x.t.ops,-9223372036854775808 ≤ y.1.n∧y.1.n ≤ 9223372036854775807
theorem zWo {w:World} {cs:List Value} (hc:cs.length = 7) (y:Rdy w (.fld 0 1 (.int .i64) (.fld 1 1 (.int .i64) (.fld 2 5 zHt .nil))) cs):∃ x:zKC,cs = zEB x∧zPK w x:=by
 match cs,hc with
 | [a,b,c,d,e,f,g],_=>
  obtain ⟨⟨x0,e0,_⟩,⟨x1,e1,_⟩,y2,_⟩:=y
  cases e0; cases e1
  obtain ⟨t,e,h3,h4⟩:=zXq (cs:=#[c,d,e,f,g]) rfl y2
  cases e
  exact ⟨⟨x0,x1,t⟩,rfl,h3,h4⟩
theorem zUi {W:World} {s:Sl} (y0:Rdy W zAx (Sl.val s).cells.toList):∃ L:List zKC,RdC W s 7 (L.flatMap zEB)∧∀ x ∈ L,zPK W x:=by
 obtain ⟨h1,h2⟩:=zVP y0
 obtain ⟨L,_,hL,hm⟩:=zIk zEB (fun o=>zPK W o) zFT h1 h2 fun cs hc hr=>zWo hc hr
 exact ⟨L,hL,hm⟩
section
variable {B:World} {Γ Δ:List zB} {k:Sep.K} {q:Bool→Sep.K}
theorem zMm {L:List zKC} {ss:Sl} (hL:∀ w,Holds B Γ w→RdC w ss 7 (L.flatMap zEB)) (hLr:∀ x ∈ L,∀ w,Holds B Γ w→zCs w x.t) (h1:HG B Γ (q true)) (h2:L.length ≤ 50→(∀ x ∈ L,¬ zFg x.t)→HG B Γ (q false)):HG B Γ (vM.call ss q):=fun w hw=>by
 refine zHj _ _ _ ?_
 have hsn:ss.n = L.length:=zAb zFT (by omega) (hL w hw)
 refine hg hw ?_
 clear hw w
 unfold vM
 refine zH (fun hb=>h1) fun hb=>?_
 have hl:L.length ≤ 50:=by simp only [decide_eq_false_iff_not] at hb; omega
 refine j4 (α:=Int) (fun y=>∃ i:Nat,y = (i:Int)∧i ≤ L.length∧∀ x ∈ L.take i,¬ zFg x.t) (fun y=>L.length - y.toNat) ⟨0,rfl,Nat.zero_le _,by simp⟩ fun k' y hy hk'=>?_
 obtain ⟨i,rfl,hi,hno⟩:=hy
 unfold vM.b1
 refine zH (fun hc=>?_) fun hc=>?_
 ·have hil:i < L.length:=by simp only [decide_eq_true_eq] at hc; omega
  have hge:L[i]? = some L[i]:=List.getElem?_eq_getElem hil
  have hmem:L[i] ∈ L:=List.getElem_mem hil
  have htk:L.take (i + 1) = L.take i++[L[i]]:=List.take_succ_eq_append_getElem hil
  generalize L[i] = st at hge hmem htk
  refine zAw zEB zFT hL hge ?_
  refine zR fun x4=>?_
  refine qX (b:=x4) (l':=zEB st) ?_
  refine qW (b:=x4) (off:=2) (l:=zEB st) (l':=txL st.t) ?_
  refine zRm (t:=st.t) (fun w hw=>hLr st hmem w (hw.drops (Δ:=Γ))) ?_
  refine zH (fun hg=>zC h1) fun hg=>?_
  refine qU ?_
  refine zC (hk' _ ⟨i + 1,by simp,hil,fun x hx=>?_⟩ (by omega))
  rw [htk] at hx
  rcases List.mem_append.1 hx with hx | hx
  ·exact hno x hx
  ·rw [List.mem_singleton.1 hx]; simpa using hg
 ·have hil:i = L.length:=by simp only [decide_eq_false_iff_not] at hc; omega
  rw [hil,List.take_length] at hno
  exact h2 hl hno
theorem zSC {sd n T:Nat} {S:jk} (h:S.fils.length = n→S.M.length ≤ 40 * T→S.jobs.length ≤ T→(∀ x ∈ S.fed,0 ≤ x)→(∀ j ∈ S.jobs,vE (n:Int) j.tx = true)→HG B (zBG sd n T S::Γ) k):HG B (zBG sd n T S::Γ) k:=zHz fun st l a b c F J ho=>zB4 ho (h (by
  have h1:=congrArg List.length ho.fils
  have h2:=congrArg List.length ho.rgs
  simp only [List.length_map,List.length_range] at h1 h2
  omega) (by have:=ho.ml; omega) (by rw [← ho.jobs,List.length_map]; exact ho.jl) (fun x hx=>(ho.fedr x hx).1) (fun j hj=>by
  rw [← ho.jobs] at hj
  obtain ⟨y,hy,rfl⟩:=List.mem_map.1 hj
  show vE (n:Int) (zGG y.t) = true
  rw [zFi (zPF y.t)]
  exact (ho.ok y hy).ord.1))
structure TwG where
 i:Nat
 Ta:Nat
 Tb:Nat
 Sa:jk
 Sb:jk
 at':List Int
structure zaw (x:zDu) (g:TwG):Prop where
 i:g.i ≤ 120
 Ta:g.Ta ≤ g.i
 Tb:g.Tb ≤ 3 * g.i
 eq:zBb g.Sa g.Sb
 al:g.at'.length = 2
 kn:∀ r:Nat,r < 2→∃ v lg,g.at'[r]? = some v∧x.logs[r]? = some lg∧0 ≤ v∧v ≤ lg.items.length∧(1 ≤ v→∀ it,lg.items[0]? = some it→knows 2 (r:Int) it.kind it.ix it.o.tag it.o.t it.o.mks g.Sb)
abbrev twF (sa sb ab t5:Nat) (x:zDu) (Ta Tb:Nat) (Sa Sb:jk) (at':List Int) (Γ:List zB):List zB:=zBG sa 2 Ta Sa::zBG sb 2 Tb Sb::blk ab (.cells (at'.map (Value.int .i64)).toArray zLH (0,0))::blk t5 (.cells (uL x).toArray zf (0,0))::Sep.stars (x.logs.map zCu)::SlC yT 10 x.gs (x.G.flatMap zCt)::Sep.stars (x.P.map zHm)::Γ
theorem zMn {L:List zKC} {ss ps:Sl} {P:List Int} (hL:RdC B ss 7 (L.flatMap zEB)) (hLr:∀ x ∈ L,zPK B x) (hP:RdC B ps 1 (P.map (Value.int .i64))) (h:HG B Γ (q true)):HG B Γ (zD.call ss ps q):=fun w hw=>by
 refine zHn _ _ _ _ ?_
 have hpn:ps.n = P.length:=by have:=hP.len; rw [List.length_map] at this; omega
 refine hg hw ?_
 clear hw w
 unfold zD
 refine zWl ?_
 refine s_f ?_ (by rfl)
 have out:HG B Γ (zD.s1 q ss ps true):=by
  unfold zD.s1
  exact s_t h
 refine zMm (L:=L) (fun w hw=>hL.old hw) (fun x hx w hw=>zQb (hLr x hx).1 hw) (s_t out (by rfl)) fun hl50 hng=>?_
 refine s_f ?_ (by rfl)
 by_cases hp60:60 < P.length
 ·rw [show decide ((60:Int) < (ps.n:Int)) = true by simp; omega]
  exact out
 rw [show decide ((60:Int) < (ps.n:Int)) = false by simp; omega]
 unfold zD.s1
 refine s_f ?_ (by rfl)
 refine zYC (n:=2) (L:=L) (by omega) (by omega) (fun w hw=>hL.old hw) (fun x hx=>⟨fun w hw=>zQb (hLr x hx).1 hw,(hLr x hx).2⟩) hng hl50 fun x hx=>?_
 have h7:(uL x).length = 7:=zFS hx.ll hx.al
 refine zR fun t5=>?_
 refine zR0 (b:=t5) (off:=0) (us:=uL x) (uL x) ?_ h7 (by simp) (by rw [List.take_zero,List.nil_append,List.drop_of_length_le (by simp [h7]),List.append_nil]) zNf
 refine zHP (n:=2) (by omega) (by omega) fun sa=>?_
 refine zHP (n:=2) (by omega) (by omega) fun sb=>?_
 refine s_f ?_ (by rfl)
 refine s_f ?_ (by rfl)
 unfold zD.s2
 refine s_f ?_ (by rfl)
 refine zat (x:=#[.int .i64 0,.int .i64 0]) (fun w=>by kernel_rfl) ?_
 refine zR fun ab=>?_
 refine qX (b:=ab) (l':=[.int .i64 0,.int .i64 0]) ?_
 refine zC (Δ:=zBG sa 2 0 (zGH 2)::zBG sb 2 0 (zGH 2)::blk ab (.cells [.int .i64 0,.int .i64 0].toArray zLH (0,0))::blk t5 (.cells (uL x).toArray zf (0,0))::Sep.stars (x.logs.map zCu)::SlC yT 10 x.gs (x.G.flatMap zCt)::Sep.stars (x.P.map zHm)::Γ) ?_
 refine vQ (α:=Int) (ι:=TwG) (fun y g=>y = (g.i:Int)∧zaw x g) (fun y g=>twF sa sb ab t5 x g.Ta g.Tb g.Sa g.Sb g.at' Γ) (fun y g=>120 - g.i) ⟨0,0,0,zGH 2,zGH 2,[0,0]⟩ ⟨rfl,⟨by simp,by simp,by simp,.rfl',rfl,fun r hr=>?_⟩⟩ ?_
 ·obtain ⟨lg,hlg⟩:∃ v,x.logs[r]? = some v:=⟨_,List.getElem?_eq_getElem (by rw [hx.ll]; omega)⟩
  refine ⟨0,lg,?_,hlg,by omega,by omega,fun h=>by omega⟩
  match r,hr with
  | 0,_=>rfl
  | 1,_=>rfl
 rintro k' _ ⟨i,Ta,Tb,Sa,Sb,at'⟩ ⟨rfl,ho⟩ hk'
 obtain ⟨o1,o2,o3,o4,o5,o6⟩:=ho
 simp only at o1 o2 o3 o4 o5 o6 hk' ⊢
 unfold zD.b3
 refine zH (fun hb=>?_) fun hb=>zC h
 have hi:i < 120:=by simp only [decide_eq_true_eq] at hb; omega
 have next:∀ {Ψ:List zB} {Ta' Tb':Nat} {Sa' Sb':jk} {at2:List Int},[d:Drops Ψ (twF sa sb ab t5 x Ta' Tb' Sa' Sb' at2 Γ)]→zaw x ⟨i + 1,Ta',Tb',Sa',Sb',at2⟩→HG B Ψ (zD.s4 q k' ps ⟨t5,0,none⟩ (some ⟨sa,0,none⟩) (some ⟨sb,0,none⟩) ⟨ab,0,none⟩ (i:Int)):=fun {Ψ Ta' Tb' Sa' Sb' at2 d} a1=>by
  unfold zD.s4
  refine qU ?_
  exact zC (d:=d) (hk' ((i:Int) + 1) ⟨i + 1,Ta',Tb',Sa',Sb',at2⟩ ⟨by simp,a1⟩ (by simp only; omega))
 have S5:∀ r:Int,0 ≤ r→r ≤ 1→HG B (twF sa sb ab t5 x Ta Tb Sa Sb at' Γ) (zD.s5 q k' ps ⟨t5,0,none⟩ (some ⟨sa,0,none⟩) (some ⟨sb,0,none⟩) ⟨ab,0,none⟩ (i:Int) r):=fun r hr0 hr1=>by
  obtain ⟨v,lg,hv,hlg,hv0,hv1,hkn⟩:=o6 r.toNat (by omega)
  rw [show ((r.toNat:Nat):Int) = r by omega] at hkn
  have hlm:lg ∈ x.logs:=List.mem_of_getElem? hlg
  have hic:=hx.ic lg hlm
  have rdL:∀ {Ψ:List zB},[d:Drops Ψ [Sep.stars (x.logs.map zCu)]]→∀ w,Holds B Ψ w→RdC w lg.s 12 (lg.items.flatMap zDF):=fun {Ψ d} w hw=>by
   obtain ⟨Δ,hd2⟩:=zCn (Γ:=[]) (F:=zCu) hlm (hw.drops (d:=d))
   have h2:Holds B (SlC qF 12 lg.s (lg.items.flatMap zDF)::Δ) w:=hd2
   exact (yh (s:=lg.s) h2).1
  refine fun w hw=>?_
  have hln:lg.s.n = lg.items.length:=zAb zEd (by omega) (rdL w hw)
  refine hg hw ?_
  clear hw w
  unfold zD.s5
  refine vk ?_
  refine zA8 (by omega) (by omega) ?_
  refine yD (b:=ab) (off:=0 + r.toNat) (l:=at'.map (Value.int .i64)) (x:=v) ?_ (by rw [zAq,Nat.zero_add,List.getElem?_map,hv]; rfl)
  refine zA8 (by omega) (by omega) ?_
  refine yD (b:=t5) (off:=0 + r.toNat) (l:=uL x) (x:=lg.s) ?_ (by rw [zAq,Nat.zero_add]; exact zEe hlg)
  refine zH (fun he=>?_) fun he=>?_
  ·exact next (Ta':=Ta) (Tb':=Tb) (Sa':=Sa) (Sb':=Sb) (at2:=at') ⟨by simp only; omega,by simp only; omega,by simp only; omega,o4,o5,o6⟩
  have hvl:v < lg.items.length:=by simp only [decide_eq_false_iff_not] at he; omega
  have hgi:lg.items[v.toNat]? = some (lg.items[v.toNat]'(by omega)):=List.getElem?_eq_getElem (by omega)
  have hgm:lg.items[v.toNat]'(by omega) ∈ lg.items:=List.getElem_mem (by omega)
  generalize lg.items[v.toNat]'(by omega) = it at hgi hgm
  have hop:=hx.it lg hlm it hgm
  obtain ⟨hok,hsm⟩:=hx.ok it.o hop
  refine vk ?_
  refine zBw [blk t5 (.cells (uL x).toArray zf (0,0)),blk ab (.cells (at'.map (Value.int .i64)).toArray zLH (0,0)),Sep.stars (x.logs.map zCu)] ?_
  refine zA8 (by omega) (by omega) ?_
  refine zA8 (by omega) (by omega) ?_
  refine u6 (b:=t5) (off:=0 + r.toNat) (l:=uL x) (x:=lg.s) ?_ (by rw [zAq,Nat.zero_add]; exact zEe hlg)
  refine u6 (b:=ab) (off:=0 + r.toNat) (l:=at'.map (Value.int .i64)) (x:=v) ?_ (by rw [zAq,Nat.zero_add,List.getElem?_map,hv]; rfl)
  refine zDj zDF zEd (by omega) (fun w hw=>rdL w hw) hgi (fun t81 ht81=>?_) (by omega)
  refine zXo (cs:=zDF it) (fun w hw=>ht81 w (rdL w hw)) rfl ?_
  refine zR fun i14=>?_
  refine zBC ?_
  refine qX (b:=i14) (l':=zDF it) ?_
  refine zA8 (by omega) (by omega) ?_
  refine yD (b:=ab) (off:=0 + r.toNat) (l:=at'.map (Value.int .i64)) (x:=v) ?_ (by rw [zAq,Nat.zero_add,List.getElem?_map,hv]; rfl)
  refine qU ?_
  refine zA8 (by omega) (by omega) ?_
  refine zBY (b:=ab) (off:=0 + r.toNat) (l:=at'.map (Value.int .i64)) (l':=(at'.set r.toNat (v + 1)).map (Value.int .i64)) ?_ (Nat.ble_eq_true_of_le (by rw [List.length_map,o5]; omega)) (by rw [Nat.zero_add,List.map_set]) rfl
  refine vk ?_
  refine zBw [blk i14 (.cells (zDF it).toArray qF (0,0))] ?_
  refine zAW (b:=i14) (l:=zDF it) (l':=zDF it) ?_
  refine zAW (b:=i14) (l:=zDF it) (l':=zDF it) ?_
  refine zQ sa ?_
  refine zSC fun a1 a2 a3 a4 a5=>?_
  refine zFo (r:=r) (kind:=it.kind) (ix:=it.ix) (tag:=it.o.tag) (t:=it.o.t) (ms:=it.o.ms) (mks:=it.o.mks) (by omega) (fun w hw=>(zDG (Γ:=[]) hop hw.drops).1) (fun w hw=>(zDG (Γ:=[]) hop hw.drops).2) hok.nn hok.g0 hok.g1 hok.mc ⟨hsm.1.1,hsm.1.2.1,hsm.1.2.2.1⟩ hsm.2 fun s1 D1 hD1 hD1l=>?_
  refine zBC ?_
  refine zQ sb ?_
  refine zSC fun b1 b2 b3 b4 b5=>?_
  refine zFo (r:=r) (kind:=it.kind) (ix:=it.ix) (tag:=it.o.tag) (t:=it.o.t) (ms:=it.o.ms) (mks:=it.o.mks) (by omega) (fun w hw=>(zDG (Γ:=[]) hop hw.drops).1) (fun w hw=>(zDG (Γ:=[]) hop hw.drops).2) hok.nn hok.g0 hok.g1 hok.mc ⟨hsm.1.1,hsm.1.2.1,hsm.1.2.2.1⟩ hsm.2 fun s2 D2 hD2 hD2l=>?_
  obtain ⟨c1,c2⟩:=zUe (n:=2) (r:=r) (kind:=it.kind) (ix:=it.ix) (tag:=it.o.tag) (t:=it.o.t) (mks:=it.o.mks) o4
  have hout:=zWn (n:=2) (r:=r) (kind:=it.kind) (ix:=it.ix) (tag:=it.o.tag) (t:=it.o.t) (mks:=it.o.mks) (S:=Sa) a5
  have hslf:=zR7 (n:=2) (r:=r) (kind:=it.kind) (ix:=it.ix) (tag:=it.o.tag) (t:=it.o.t) (mks:=it.o.mks) (S:=Sb) (by omega)
  have hkeep:∀ it0:ItG,knows 2 r it0.kind it0.ix it0.o.tag it0.o.t it0.o.mks Sb→knows 2 r it0.kind it0.ix it0.o.tag it0.o.t it0.o.mks (j5 2 r it.kind it.ix it.o.tag it.o.t it.o.mks Sb).1:=fun it0 h0=>zIM hr0 h0
  have hkeep2:∀ (r':Int) (it0:ItG),knows 2 r' it0.kind it0.ix it0.o.tag it0.o.t it0.o.mks Sb→knows 2 r' it0.kind it0.ix it0.o.tag it0.o.t it0.o.mks (j5 2 r it.kind it.ix it.o.tag it.o.t it.o.mks Sb).1:=fun r' it0 h0=>zIM hr0 h0
  rw [← c2,← hD1] at hD2
  rw [← hD1] at hout
  generalize (j5 2 r it.kind it.ix it.o.tag it.o.t it.o.mks Sa).1 = Sa1 at c1 ⊢
  generalize (j5 2 r it.kind it.ix it.o.tag it.o.t it.o.mks Sb).1 = Sb1 at c1 hslf hkeep hkeep2 ⊢
  refine zC (Δ:=SlC qE 6 s2 (D2.flatMap dcF)::Sep.stars (D2.map dcO)::SlC qE 6 s1 (D1.flatMap dcF)::Sep.stars (D1.map dcO)::blk i14 (.cells (zDF it).toArray qF (0,0))::twF sa sb ab t5 x (Ta + 1) (Tb + 1) Sa1 Sb1 (at'.set r.toNat (v + 1)) Γ) ?_
  refine zUg (X:=D1) (Y:=D2) (by omega) hD2.symm (fun d hd=>?_) (fun w hw=>zQz (Γ:=[]) (hw.drops (Δ:=[SlC qE 6 s1 (D1.flatMap dcF),Sep.stars (D1.map dcO)]))) (fun w hw=>zQz (Γ:=[]) (hw.drops (Δ:=[SlC qE 6 s2 (D2.flatMap dcF),Sep.stars (D2.map dcO)]))) ?_
  ·have:=hout (zHl d) (List.mem_map.2 ⟨d,hd,rfl⟩)
   simp only [zHl,List.length_map] at this
   omega
  refine s_f ?_ (by rfl)
  refine qW (b:=i14) (l:=zDF it) (l':=zDF it) ?_
  refine zQ sb ?_
  refine zFo (r:=r) (kind:=it.kind) (ix:=it.ix) (tag:=it.o.tag) (t:=it.o.t) (ms:=it.o.ms) (mks:=it.o.mks) (by omega) (fun w hw=>(zDG (Γ:=[]) hop hw.drops).1) (fun w hw=>(zDG (Γ:=[]) hop hw.drops).2) hok.nn hok.g0 hok.g1 hok.mc ⟨hsm.1.1,hsm.1.2.1,hsm.1.2.2.1⟩ hsm.2 fun s3 D3 hD3 hD3l=>?_
  obtain ⟨e1,e2⟩:=zMK hslf
  rw [e2] at hD3
  obtain rfl:D3 = []:=List.map_eq_nil_iff.1 hD3
  refine zPJ fun n3=>?_
  rw [show decide ((s3.n:Int) ≠ 0) = false by rw [n3]; rfl]
  have hkeep3:∀ (r':Int) (it0:ItG),knows 2 r' it0.kind it0.ix it0.o.tag it0.o.t it0.o.mks Sb1→knows 2 r' it0.kind it0.ix it0.o.tag it0.o.t it0.o.mks (j5 2 r it.kind it.ix it.o.tag it.o.t it.o.mks Sb1).1:=fun r' it0 h0=>zIM hr0 h0
  have c2':zBb Sa1 (j5 2 r it.kind it.ix it.o.tag it.o.t it.o.mks Sb1).1:=c1.trans' e1.zTm
  have hslf2:=hkeep3 r it hslf
  generalize (j5 2 r it.kind it.ix it.o.tag it.o.t it.o.mks Sb1).1 = Sb2 at c2' hkeep3 hslf2 ⊢
  unfold zD.s6
  refine s_f ?_ (by rfl)
  refine zC (Δ:=twF sa sb ab t5 x (Ta + 1) (Tb + 1 + 1) Sa1 Sb2 (at'.set r.toNat (v + 1)) Γ) ?_
  refine zA8 (by omega) (by omega) ?_
  have hset:(at'.set r.toNat (v + 1))[r.toNat]? = some (v + 1):=by rw [List.getElem?_set_self (by omega)]
  refine yD (b:=ab) (off:=0 + r.toNat) (l:=(at'.set r.toNat (v + 1)).map (Value.int .i64)) (x:=v + 1) ?_ (by rw [zAq,Nat.zero_add,List.getElem?_map,hset]; rfl)
  have S7:∀ {Tb':Nat} {Sb':jk} {Ψ:List zB},[d:Drops Ψ (twF sa sb ab t5 x (Ta + 1) Tb' Sa1 Sb' (at'.set r.toNat (v + 1)) Γ)]→Tb' ≤ Tb + 3→zBb Sa1 Sb'→(∀ it0,lg.items[0]? = some it0→knows 2 r it0.kind it0.ix it0.o.tag it0.o.t it0.o.mks Sb')→(∀ (r':Int) (it0:ItG),knows 2 r' it0.kind it0.ix it0.o.tag it0.o.t it0.o.mks Sb→knows 2 r' it0.kind it0.ix it0.o.tag it0.o.t it0.o.mks Sb')→HG B Ψ (zD.s7 q k' ps ⟨t5,0,none⟩ (some ⟨sa,0,none⟩) (some ⟨sb,0,none⟩) ⟨ab,0,none⟩ (i:Int) r false):=fun {Tb' Sb' Ψ d} hT' hc' hk0 hkr=>by
   refine zC (d:=d) ?_
   unfold zD.s7
   refine s_f ?_ (by rfl)
   refine zSC fun a1 a2 a3 a4 a5=>?_
   refine zFp (by omega) fun w1=>?_
   refine zQ sb ?_
   refine zFp (by omega) fun w2=>?_
   refine zUh (L1:=Sa1.jobs.map zD8.tag) (L2:=Sb'.jobs.map zD8.tag) (by rw [List.length_map]; omega) (fun w hw=>(yh (s:=w1) hw).1) (fun w hw=>(yh (s:=w2) hw).1) ?_
   rw [show decide (Sa1.jobs.map zD8.tag = Sb'.jobs.map zD8.tag) = true by rw [hc'.jo]; simp]
   refine s_f ?_ (by rfl)
   refine zQ sa ?_
   refine zQt (by omega) fun r1 Y1 hY1=>?_
   refine zQ sb ?_
   refine zQt (by omega) fun r2 Y2 hY2=>?_
   have hYl:Y1.length = Sa1.M.length:=by rw [← hY1]; simp
   refine zWS (X:=Y1) (Y:=Y2) (by omega) (by rw [hY1,hY2,hc'.M]) (fun w hw=>(yh (s:=r1) hw).1) (fun w hw=>(yh (s:=r2) hw).1) (fun y hy w hw=>?_) (fun y hy w hw=>?_) ?_
   ·obtain ⟨Δ,h1⟩:=zCn (Γ:=[]) (F:=jd) hy (hw.drops (Δ:=[Sep.stars (Y1.map jd)]))
    exact h1.rdC List.mem_cons_self
   ·obtain ⟨Δ,h1⟩:=zCn (Γ:=[]) (F:=jd) hy (hw.drops (Δ:=[Sep.stars (Y2.map jd)]))
    exact h1.rdC List.mem_cons_self
   refine s_f ?_ (by rfl)
   refine zQ sa ?_
   refine zQw ?_
   refine zQ sb ?_
   refine zQw ?_
   rw [show decide (lastOf 2 Sa1 r ≠ lastOf 2 Sb' r) = false by unfold lastOf; rw [hc'.fi]; simp]
   unfold zD.s8
   refine s_f ?_ (by rfl)
   refine next (Ta':=Ta + 1) (Tb':=Tb') (Sa':=Sa1) (Sb':=Sb') (at2:=at'.set r.toNat (v + 1)) ⟨by simp only; omega,by simp only; omega,by simp only; omega,hc',by simp [o5],fun r' hr'=>?_⟩
   obtain ⟨v',lg',hv',hlg',g0,g1,g2⟩:=o6 r' hr'
   by_cases hrr:r' = r.toNat
   ·subst hrr
    rw [hlg] at hlg'
    cases hlg'
    exact ⟨v + 1,lg,hset,hlg,by omega,by omega,fun _ it0 hit0=>by rw [show ((r.toNat:Nat):Int) = r by omega]; exact hk0 it0 hit0⟩
   ·exact ⟨v',lg',by rw [List.getElem?_set_ne (Ne.symm hrr)]; exact hv',hlg',g0,g1,fun h1 it0 hit0=>hkr _ it0 (g2 h1 it0 hit0)⟩
  refine zH (fun h1=>?_) fun h1=>?_
  ·have h1':1 ≤ v:=by simp only [decide_eq_true_eq] at h1; omega
   have hg0:lg.items[0]? = some (lg.items[0]'(by omega)):=List.getElem?_eq_getElem (by omega)
   have hm0:lg.items[0]'(by omega) ∈ lg.items:=List.getElem_mem (by omega)
   generalize lg.items[0]'(by omega) = it0 at hg0 hm0
   have hop0:=hx.it lg hlm it0 hm0
   obtain ⟨hok0,hsm0⟩:=hx.ok it0.o hop0
   have hk0:knows 2 r it0.kind it0.ix it0.o.tag it0.o.t it0.o.mks Sb2:=hkeep3 r it0 (hkeep it0 (hkn h1' it0 hg0))
   refine zA8 (by omega) (by omega) ?_
   refine yD (b:=t5) (off:=0 + r.toNat) (l:=uL x) (x:=lg.s) ?_ (by rw [zAq,Nat.zero_add]; exact zEe hlg)
   refine zAw zDF zEd (fun w hw=>rdL w hw) hg0 ?_
   refine zQ sb ?_
   refine zFo (r:=r) (kind:=it0.kind) (ix:=it0.ix) (tag:=it0.o.tag) (t:=it0.o.t) (ms:=it0.o.ms) (mks:=it0.o.mks) (by omega) (fun w hw=>(zDG (Γ:=[]) hop0 hw.drops).1) (fun w hw=>(zDG (Γ:=[]) hop0 hw.drops).2) hok0.nn hok0.g0 hok0.g1 hok0.mc ⟨hsm0.1.1,hsm0.1.2.1,hsm0.1.2.2.1⟩ hsm0.2 fun s4 D4 hD4 hD4l=>?_
   obtain ⟨f1,f2⟩:=zMK hk0
   rw [f2] at hD4
   obtain rfl:D4 = []:=List.map_eq_nil_iff.1 hD4
   refine zPJ fun n4=>?_
   rw [show decide ((s4.n:Int) ≠ 0) = false by rw [n4]; rfl]
   refine S7 (Tb':=Tb + 1 + 1 + 1) (by omega) (c2'.trans' f1.zTm) (fun it1 h1=>?_) fun r' it1 h1=>zML f1.zTm (hkeep3 r' it1 (hkeep2 r' it1 h1))
   rw [hg0] at h1
   cases h1
   exact zML f1.zTm hk0
  ·have h1':v = 0:=by simp only [decide_eq_false_iff_not] at h1; omega
   subst h1'
   refine S7 (Tb':=Tb + 1 + 1) (by omega) c2' (fun it1 h1=>?_) fun r' it1 h1=>hkeep3 r' it1 (hkeep2 r' it1 h1)
   rw [show (0:Int).toNat = 0 by rfl] at hgi
   rw [hgi] at h1
   cases h1
   exact hslf2
 obtain ⟨u1,u2⟩:=zYz (i:Int)
 refine zBK rfl ?_
 refine zH (fun hc=>?_) fun hc=>?_
 ·have hil:i < P.length:=by simp only [decide_eq_true_eq] at hc; omega
  refine zAA (L:=P) (c:=Value.int .i64) (j:=i) (x:=P[i]) (fun w hw=>hP.old hw) (List.getElem?_eq_getElem hil) ?_
  obtain ⟨u3,u4⟩:=zYz P[i]
  refine zBK rfl ?_
  exact S5 _ u3 u4
 ·exact S5 _ u1 u2
open Go.RowKit in
theorem zKU (W:World) (s0:Sl) (y0:Rdy W zAx (Sl.val s0).cells.toList) (s1:Sl) (y1:Rdy W zJ0 (Sl.val s1).cells.toList) :
  Calls Tryz.prog 7 #[s0.val,s1.val] W (Ret fun v w'=>v = .bool true∧Below W.heap.size W w'):=by
 obtain ⟨L,hL,hd⟩:=zUi y0
 obtain ⟨M,hM,_⟩:=zVQ y1
 exact zVI (zMn (Γ:=[]) hL hd hM (fun w h=>⟨rfl,h⟩) W (Holds.start W))
end
end
end Go.Proofs.YtdemfamgieonbaaGreat
