/- Texts of the claim FrontTells, one behind the other. -/
import Derived.Test.YtdemfamgieonbaaGreatFrontTellsM5
import Derived.Deep.OwnRows
set_option linter.all false
namespace Go.Proofs.YtdemfamgieonbaaGreat
open Go Go.Sep Go.Sep.Bt
set_option maxRecDepth 100000
structure SchM where
 M:Recs
 G:GM×DM
 fils:List FilM
 fed:List Int
 jobs:List JobM
def mM (m:MkX):MarkM:=⟨m.key,m.home,m.cnt⟩
theorem zT1 (L:List MkX):(L.map mM).flatMap markF = L.flatMap mkL:=by
 rw [List.flatMap_map]; rfl
def updN (tag:TagM) (r:Int):List JobM→List JobM
 | []=>[]
 | j::J=>if j.tag = tag then { j with need:=j.need.filter fun h=>!decide (h = r) }::J else j::updN tag r J
def runJ (n:Nat) (S:SchM):SchM×List DcM :=
 (⟨(workM n S.jobs.length S.jobs S.M S.G).1.2.1,(workM n S.jobs.length S.jobs S.M S.G).1.2.2,S.fils,S.fed,(workM n S.jobs.length S.jobs S.M S.G).1.1⟩,(workM n S.jobs.length S.jobs S.M S.G).2)
def marksIn (kind r:Int) (mks:List MkX):List MkX:=if kind = 2 then mks.filter fun m=>decide (m.home = r) else mks
abbrev sngl (t:TxX) (mks:List MkX):Bool:=decide (t.kind = 1) && decide ((homesM mks).length = 1)
abbrev filIn (r kind ix:Int) (tag:TagM) (t:TxX) (mks:List MkX) (S:SchM):FilM×Bool:=itemIn r (S.fils.getD r.toNat ⟨-1,[]⟩) kind ix tag (homesM mks) (sngl t mks)
abbrev fedS (r kind ix:Int) (tag:TagM) (t:TxX) (mks:List MkX) (S:SchM):SchM :=
 ⟨S.M,S.G,S.fils.set r.toNat (filIn r kind ix tag t mks S).1,S.fed.set r.toNat (S.fed.getD r.toNat 0 + 1),S.jobs⟩
abbrev entS (n:Nat) (r kind:Int) (tag:TagM) (mks:List MkX) (J:List JobM) (S:SchM):SchM :=
 ⟨S.M,enterM n S.M tag ((marksIn kind r mks).map mM) S.G,S.fils,S.fed,updN tag r J⟩
def feedG (n:Nat) (r kind ix:Int) (tag:TagM) (t:TxX) (mks:List MkX) (S:SchM):SchM×List DcM :=
 if (filIn r kind ix tag t mks S).2 = false then (fedS r kind ix tag t mks S,[]) else
 if (∃ j ∈ S.jobs,j.tag = tag) then
  if kind = 1 then runJ n (fedS r kind ix tag t mks S) else runJ n (entS n r kind tag mks S.jobs (fedS r kind ix tag t mks S))
 else runJ n (entS n r kind tag mks (S.jobs++[⟨tag,canX t,mks,homesM mks⟩]) (fedS r kind ix tag t mks S))
abbrev feedOk (n:Nat) (r kind ix:Int) (tag:TagM) (t:TxX) (mks:List MkX):Prop:=ItemOk kind ix∧OrdOk 3 tag t mks∧(0 ≤ r∧r < n)∧OrdOk (n:Int) tag t mks
def feedM (n:Nat) (r kind ix:Int) (tag:TagM) (t:TxX) (mks:List MkX) (S:SchM):SchM×List DcM :=
 if feedOk n r kind ix tag t mks then feedG n r kind ix tag t mks S else (S,[])
structure FX where
 b:Nat
 rg:Int
 f:FilM
abbrev ptrF (x:FX):Option Addr:=some ⟨x.b,0,none⟩
def filO (N:Nat) (x:FX):HProp:=FilR x.b x.rg N x.f
structure SchOk (n T:Nat) (S:SchM) (F:List FX) (J:List JobX):Prop where
 n1:1 ≤ n
 n3:n ≤ 3
 fils:F.map FX.f = S.fils
 rgs:F.map FX.rg = (List.range n).map fun i:Nat=>(i:Int)
 fedl:S.fed.length = n
 fedr:∀ x ∈ S.fed,0 ≤ x∧x ≤ T
 jobs:J.map eraJ = S.jobs
 ok:∀ j ∈ J,JobOk n j
 jl:J.length ≤ T
 gz:∃ K,SzG K S.G∧K + J.length ≤ 40 * T
 ml:S.M.length + 32 * J.length ≤ 40 * T
abbrev schF (sd st l n T:Nat) (S:SchM) (a b c:Sl) (F:List FX) (J:List JobX) (Γ:List HProp):List HProp :=
 schP sd st l n S.M S.G a b c J (SlC zBN 1 a ((F.map ptrF).map Value.pointer)::Sep.stars (F.map (filO T))::SlI b S.fed::Γ)
def SchS (sd n T:Nat) (S:SchM):HProp:=ex fun st=>ex fun l=>ex fun a:Sl=>ex fun b:Sl=>ex fun c:Sl=>ex fun F:List FX=>ex fun J:List JobX=>Sep.stars (pur (SchOk n T S F J)::schF sd st l n T S a b c F J [])
section
variable {B:World} {Γ Δ:List HProp} {k:K} {sd st l n T:Nat} {S:SchM} {a b c:Sl} {F:List FX} {J:List JobX} {t:TxX} {mks:List MkX} {ms:Sl} {tag:TagM}
instance (priority:=high) zVc:Sep.Own sd (SchS sd n T S::Γ) (SchS sd n T S) Γ:=⟨.refl _⟩
theorem s_sch (h:∀ st l a b c F J,SchOk n T S F J→HG B (schF sd st l n T S a b c F J Γ) k):HG B (SchS sd n T S::Γ) k :=
 s_ex fun st=>s_ex fun l=>s_ex fun a=>s_ex fun b=>s_ex fun c=>s_ex fun F=>s_ex fun J=>s_flat <| s_pur fun h1=>h st l a b c F J h1
theorem zFN (h1:SchOk n T S F J) (h:HG B (SchS sd n T S::Γ) k):HG B (schF sd st l n T S a b c F J Γ) k:=fun w hw=>by
 refine h w ?_
 have h3:Holds B (Sep.stars (pur (SchOk n T S F J)::schF sd st l n T S a b c F J [])::Γ) w:=Holds.flat.2 (Holds.pur.2 ⟨h1,hw⟩)
 exact h3.imp fun g hg=>⟨st,l,a,b,c,F,J,hg⟩
theorem zQQ {s:Sl} {L:List MkX} {Q:Sl→K} (hr:∀ w,Holds B Γ w→RdC w s 3 (L.flatMap mkL)) (hl:L.length ≤ 20000000) (h:∀ s',HG B (SlC zAs 3 s' (L.flatMap mkL)::Γ) (Q s')):HG B Γ (zBC.call s Q):=by
 refine fun w hw=>zDh _ _ _ ?_
 refine hg hw ?_
 clear hw w
 unfold zBC
 exact zEj (us:=L.flatMap mkL) hr (zN4 _) (by rw [zAL _ 3 zCa]; omega) (by omega) fun s' _=>h s'
theorem zOq {Q:Array Value→K} (hr:∀ w,Holds B Γ w→txRd w t) (hm:∀ w,Holds B Γ w→RdC w ms 3 (mks.flatMap mkL)) (hl:t.reads.length ≤ 1000∧t.writes.length ≤ 1000∧t.ops.length ≤ 1000∧∀ x ∈ t.ops,x.1.val.length ≤ 1000000) (hml:mks.length ≤ 1000)
  (h:∀ t' ms',TxIs t' t→HG B (SlC zAs 3 ms' (mks.flatMap mkL)::txC t' Γ) (Q (orV tag t' ms').toArray)):HG B Γ (zDY.call (orV tag t ms).toArray Q):=by
 refine fun w hw=>zIX _ _ _ ?_
 refine hg hw ?_
 clear hw w
 unfold zDY
 refine s_new fun o1=>?_
 refine s_new fun t2=>?_
 repeat refine s_nx ?_
 refine zJl (t:=t) (fun w hw=>hr w hw.drops) hl fun t' ht'=>?_
 repeat refine s_nx ?_
 refine zQQ (L:=mks) (fun w hw=>hm w hw.drops) (by omega) fun ms'=>?_
 refine s_stNP (b:=o1) (off:=4) (us:=txL t') (orV tag t' ms) ?_
 repeat refine s_nx ?_
 exact s_end (h t' ms' ht')
theorem zQR {s:Sl} {L:List Int} {rb:Nat} {r:Int} {Q:Sl→K} (hL:L.length < 1000000000) (h:∀ s',HG B (SlI s' (L.filter fun x=>!decide (x = r))::Γ) (Q s')) [p:Sep.Own rb Γ (blk rb (.cells [.int .i64 r].toArray ty_int (0,0))) Δ] :
  HG B (SlI s L::Γ) (zAt.call s (.func (.func 61) #[] #[.pointer (some ⟨rb,0,none⟩)]) Q):=by
 refine fun w hw=>zFc _ _ _ _ ?_
 refine hg hw ?_
 clear hw w
 show HG B _ (delF1 Tryz.prog zBU.call zKJ 0 (Value.int .i64) s (.func (.func 61) #[] #[.pointer (some ⟨rb,0,none⟩)]) Q)
 refine zTU (R:=fun _=>Γ) (L:=L) (c:=Value.int .i64) (fun (_:Unit) x=>decide (x = r)) (fun _ _=>()) () (fun _ _=>True) trivial (fun _ _ _ _=>trivial) (fun s fv Q w h=>zFg _ _ _ _ h) (fun _=>rfl) hL (fun Ξ g x C q _ _ hq=>?_) fun s' _=>?_
 ·refine zEY (cs:=[.pointer (some ⟨rb,0,none⟩)]) ?_
  refine fun w hw=>zHT _ _ _ _ ?_
  refine hg hw ?_
  clear hw w
  unfold zD2
  refine s_ld (b:=rb) (l:=[.int .i64 r]) (x:=r) ?_
  exact hq
 ·rw [zIz]
  exact h s'
theorem zT2 {r:Int} {Q:Sl→K} (hm:∀ w,Holds B Γ w→RdC w ms 3 (mks.flatMap mkL)) (hml:mks.length ≤ 1000) (h:∀ s,HG B (SlC zAs 3 s ((mks.filter fun m=>decide (m.home = r)).flatMap mkL)::Γ) (Q s)):HG B Γ (zCD.call (orV tag t ms).toArray r Q):=by
 refine fun w hw=>zNE _ _ _ _ ?_
 have hmn:ms.n = mks.length:=rd_len zCa (by omega) (hm w hw)
 refine hg (show Holds B (SlC zAs 3 ⟨none,0,0⟩ []::Γ) w from hw.nilSl _ _) ?_
 clear hw w
 unfold zCD
 refine s_new fun o2=>?_
 refine s_ld (b:=o2) (off:=9) (l:=orV tag t ms) (x:=ms) ?_
 refine s_loop (α:=Sl×Int) (ι:=Nat) (fun x i=>x.2 = (i:Int)∧i ≤ mks.length) (fun x i=>blk o2 (.cells (orV tag t ms).toArray zAO (0,0))::SlC zAs 3 x.1 (((mks.take i).filter fun m=>decide (m.home = r)).flatMap mkL)::Γ) (fun x i=>mks.length - i) 0 ⟨rfl,Nat.zero_le _⟩ ?_
 rintro k' ⟨o,_⟩ i ⟨rfl,hi⟩ hk'
 simp only at hi hk' ⊢
 unfold zCD.b1
 refine s_ite (fun hb=>?_) fun hb=>?_
 ·have hil:i < mks.length:=by simp only [decide_eq_true_eq] at hb; omega
  have hge:mks[i]? = some mks[i]:=List.getElem?_eq_getElem hil
  have htk:mks.take (i + 1) = mks.take i++[mks[i]]:=List.take_succ_eq_append_getElem hil
  generalize mks[i] = m at hge htk
  refine s_cap o fun a1 a2 a3 a4=>?_
  rw [zAL _ 3 zCa] at a1
  have hfl:((mks.take i).filter fun m=>decide (m.home = r)).length ≤ 1000:=by
   have:=List.length_filter_le (fun m:MkX=>decide (m.home = r)) (mks.take i)
   rw [List.length_take] at this
   omega
  refine s_idxN mkL zCa (fun w hw=>hm w hw.tail.tail) hge ?_
  refine s_new fun m6=>?_
  refine s_stN (b:=m6) (l':=mkL m) ?_
  refine s_ld (b:=m6) (off:=1) (l:=mkL m) (x:=m.home) ?_
  unfold zCD.s2
  refine s_ite (fun hc=>?_) fun hc=>?_
  ·refine s_ldN (b:=m6) (l:=mkL m) (l':=mkL m) ?_
   refine s_bld1 (cs:=mkL m) ?_
   refine s_new fun t20=>?_
   refine zBJ (s:=o) (esz:=3) (us:=mkL m) (blk_rd rfl) (by simp [flatV]) (by simp only; omega) fun o' _=>?_
   refine s_ai ?_
   rw [show ((mks.take i).filter fun m=>decide (m.home = r)).flatMap mkL++mkL m = ((mks.take (i + 1)).filter fun m=>decide (m.home = r)).flatMap mkL by rw [htk,List.filter_append]; simp [show m.home = r by simpa using hc]]
   exact s_end (hk' (o',(i:Int) + 1) (i + 1) ⟨by simp,hil⟩ (by omega))
  ·refine s_ai ?_
   rw [show (mks.take i).filter (fun m=>decide (m.home = r)) = (mks.take (i + 1)).filter fun m=>decide (m.home = r) by rw [htk,List.filter_append]; simp [show ¬ m.home = r by simpa using hc]]
   exact s_end (hk' (o,(i:Int) + 1) (i + 1) ⟨by simp,hil⟩ (by omega))
 ·have hil:i = mks.length:=by simp only [decide_eq_false_iff_not] at hb; omega
  rw [hil,List.take_length]
  exact s_end (h o)
theorem zSp {r:Int} {L:List Int} {q:Bool→K} (hL:L.length = n) (h:HG B (blk sd (.cells (sdL st l a b c).toArray zAp (0,0))::SlI b L::Γ) (q (decide (0 ≤ r∧r < n)))):HG B (blk sd (.cells (sdL st l a b c).toArray zAp (0,0))::SlI b L::Γ) (zBT.call (some ⟨sd,0,none⟩) r q):=by
 refine fun w hw=>zIH _ _ _ _ ?_
 refine hg hw ?_
 clear hw w
 refine s_cap b fun a1 a2 a3 a4=>?_
 rw [List.length_map,Nat.mul_one] at a1
 unfold zBT zBT.s1
 refine s_ite (fun h1=>?_) fun h1=>?_
 ·have h1':0 ≤ r:=by simpa using h1
  refine s_nn ?_
  refine s_ld (b:=sd) (off:=3) (l:=sdL st l a b c) (x:=b) ?_
  rw [← a1,hL,show decide (r < (n:Int)) = decide (0 ≤ r∧r < n) by simp [h1']]
  exact h
 ·have h1':¬ 0 ≤ r:=by simpa using h1
  rw [show decide (0 ≤ r∧r < n) = false by simp [h1']] at h
  exact h
theorem zMy {α:Type} {F G:α→HProp}:∀ {L:List α} {Γ:List HProp} {k:K},(∀ x ∈ L,∀ (Γ':List HProp) (k':K),HG B (G x::Γ') k'→HG B (F x::Γ') k')→HG B (Sep.stars (L.map G)::Γ) k→HG B (Sep.stars (L.map F)::Γ) k
 | [],Γ,k,_,h=>h
 | x::L,Γ,k,h1,h=>by
  refine s_flat (Δ:=F x::L.map F) ?_
  refine h1 x List.mem_cons_self _ _ ?_
  refine fun w hw=>?_
  refine (zMy (F:=F) (G:=G) (L:=L) (Γ:=G x::Γ) (fun y hy=>h1 y (List.mem_cons_of_mem _ hy)) ?_) w (Holds.flat.2 (hw.perm List.perm_middle.symm))
  exact fun w hw=>h w (Holds.flat.2 ((Holds.flat.1 hw).perm List.perm_middle))
theorem zPm {L:List FX} {N N':Nat} (hN:N ≤ N') (h:HG B (Sep.stars (L.map (filO N'))::Γ) k):HG B (Sep.stars (L.map (filO N))::Γ) k :=
 zMy (fun x _ Γ' k' h=>s_filN hN h) h
end
end Go.Proofs.YtdemfamgieonbaaGreat
namespace Go.Proofs.YtdemfamgieonbaaGreat
open Go Go.Sep Go.Sep.Bt
set_option maxRecDepth 100000
abbrev itV (kind ix:Int) (tag:TagM) (t:TxX) (ms:Sl):List Value:=.int .i64 kind::.int .i64 ix::orV tag t ms
abbrev tgB (tb:Nat) (tag:TagM):HProp:=blk tb (.cells (tagF tag).toArray zBz (0,0))
abbrev rgB (rb:Nat) (r:Int):HProp:=blk rb (.cells [.int .i64 r].toArray ty_int (0,0))
abbrev itB (ib:Nat) (kind ix:Int) (tag:TagM) (t:TxX) (ms:Sl):HProp:=blk ib (.cells (itV kind ix tag t ms).toArray zC9 (0,0))
theorem zOW {tag:TagM} {r:Int} {j:JobM} {C:List JobM} (hj:j.tag = tag):∀ {A:List JobM},(∀ y ∈ A,y.tag ≠ tag)→updN tag r (A++j::C) = A++{ j with need:=j.need.filter fun h=>!decide (h = r) }::C
 | [],_=>by simp [updN,hj]
 | x::A,h=>by
  rw [List.cons_append]
  unfold updN
  rw [if_neg (h x List.mem_cons_self),zOW hj fun y hy=>h y (List.mem_cons_of_mem _ hy)]
  rfl
section
variable {B:World} {Γ Δ:List HProp} {k:K} {sd st l n T:Nat} {S:SchM} {a b c:Sl} {F:List FX} {J:List JobX} {t:TxX} {mks:List MkX} {ms:Sl} {tag:TagM} {r kind ix:Int}
theorem run_hg {q:Sl→K} (ho:SchOk n T S F J) (hT:T ≤ 20000) (h:∀ (s:Sl) (D:List DcX),D.map eraD = (runJ n S).2→D.length ≤ T→HG B (SlC zB0 6 s (D.flatMap dcF)::Sep.stars (D.map dcO)::SchS sd n T (runJ n S).1::Γ) (q s)) :
  HG B (schF sd st l n T S a b c F J Γ) (zBo.call (some ⟨sd,0,none⟩) q):=by
 obtain ⟨K,hK,hKl⟩:=ho.gz
 have hjl:=ho.jl
 have hml:=ho.ml
 have hsj:=ho.jobs
 refine zT0 (T:=K) ho.ok hK (by omega) (by omega) fun s D c' J' hD hJ' hmem hlen hM hG=>?_
 unfold runJ at h
 rw [← hsj] at h
 have hjl2:(J.map eraJ).length = J.length:=List.length_map _
 rw [hjl2] at h
 refine s_end (Δ:=schF sd st l n T (⟨(workM n J.length (J.map eraJ) S.M S.G).1.2.1,(workM n J.length (J.map eraJ) S.M S.G).1.2.2,S.fils,S.fed,(workM n J.length (J.map eraJ) S.M S.G).1.1⟩:SchM) a b c' F J' (SlC zB0 6 s (D.flatMap dcF)::Sep.stars (D.map dcO)::Γ)) ?_
 refine zFN ⟨ho.n1,ho.n3,ho.fils,ho.rgs,ho.fedl,ho.fedr,hJ',fun j hj=>ho.ok j (hmem j hj),by omega,⟨K + D.length,hG,by omega⟩,by simp only; omega⟩ ?_
 exact s_end (h s D hD (by omega))
theorem s3_hg {A C:List JobX} {j:JobX} {K rb tb:Nat} {ms2:Sl} {mk2:List MkX} {q:Sl→Sep.K} (hT:T ≤ 20000) (hJ:J = A++j::C) (hA:∀ y ∈ A,y.tag ≠ tag) (hj:j.tag = tag) (ho:SchOk n T S F J) (hK:SzG K S.G) (hKl:K + J.length + mk2.length ≤ 40 * T)
  (hm:∀ w,Holds B Γ w→RdC w ms2 3 (mk2.flatMap mkL)) (hk:∀ m ∈ mk2,m.key.length < 1000000000)
  (h:∀ (s:Sl) (D:List DcX),D.map eraD = (runJ n ⟨S.M,enterM n S.M tag (mk2.map mM) S.G,S.fils,S.fed,updN tag r S.jobs⟩).2→D.length ≤ T→HG B (SlC zB0 6 s (D.flatMap dcF)::Sep.stars (D.map dcO)::SchS sd n T (runJ n ⟨S.M,enterM n S.M tag (mk2.map mM) S.G,S.fils,S.fed,updN tag r S.jobs⟩).1::Γ) (q s)) :
  HG B (schF sd st l n T S a b c F J (rgB rb r::tgB tb tag::Γ)) (zAF.s3 q ⟨sd,0,none⟩ ⟨rb,0,none⟩ ⟨tb,0,none⟩ ms2 (ptrJ j)):=by
 subst hJ
 have hoj:=ho.ok j (by simp)
 have hlen:(A++j::C).length = A.length + (C.length + 1):=by simp
 unfold zAF.s3
 refine s_nn ?_
 refine s_pick (Sep.stars ((A++j::C).map jobO)) ?_
 refine s_mid ?_
 refine s_job ?_
 refine s_ld (b:=j.b) (off:=10) (l:=jobL j) (x:=j.ns) ?_
 refine s_ownS j.ns ?_
 refine zQR (L:=j.need) (by have:=hoj.nl; omega) fun ns'=>?_
 refine s_st (b:=j.b) (off:=10) (l:=jobL j) (l':=jobL { j with ns:=ns',need:=j.need.filter fun x=>!decide (x = r) }) ?_ rfl rfl
 refine s_end (Δ:=jobC { j with ns:=ns',need:=j.need.filter fun x=>!decide (x = r) } (Sep.stars ((A++C).map jobO)::blk sd (.cells (sdL st l a b c).toArray zAp (0,0))::LocksR l S.G.1 S.G.2::StoreR st n S.M::SlC zB7 1 c (((A++j::C).map ptrJ).map Value.pointer)::SlC zBN 1 a ((F.map ptrF).map Value.pointer)::Sep.stars (F.map (filO T))::SlI b S.fed::tgB tb tag::Γ)) ?_
 refine zJy ?_
 refine zCS ?_
 rw [show ((A++j::C).map ptrJ).map Value.pointer = ((A++{ j with ns:=ns',need:=j.need.filter fun x=>!decide (x = r) }::C).map ptrJ).map Value.pointer by simp]
 refine s_dr ?_
 refine s_ld (b:=sd) (off:=1) (l:=sdL st l a b c) (x:=some ⟨l,0,none⟩) ?_
 refine s_ld (b:=sd) (l:=sdL st l a b c) (x:=some ⟨st,0,none⟩) ?_
 refine s_ldN (b:=tb) (l:=tagF tag) (l':=tagF tag) ?_
 refine s_own st ?_
 refine s_own l ?_
 refine zSR (L:=mk2.map mM) (N:=K) (fun w hw=>by rw [zT1]; exact hm w (hw.drops (Δ:=Γ))) (fun m hm=>by obtain ⟨x,hx,rfl⟩:=List.mem_map.1 hm; exact hk x hx) hK.gsz (by rw [List.length_map]; omega) ?_
 show HG B (LocksR l (enterM n S.M tag (mk2.map mM) S.G).1 (enterM n S.M tag (mk2.map mM) S.G).2::_) _
 generalize hj':({ j with ns:=ns',need:=j.need.filter fun x=>!decide (x = r) }:JobX) = j'
 have hje:eraJ j' = { eraJ j with need:=(eraJ j).need.filter fun h=>!decide (h = r) }:=by rw [← hj']; rfl
 have hup:(A++j'::C).map eraJ = updN tag r S.jobs:=by
  rw [← ho.jobs,zKo,zKo,hje,zOW (by exact hj) (fun y hy=>by obtain ⟨z,hz,rfl⟩:=List.mem_map.1 hy; exact hA z hz)]
 refine s_end (Δ:=schF sd st l n T (⟨S.M,enterM n S.M tag (mk2.map mM) S.G,S.fils,S.fed,updN tag r S.jobs⟩:SchM) a b c F (A++j'::C) Γ) ?_
 refine run_hg ⟨ho.n1,ho.n3,ho.fils,ho.rgs,ho.fedl,ho.fedr,hup,fun y hy=>?_,?_,⟨K + mk2.length,?_,?_⟩,?_⟩ hT h
 ·rcases List.mem_append.1 hy with hy | hy
  ·exact ho.ok y (List.mem_append_left _ hy)
  rcases List.mem_cons.1 hy with rfl | hy
  ·rw [← hj']
   exact ⟨hoj.ord,hoj.nn,by have:=hoj.nl; have:=List.length_filter_le (fun x=>!decide (x = r)) j.need; simp only; omega⟩
  ·exact ho.ok y (List.mem_append_right _ (List.mem_cons_of_mem _ hy))
 ·have:=ho.jl; simpa using this
 ·have:=hK.enters (n:=n) (S:=S.M) (tag:=tag) (L:=mk2.map mM)
  rwa [List.length_map] at this
 ·simp only [List.length_append,List.length_cons] at hKl ⊢; omega
 ·have:=ho.ml; simpa using this
theorem s2_hg {A C:List JobX} {j:JobX} {K rb tb ib:Nat} {q:Sl→Sep.K} (hT:T ≤ 20000) (hJ:J = A++j::C) (hA:∀ y ∈ A,y.tag ≠ tag) (hj:j.tag = tag) (ho:SchOk n T S F J) (hK:SzG K S.G) (hKl:K + J.length + mks.length ≤ 40 * T) (hml:mks.length ≤ 1000)
  (hm:∀ w,Holds B Γ w→RdC w ms 3 (mks.flatMap mkL)) (hk:∀ m ∈ mks,m.key.length < 1000000000)
  (h:∀ (s:Sl) (D:List DcX),D.map eraD = (runJ n (entS n r kind tag mks S.jobs S)).2→D.length ≤ T→HG B (SlC zB0 6 s (D.flatMap dcF)::Sep.stars (D.map dcO)::SchS sd n T (runJ n (entS n r kind tag mks S.jobs S)).1::Γ) (q s)) :
  HG B (schF sd st l n T S a b c F J (rgB rb r::tgB tb tag::itB ib kind ix tag t ms::Γ)) (zAF.s2 q ⟨sd,0,none⟩ ⟨rb,0,none⟩ ⟨ib,0,none⟩ ⟨tb,0,none⟩ ms (ptrJ j)):=by
 unfold zAF.s2
 unfold entS marksIn at h
 refine s_ld (b:=ib) (l:=itV kind ix tag t ms) (x:=kind) ?_
 refine s_ite (fun h1=>?_) fun h1=>?_
 ·have h1':kind = 2:=by simpa using h1
  simp only [h1',if_true] at h
  refine s_ldN (b:=ib) (off:=2) (l:=itV kind ix tag t ms) (l':=orV tag t ms) ?_
  refine s_ld (b:=rb) (l:=[.int .i64 r]) (x:=r) ?_
  refine zT2 (mks:=mks) (fun w hw=>hm w (hw.drops (Δ:=Γ))) hml fun s=>?_
  have hfl:=List.length_filter_le (fun m:MkX=>decide (m.home = r)) mks
  refine s_end (Δ:=schF sd st l n T S a b c F J (rgB rb r::tgB tb tag::SlC zAs 3 s ((mks.filter fun m=>decide (m.home = r)).flatMap mkL)::Γ)) ?_
  refine s3_hg (mk2:=mks.filter fun m=>decide (m.home = r)) hT hJ hA hj ho hK (by omega) (fun w hw=>(own_rd (s:=s) hw).1) (fun m hm=>hk m (List.mem_filter.1 hm).1) fun s2 D hD hDl=>?_
  exact s_end (h s2 D hD hDl)
 ·have h1':¬ kind = 2:=by simpa using h1
  simp only [h1',if_false] at h
  refine s_end (Δ:=schF sd st l n T S a b c F J (rgB rb r::tgB tb tag::Γ)) ?_
  exact s3_hg (mk2:=mks) hT hJ hA hj ho hK hKl hm hk h
theorem SchOk.up (ho:SchOk n T S F J):SchOk n (T + 1) S F J:=by
 obtain ⟨K,hK,hKl⟩:=ho.gz
 have:=ho.jl
 have:=ho.ml
 exact ⟨ho.n1,ho.n3,ho.fils,ho.rgs,ho.fedl,fun x hx=>by have:=ho.fedr x hx; omega,ho.jobs,ho.ok,by omega,⟨K,hK,by omega⟩,by omega⟩
theorem sch_up (h:HG B (SchS sd n (T + 1) S::Γ) k):HG B (SchS sd n T S::Γ) k:=s_sch fun st l a b c F J ho=>by
 refine s_pick (Sep.stars (F.map (filO T))) ?_
 refine zPm (N':=T + 1) (by omega) ?_
 refine s_end (Δ:=schF sd st l n (T + 1) S a b c F J Γ) ?_
 exact zFN ho.up h
theorem s_nilD (h:HG B (SlC zB0 6 ⟨none,0,0⟩ (([]:List DcX).flatMap dcF)::Sep.stars (([]:List DcX).map dcO)::Γ) k):HG B Γ k:=fun w hw=>h w ((hw.starsNil).nilSl _ _)
theorem fil_at (ho:SchOk n T S F J) (h:0 ≤ r∧r < n):∃ FA xb xf FC,F = FA++⟨xb,r,xf⟩::FC∧FA.length = r.toNat∧S.fils.getD r.toNat ⟨-1,[]⟩ = xf∧∀ f',(FA++⟨xb,r,f'⟩::FC).map FX.f = S.fils.set r.toNat f'∧(FA++(⟨xb,r,f'⟩:FX)::FC).map FX.rg = F.map FX.rg:=by
 have hl:F.length = n:=by have:=congrArg List.length ho.rgs; simpa using this
 have hi:r.toNat < F.length:=by omega
 have e:=List.take_append_drop r.toNat F
 rw [List.drop_eq_getElem_cons hi] at e
 have hrg:F[r.toNat].rg = r:=by
  have h1:(F.map FX.rg)[r.toNat]? = some F[r.toNat].rg:=by rw [List.getElem?_map,List.getElem?_eq_getElem hi]; rfl
  rw [ho.rgs,List.getElem?_map,List.getElem?_range (by omega)] at h1
  simp only [Option.map_some,Option.some.injEq] at h1
  omega
 generalize F[r.toNat] = x at e hrg
 obtain ⟨xb,xr,xf⟩:=x
 simp only at hrg
 subst hrg
 have hl2:(F.take xr.toNat).length = xr.toNat:=by rw [List.length_take]; omega
 generalize F.take xr.toNat = FA at e hl2
 generalize F.drop (xr.toNat + 1) = FC at e
 refine ⟨FA,xb,xf,FC,e.symm,hl2,?_,fun f'=>⟨?_,by rw [← e]; simp⟩⟩
 ·rw [← ho.fils,← e,List.map_append,List.getD_eq_getElem?_getD,List.getElem?_append_right (by simp [hl2])]
  simp [hl2]
 ·rw [← ho.fils,← e,List.map_append,List.map_append,List.map_cons,List.map_cons,show xr.toNat = (FA.map FX.f).length by simp [hl2]]
  simp
theorem zT3 {q:Sl→Sep.K} (hT:T + 1 ≤ 20000) (hr:∀ w,Holds B Γ w→txRd w t) (hm:∀ w,Holds B Γ w→RdC w ms 3 (mks.flatMap mkL)) (hnn:∀ x ∈ t.ops,-9223372036854775808 ≤ x.1.n∧x.1.n ≤ 9223372036854775807)
  (hg0:0 ≤ tag.epoch∧tag.epoch < 18446744073709551616) (hg1:0 ≤ tag.seq∧tag.seq < 18446744073709551616) (hmk:∀ m ∈ mks,0 ≤ m.cnt∧m.cnt < 18446744073709551616)
  (hl:t.reads.length ≤ 1000∧t.writes.length ≤ 1000∧t.ops.length ≤ 1000) (hml:mks.length ≤ 1000)
  (h:∀ (s:Sl) (D:List DcX),D.map eraD = (feedM n r kind ix tag t mks S).2→D.length ≤ T + 1→HG B (SlC zB0 6 s (D.flatMap dcF)::Sep.stars (D.map dcO)::SchS sd n (T + 1) (feedM n r kind ix tag t mks S).1::Γ) (q s)) :
  HG B (SchS sd n T S::Γ) (zAF.call (some ⟨sd,0,none⟩) r (itV kind ix tag t ms).toArray q):=by
 refine fun w hw=>zIc _ _ _ _ _ ?_
 refine hg hw ?_
 clear hw w
 refine s_sch fun st l a b c F J ho=>?_
 unfold zAF
 refine s_new fun rb=>?_
 refine s_new fun ib=>?_
 refine s_ldN (b:=ib) (l:=itV kind ix tag t ms) (l':=itV kind ix tag t ms) ?_
 have bad:¬ feedOk n r kind ix tag t mks→HG B (itB ib kind ix tag t ms::rgB rb r::schF sd st l n T S a b c F J Γ) (zAF.s1 q (some ⟨sd,0,none⟩) ⟨rb,0,none⟩ ⟨ib,0,none⟩ true):=fun hb=>by
  unfold zAF.s1
  refine s_t ?_
  unfold feedM at h
  rw [if_neg hb] at h
  refine s_end (Δ:=schF sd st l n T S a b c F J Γ) ?_
  refine zFN ho ?_
  refine sch_up ?_
  refine s_nilD ?_
  exact h ⟨none,0,0⟩ [] rfl (by simp)
 refine zOU (mks:=mks) hg0 hg1 hmk (fun w hw=>hr w (hw.drops (Δ:=Γ))) (fun w hw=>hm w (hw.drops (Δ:=Γ))) hl hml (fun hb=>?_) fun hi h3 s0=>?_
 ·refine s_dr ?_
  refine s_wsD [itB ib kind ix tag t ms,rgB rb r] ?_
  refine s_t ?_
  exact bad fun hh=>hb ⟨hh.1,hh.2.1⟩
 refine s_dr ?_
 refine s_wsD [itB ib kind ix tag t ms,rgB rb r,blk sd (.cells (sdL st l a b c).toArray zAp (0,0))] ?_
 refine s_f ?_
 refine s_ldS (b:=rb) (l:=[.int .i64 r]) (x:=r) ?_
 refine s_ownS b ?_
 refine s_own sd ?_
 refine zSp (n:=n) ho.fedl ?_
 refine s_sv ?_
 by_cases hrn:0 ≤ r∧r < n
 rotate_left
 ·rw [decide_eq_false hrn]
  refine s_t ?_
  exact s_end (bad fun hh=>hrn hh.2.2.1)
 rw [decide_eq_true hrn]
 refine s_f ?_
 refine s_nn ?_
 refine s_ldNS (b:=ib) (off:=2) (l:=itV kind ix tag t ms) (l':=orV tag t ms) ?_
 refine s_ldS (b:=sd) (off:=3) (l:=sdL st l a b c) (x:=b) ?_
 refine s_cap b fun a1 a2 a3 a4=>?_
 rw [List.length_map,Nat.mul_one,ho.fedl] at a1
 rw [← a1]
 refine zKI (mks:=mks) (fun w hw=>hr w (hw.drops (Δ:=Γ))) (fun w hw=>hm w (hw.drops (Δ:=Γ))) hl (by omega) ?_
 by_cases hon:OrdOk (n:Int) tag t mks
 rotate_left
 ·rw [if_neg hon]
  exact s_end (bad fun hh=>hon hh.2.2.2)
 rw [if_pos hon]
 have hok:feedOk n r kind ix tag t mks:=⟨hi,h3,hrn,hon⟩
 unfold feedM at h
 rw [if_pos hok] at h
 obtain ⟨k1,k2,k3,k4⟩:=zFf hon.1
 have hmks:=hon.2.2.1
 have hkl:=zFH (t.reads++t.writes)
 have hml8:mks.length ≤ 8:=by
  have:=congrArg List.length hmks
  rw [List.length_map] at this
  rw [List.length_append] at hkl
  omega
 have hkk:∀ m ∈ mks,m.key.length < 1000000000:=fun m hm=>by
  have h1:m.key ∈ keysT (t.reads++t.writes):=by rw [← hmks]; exact List.mem_map.2 ⟨m,hm,rfl⟩
  have:=k1 _ (zGz.1 h1)
  omega
 obtain ⟨FA,xb,xf,FC,rfl,hFl,hgf,hset⟩:=fil_at ho hrn
 obtain ⟨K,hK,hKl⟩:=ho.gz
 have hjl:=ho.jl
 have hmlM:=ho.ml
 show HG B _ (zAF.s1 q (some ⟨sd,0,none⟩) ⟨rb,0,none⟩ ⟨ib,0,none⟩ false)
 unfold zAF.s1
 refine s_f ?_
 refine s_dr ?_
 refine s_nn ?_
 refine s_ld (b:=sd) (off:=3) (l:=sdL st l a b c) (x:=b) ?_
 refine s_ld (b:=rb) (l:=[.int .i64 r]) (x:=r) ?_
 have hri:r.toNat < S.fed.length:=by rw [ho.fedl]; omega
 have hge:S.fed[r.toNat]? = some (S.fed.getD r.toNat 0):=by rw [List.getD_eq_getElem?_getD,List.getElem?_eq_getElem hri]; rfl
 have hfx:=ho.fedr (S.fed.getD r.toNat 0) (List.mem_of_getElem? hge)
 refine s_idx1 (L:=S.fed) (c:=Value.int .i64) (j:=r.toNat) (x:=S.fed.getD r.toNat 0) (fun w hw=>(own_rd (s:=b) hw).1) hge ?_ (by omega)
 refine s_ai ?_
 refine s_idx (s:=b) (i:=r.toNat) ?_ (by omega) (by omega)
 rw [← add0 (elA b r.toNat 1)]
 refine s_stE (s:=b) ?_ (by simp only [List.length_map]; omega)
 rw [show r.toNat * 1 + 0 = r.toNat by omega,← List.map_set]
 refine s_dr ?_
 refine s_ld (b:=sd) (off:=2) (l:=sdL st l a b c) (x:=a) ?_
 refine s_ld (b:=rb) (l:=[.int .i64 r]) (x:=r) ?_
 refine s_idx1 (c:=Value.pointer) (L:=(FA++⟨xb,r,xf⟩::FC).map ptrF) (j:=r.toNat) (x:=ptrF ⟨xb,r,xf⟩) (fun w hw=>(own_rd (s:=a) hw).1) (by rw [← hFl]; simp) ?_ (by omega)
 refine s_ldN (b:=ib) (l:=itV kind ix tag t ms) (l':=itV kind ix tag t ms) ?_
 refine s_pick (Sep.stars ((FA++(⟨xb,r,xf⟩:FX)::FC).map (filO T))) ?_
 refine s_mid ?_
 refine zQN (fb:=xb) (rg:=r) (f:=xf) (N:=T) (t:=t) (mks:=mks) (fun w hw=>hm w (hw.drops (Δ:=Γ))) hml (by omega) ?_
 have hin:filIn r kind ix tag t mks S = itemIn r xf kind ix tag (homesM mks) (sngl t mks):=by unfold filIn; rw [hgf]
 rw [← hin]
 have ho1:SchOk n (T + 1) (fedS r kind ix tag t mks S) (FA++⟨xb,r,(filIn r kind ix tag t mks S).1⟩::FC) J:=by
  refine ⟨ho.n1,ho.n3,(hset _).1,by rw [(hset _).2]; exact ho.rgs,by simp [fedS,ho.fedl],fun x hx=>?_,ho.jobs,ho.ok,by omega,⟨K,hK,by omega⟩,by show S.M.length + _ ≤ _; omega⟩
  rcases List.mem_or_eq_of_mem_set hx with hx | rfl
  ·have:=ho.fedr x hx; omega
  ·omega
 refine s_pick (Sep.stars ((FA++FC).map (filO T))) ?_
 refine zPm (N':=T + 1) (by omega) ?_
 refine s_end (Δ:=FilR xb r (T + 1) (filIn r kind ix tag t mks S).1::Sep.stars ((FA++FC).map (filO (T + 1)))::itB ib kind ix tag t ms::rgB rb r::blk sd (.cells (sdL st l a b c).toArray zAp (0,0))::LocksR l S.G.1 S.G.2::StoreR st n S.M::SlC zB7 1 c ((J.map ptrJ).map Value.pointer)::Sep.stars (J.map jobO)::SlC zBN 1 a (((FA++⟨xb,r,xf⟩::FC).map ptrF).map Value.pointer)::SlI b (S.fed.set r.toNat (S.fed.getD r.toNat 0 + 1))::Γ) ?_
 show HG B (filO (T + 1) ⟨xb,r,(filIn r kind ix tag t mks S).1⟩::_) _
 refine zCS ?_
 rw [show ((FA++(⟨xb,r,xf⟩:FX)::FC).map ptrF).map Value.pointer = ((FA++(⟨xb,r,(filIn r kind ix tag t mks S).1⟩:FX)::FC).map ptrF).map Value.pointer by simp]
 generalize hF':FA++(⟨xb,r,(filIn r kind ix tag t mks S).1⟩:FX)::FC = F' at ho1
 unfold feedG at h
 by_cases hin2:(filIn r kind ix tag t mks S).2 = false
 ·rw [if_pos hin2] at h
  rw [hin2]
  refine s_t ?_
  refine s_end (Δ:=schF sd st l n (T + 1) (fedS r kind ix tag t mks S) a b c F' J Γ) ?_
  refine zFN ho1 ?_
  refine s_nilD ?_
  exact h ⟨none,0,0⟩ [] rfl (by simp)
 rw [if_neg hin2] at h
 rw [Bool.not_eq_false] at hin2
 rw [hin2]
 refine s_f ?_
 refine s_dr ?_
 refine s_wsD [itB ib kind ix tag t ms] ?_
 refine s_ldNS (b:=ib) (off:=2) (l:=itV kind ix tag t ms) (l':=tagF tag) ?_
 refine s_ldS (b:=ib) (off:=11) (l:=itV kind ix tag t ms) (x:=ms) ?_
 refine s_new fun tb=>?_
 refine s_sv ?_
 refine s_stN (b:=tb) (l':=tagF tag) ?_
 refine s_sv ?_
 refine s_ldN (b:=tb) (l:=tagF tag) (l':=tagF tag) ?_
 have S2:∀ {J2 A:List JobX} {j:JobX} {C:List JobX} {c2:Sl} {S2:SchM},J2 = A++j::C→(∀ y ∈ A,y.tag ≠ tag)→j.tag = tag→S2.G = S.G→SchOk n (T + 1) S2 F' J2→K + J2.length + mks.length ≤ 40 * (T + 1) →
   (∀ (s:Sl) (D:List DcX),D.map eraD = (runJ n (entS n r kind tag mks S2.jobs S2)).2→D.length ≤ T + 1→HG B (SlC zB0 6 s (D.flatMap dcF)::Sep.stars (D.map dcO)::SchS sd n (T + 1) (runJ n (entS n r kind tag mks S2.jobs S2)).1::Γ) (q s)) →
   HG B (schF sd st l n (T + 1) S2 a b c2 F' J2 (rgB rb r::tgB tb tag::itB ib kind ix tag t ms::Γ)) (zAF.s2 q ⟨sd,0,none⟩ ⟨rb,0,none⟩ ⟨ib,0,none⟩ ⟨tb,0,none⟩ ms (ptrJ j)):=fun {J2 A j C c2 S2} hJ2 hA hj hG ho2 hKl2 hq =>
  s2_hg hT hJ2 hA hj ho2 (by rw [hG]; exact hK) hKl2 hml hm hkk hq
 have hjm:(∃ j ∈ S.jobs,j.tag = tag) ↔ ∃ j ∈ J,j.tag = tag:=by
  rw [← ho.jobs]
  constructor
  ·rintro ⟨x,hx,e⟩
   obtain ⟨y,hy,rfl⟩:=List.mem_map.1 hx
   exact ⟨y,hy,e⟩
  ·rintro ⟨y,hy,e⟩
   exact ⟨eraJ y,List.mem_map.2 ⟨y,hy,rfl⟩,e⟩
 refine s_end (Δ:=schP sd st l n S.M S.G a b c J (SlC zBN 1 a ((F'.map ptrF).map Value.pointer)::Sep.stars (F'.map (filO (T + 1)))::SlI b (S.fed.set r.toNat (S.fed.getD r.toNat 0 + 1))::rgB rb r::tgB tb tag::itB ib kind ix tag t ms::Γ)) ?_
 refine zSo (by omega) (fun hno=>?_) fun A j C hJ hA hj=>?_
 ·have hno':¬ ∃ j ∈ S.jobs,j.tag = tag:=fun hh=>by obtain ⟨j,hj,e⟩:=hjm.1 hh; exact hno j hj e
  rw [if_neg hno'] at h
  refine s_f ?_ (by rfl)
  unfold zAF.s4
  refine s_f ?_
  refine s_t ?_ (by rfl)
  refine s_dr ?_
  refine s_wsD [itB ib kind ix tag t ms] ?_
  refine s_ldNS (b:=ib) (off:=2) (l:=itV kind ix tag t ms) (l':=orV tag t ms) ?_
  refine s_ldNS (b:=ib) (off:=2) (l:=itV kind ix tag t ms) (l':=orV tag t ms) ?_
  refine zOq (t:=t) (mks:=mks) (fun w hw=>hr w (hw.drops (Δ:=Γ))) (fun w hw=>hm w (hw.drops (Δ:=Γ))) ⟨hl.1,hl.2.1,hl.2.2,fun x hx=>by have:=(k4 x hx).2; omega⟩ hml fun t' ms' ht'=>?_
  refine s_sv ?_
  refine zKn (pre:=tagF tag++txL t) (L:=mks) rfl (fun w hw=>hm w (hw.drops (Δ:=Γ))) (by omega) fun ns=>?_
  refine s_nx ?_
  refine s_new fun jb=>?_
  refine s_ld (b:=sd) (off:=4) (l:=sdL st l a b c) (x:=c) ?_
  refine s_cap c fun a1 a2 a3 a4=>?_
  rw [List.length_map,List.length_map,Nat.mul_one] at a1
  refine s_app1 (s:=c) (esz:=1) (m:=1) (us:=[.pointer (some ⟨jb,0,none⟩)]) (fun c2 _=>?_)
  rw [show (J.map ptrJ).map Value.pointer++[.pointer (some ⟨jb,0,none⟩)] = ((J++[(⟨jb,tag,t',ms',mks,ns,homesM mks⟩:JobX)]).map ptrJ).map Value.pointer by simp]
  refine s_st (b:=sd) (off:=4) (l:=sdL st l a b c) (l':=sdL st l a b c2) ?_ rfl rfl
  refine s_end (Δ:=jobC ⟨jb,tag,t',ms',mks,ns,homesM mks⟩ (Sep.stars (J.map jobO)::blk sd (.cells (sdL st l a b c2).toArray zAp (0,0))::LocksR l S.G.1 S.G.2::StoreR st n S.M::SlC zB7 1 c2 (((J++[(⟨jb,tag,t',ms',mks,ns,homesM mks⟩:JobX)]).map ptrJ).map Value.pointer)::SlC zBN 1 a ((F'.map ptrF).map Value.pointer)::Sep.stars (F'.map (filO (T + 1)))::SlI b (S.fed.set r.toNat (S.fed.getD r.toNat 0 + 1))::rgB rb r::tgB tb tag::itB ib kind ix tag t ms::Γ)) ?_
  refine zJy ?_
  refine zMF ?_
  refine s_end (Δ:=schF sd st l n (T + 1) (⟨S.M,S.G,S.fils.set r.toNat (filIn r kind ix tag t mks S).1,S.fed.set r.toNat (S.fed.getD r.toNat 0 + 1),S.jobs++[⟨tag,canX t,mks,homesM mks⟩]⟩:SchM) a b c2 F' (J++[(⟨jb,tag,t',ms',mks,ns,homesM mks⟩:JobX)]) (rgB rb r::tgB tb tag::itB ib kind ix tag t ms::Γ)) ?_
  have hhl:(homesM mks).length ≤ 1000:=by
   have h1:=zGy (sortI (if mks.length = 0 then [0] else mks.map MkX.home))
   rw [zJK] at h1
   have h2:(if mks.length = 0 then [0] else mks.map MkX.home).length ≤ 1000:=by split <;> simp <;> omega
   unfold homesM
   omega
  refine S2 (A:=J) (j:=⟨jb,tag,t',ms',mks,ns,homesM mks⟩) (C:=[]) rfl hno rfl rfl ⟨ho1.n1,ho1.n3,ho1.fils,ho1.rgs,ho1.fedl,ho1.fedr,?_,fun y hy=>?_,by simp; omega,⟨K,hK,by simp; omega⟩,by simp; omega⟩ (by simp; omega) h
  ·rw [List.map_append,ho.jobs]
   simp only [List.map_cons,List.map_nil,eraJ]
   rw [zRP ht']
  ·rcases List.mem_append.1 hy with hy | hy
   ·exact ho.ok y hy
   ·rw [List.mem_singleton.1 hy]
    obtain ⟨g1,g2,g3,g4,g5⟩:=ht'
    refine ⟨⟨by rw [zIF ⟨g1,g2,g3,g4,g5⟩]; exact hon.1,hon.2.1,by simp only; rw [g3,g4]; exact hon.2.2⟩,fun x hx=>?_,hhl⟩
    have h1:x.1 ∈ t.ops.map Prod.fst:=by rw [← g5]; exact List.mem_map.2 ⟨x,hx,rfl⟩
    obtain ⟨y,hy2,e⟩:=List.mem_map.1 h1
    rw [← e]; exact hnn y hy2
 ·have hye:∃ j ∈ S.jobs,j.tag = tag:=hjm.2 ⟨j,by rw [hJ]; simp,hj⟩
  rw [if_pos hye] at h
  refine s_t ?_ (by rfl)
  refine s_ld (b:=ib) (l:=itV kind ix tag t ms) (x:=kind) ?_
  unfold zAF.s4
  refine s_ite (fun h1=>?_) fun h1=>?_
  ·have h1':kind = 1:=by simpa using h1
   simp only [h1',if_true] at h
   refine s_end (Δ:=schF sd st l n (T + 1) (fedS r kind ix tag t mks S) a b c F' J Γ) ?_
   rw [h1'] at ho1 ⊢
   exact run_hg ho1 hT h
  ·have h1':¬ kind = 1:=by simpa using h1
   simp only [h1',if_false] at h
   refine s_f ?_ (by rfl)
   refine s_end (Δ:=schF sd st l n (T + 1) (fedS r kind ix tag t mks S) a b c F' J (rgB rb r::tgB tb tag::itB ib kind ix tag t ms::Γ)) ?_
   exact S2 hJ hA hj rfl ho1 (by omega) h
end
end Go.Proofs.YtdemfamgieonbaaGreat
namespace Go.Sep
open Go Go.RowKit
section
variable {P:Program} {B:World} {Γ Δ:List HProp} {l:Nat} {r:Loop} {J:Exit} {k a j:K}
end
end Go.Sep
namespace Go.Sep
open Go Go.RowKit
namespace Bt
structure BtW (κ:Type) extends BtT κ where
 fAll:Nat
 tPT:Nat
 nwalkC:Option Addr→Option Addr→Value→(Bool→K)→K
section
variable {κ:Type}
end
section
variable {κ:Type} {G:BtW κ} {c:κ→κ→Int} {B:World} {Γ Δ:List HProp}
end
end Bt
end Go.Sep
namespace Go.Proofs.YtdemfamgieonbaaGreat
open Go Go.Sep Go.Sep.Bt
set_option maxRecDepth 100000
def rowsF (o:Nat) (X:List RecX) (i:Nat):HProp:=ex fun s=>ex fun Y:List RecX=>Sep.stars [pur (Y.map recM = (X.take i).map recM),blk o (.cells [s.val].toArray zNk (0,0)),SlC zC0 5 s (Y.flatMap rowF6),Sep.stars (Y.map recB),Sep.stars (X.map recB)]
section
variable {B:World} {Γ Δ:List HProp} {o i st n:Nat} {M:Recs} {X:List RecX} {k:K}
instance (priority:=high) zUS:Sep.Own o (rowsF o X i::Γ) (rowsF o X i) Γ:=⟨.refl _⟩
end
end Go.Proofs.YtdemfamgieonbaaGreat
namespace Go.Proofs.YtdemfamgieonbaaGreat
open Go Go.Sep Go.Sep.Bt
set_option maxRecDepth 100000
abbrev newM (n:Nat):SchM:=⟨[],([],fun _=>false),List.replicate n ⟨-1,[]⟩,List.replicate n 0,[]⟩
section
variable {B:World} {Γ Δ:List HProp} {k:K} {sd n T:Nat} {S:SchM} {t:TxX} {tag:TagM}
theorem zSq {z:Value} {m:Nat} {Q:Sl→K} {T E by':Nat} (hT:Tryz.prog.underlying T = some (.slice E)) (hE:(Tryz.prog.info? E).map (fun i=>(i.zero,i.size,i.bytes)) = some (some z,1,by')) (hz:z.cells = #[z]) (hb:by' * m ≤ 281474976710656) (hm:m ≤ 9223372036854775807)
  (h:∀ s,s.n = m→HG B (SlC E 1 s (List.replicate m z)::Γ) (Q s)):HG B Γ (Do Tryz.prog (Instr.makeSlice T (.int .i64 (m:Int)) (.int .i64 (m:Int))) Sl.val Q):=fun w hw=>by
 have h1:=Go.run_make_row' (P:=Tryz.prog) T E z by' hT hE hz .i64 .i64 m hb hm w
 refine ⟨⟨some ⟨w.heap.size,0,none⟩,m,m⟩,_,h1,h ⟨some ⟨w.heap.size,0,none⟩,m,m⟩ rfl _ ?_⟩
 have h2:=hw.alloc (.cells (madeCells #[z] m) E (0,0))
 exact h2.imp (zDk (by
  apply List.ext_getElem?
  intro i
  by_cases hi:i < m <;> simp [madeCells,List.getElem?_range,List.getElem?_replicate,hi,Nat.mod_one]) (by simp))
theorem zRQ {Q:Option Addr→Int→K} (h1:1 ≤ n) (h3:n ≤ 3) (h:∀ sd,HG B (SchS sd n 0 (newM n)::Γ) (Q (some ⟨sd,0,none⟩) 0)):HG B Γ (zBZ.call (n:Int) Q):=by
 refine fun w hw=>zI9 _ _ _ ?_
 refine hg hw ?_
 clear hw w
 unfold zBZ
 refine zIW h1 h3 fun st=>?_
 refine s_f ?_
 refine s_dr ?_
 have rest:∀ (l:Nat) (fd:Sl),HG B (LocksR l [] (fun _=>false)::SlI fd (List.replicate n 0)::StoreR st n []::Γ) (New zAp [.pointer (some ⟨st,0,none⟩),.pointer (some ⟨l,0,none⟩),Sl.val ⟨none,0,0⟩,fd.val,Sl.val ⟨none,0,0⟩].toArray fun t21=>zBZ.s1 Q (n:Int) (some t21)):=fun l fd=>by
  refine s_new fun sd=>?_
  unfold zBZ.s1
  refine fun w hw=>hg (show Holds B (SlC zBN 1 ⟨none,0,0⟩ ((([]:List FX).map ptrF).map Value.pointer)::Sep.stars (([]:List FX).map (filO 0))::SlC zB7 1 ⟨none,0,0⟩ ((([]:List JobX).map ptrJ).map Value.pointer)::Sep.stars (([]:List JobX).map jobO)::_) w from (((hw.starsNil).nilSl _ _).starsNil).nilSl _ _) ?_
  clear hw w
  refine s_end (Δ:=schF sd st l n 0 (newM n) ⟨none,0,0⟩ fd ⟨none,0,0⟩ [] [] Γ) ?_
  refine s_loop (α:=Int) (ι:=Sl×List FX) (fun x i=>x = (i.2.length:Int)∧i.2.length ≤ n∧i.2.map FX.f = List.replicate i.2.length ⟨-1,[]⟩∧i.2.map FX.rg = (List.range i.2.length).map fun j:Nat=>(j:Int)) (fun x i=>schF sd st l n 0 (newM n) i.1 fd ⟨none,0,0⟩ i.2 [] Γ) (fun x i=>n - i.2.length) (⟨none,0,0⟩,[]) ⟨rfl,Nat.zero_le _,rfl,rfl⟩ ?_
  rintro k' _ ⟨fs,F⟩ ⟨rfl,hi,hF1,hF2⟩ hk'
  simp only at hi hF1 hF2 hk' ⊢
  unfold zBZ.b2
  refine s_ite (fun hb=>?_) fun hb=>?_
  ·have hin:F.length < n:=by simp only [decide_eq_true_eq] at hb; omega
   refine s_cap fs fun a1 a2 a3 a4=>?_
   rw [List.length_map,List.length_map,Nat.mul_one] at a1
   refine s_dr ?_
   refine s_wsD [blk sd (.cells (sdL st l fs fd ⟨none,0,0⟩).toArray zAp (0,0))] ?_
   refine s_nn ?_
   refine s_ldS (b:=sd) (off:=2) (l:=sdL st l fs fd ⟨none,0,0⟩) (x:=fs) ?_
   refine zRN fun fp=>?_
   refine s_sv ?_
   refine s_new fun t33=>?_
   refine s_sv ?_
   refine zBJ (s:=fs) (us:=[.pointer (some ⟨fp,0,none⟩)]) (blk_rd rfl) (by intro v hv; rw [List.mem_singleton.1 hv]; rfl) (by simp only; omega) fun fs2 hfs2=>?_
   refine s_st (b:=sd) (off:=2) (l:=sdL st l fs fd ⟨none,0,0⟩) (l':=sdL st l fs2 fd ⟨none,0,0⟩) ?_ rfl rfl
   refine s_ai ?_
   rw [show (F.map ptrF).map Value.pointer++[.pointer (some ⟨fp,0,none⟩)] = ((F++[(⟨fp,(F.length:Int),⟨-1,[]⟩⟩:FX)]).map ptrF).map Value.pointer by simp]
   refine s_end (Δ:=FilR fp (F.length:Int) 0 ⟨-1,[]⟩::Sep.stars (F.map (filO 0))::blk sd (.cells (sdL st l fs2 fd ⟨none,0,0⟩).toArray zAp (0,0))::LocksR l [] (fun _=>false)::StoreR st n []::SlC zB7 1 ⟨none,0,0⟩ ((([]:List JobX).map ptrJ).map Value.pointer)::Sep.stars (([]:List JobX).map jobO)::SlC zBN 1 fs2 (((F++[(⟨fp,(F.length:Int),⟨-1,[]⟩⟩:FX)]).map ptrF).map Value.pointer)::SlI fd (List.replicate n 0)::Γ) ?_
   show HG B (filO 0 ⟨fp,(F.length:Int),⟨-1,[]⟩⟩::_) _
   refine zMF ?_
   refine s_end (hk' ((F.length:Int) + 1) (fs2,F++[⟨fp,(F.length:Int),⟨-1,[]⟩⟩]) ⟨by simp,by simp; omega,?_,?_⟩ (by simp; omega))
   ·simp only [List.map_append,hF1,List.map_cons,List.map_nil,List.length_append,List.length_cons,List.length_nil]
    rw [List.replicate_succ']
   ·simp only [List.map_append,hF2,List.map_cons,List.map_nil,List.length_append,List.length_cons,List.length_nil]
    rw [List.range_succ,List.map_append]; rfl
  ·have hil:F.length = n:=by simp only [decide_eq_false_iff_not] at hb; omega
   rw [hil] at hF1 hF2
   refine zFN ⟨h1,h3,hF1,hF2,by simp [newM],fun x hx=>?_,rfl,by simp,by simp,⟨0,⟨by simp [newM],by simp [newM]⟩,by simp⟩,by simp [newM]⟩ (h sd)
   have:=List.eq_of_mem_replicate hx
   omega
 have mk:∀ {Δ:List HProp} {Q':Sl→K},(∀ s,HG B (SlI s (List.replicate n 0)::Δ) (Q' s))→HG B Δ (Do Tryz.prog (Instr.makeSlice zKJ (.int .i64 (n:Int)) (.int .i64 (n:Int))) Sl.val Q'):=fun {Δ Q'} hq =>
  zSq (by':=8) (z:=.int .i64 0) (by kernel_rfl) (by kernel_rfl) rfl (by omega) (by omega) fun s _=>by
   have:=hq s
   rw [SlI,List.map_replicate] at this
   exact this
 refine s_all2 ?_ ?_
 ·refine zKH fun l=>?_
  refine mk fun fd=>?_
  exact s_end (rest l fd)
 ·refine mk fun fd=>?_
  refine zKH fun l=>?_
  exact s_end (rest l fd)
theorem zSr {Q:Array Value→K} (hr:∀ w,Holds B Γ w→txRd w t) (hl:t.reads.length ≤ 1000∧t.writes.length ≤ 1000∧t.ops.length ≤ 1000∧∀ x ∈ t.ops,x.1.val.length ≤ 1000000) (hk:∀ x ∈ t.reads++t.writes,x.length ≤ 1000)
  (h:∀ t' ms,TxIs t' t→HG B (SlC zAs 3 ms ((mksOf n S.M (keysT (t.reads++t.writes))).flatMap mkL)::SchS sd n T S::txC t' Γ) (Q (orV tag t' ms).toArray)) :
  HG B (SchS sd n T S::Γ) (zBb.call (some ⟨sd,0,none⟩) (tagF tag).toArray (txL t).toArray Q):=by
 refine fun w hw=>zFh _ _ _ _ _ ?_
 refine hg hw ?_
 clear hw w
 refine s_sch fun st l a b c F J ho=>?_
 unfold zBb
 refine s_new fun tag4=>?_
 refine s_new fun t5=>?_
 refine s_new fun t6=>?_
 refine s_dr ?_
 refine s_nn ?_
 refine s_ld (b:=sd) (l:=sdL st l a b c) (x:=some ⟨st,0,none⟩) ?_
 refine s_ldN (b:=tag4) (l:=tagF tag) (l':=tagF tag) ?_
 refine s_ldN (b:=t5) (l:=txL t) (l':=txL t) ?_
 refine s_own st ?_
 refine zPR (t:=t) (fun w hw=>hr w (hw.drops (Δ:=Γ))) hl hk fun t' ms ht'=>?_
 refine s_stN (b:=t6) (l':=orV tag t' ms) ?_
 refine s_ldN (b:=t6) (l:=orV tag t' ms) (l':=orV tag t' ms) ?_
 refine s_ownS b ?_
 refine s_pick (Sep.stars (F.map (filO T))) ?_
 refine s_ownS a ?_
 refine s_pick (Sep.stars (J.map jobO)) ?_
 refine s_ownS c ?_
 refine s_own st ?_
 refine s_own l ?_
 refine s_own sd ?_
 refine zFN ho ?_
 exact s_end (h t' ms ht')
end
end Go.Proofs.YtdemfamgieonbaaGreat
namespace Go.Proofs.YtdemfamgieonbaaGreat
open Go Go.Sep Go.Sep.Bt
set_option maxRecDepth 100000
end Go.Proofs.YtdemfamgieonbaaGreat
namespace Go.Proofs.YtdemfamgieonbaaGreat
open Go Go.Sep
set_option maxRecDepth 100000
set_option maxHeartbeats 4000000
attribute [local irreducible] G Gp Cx Tx Ex Sx Dx Ox Ax Lx Rx Fx Bx Bj Al Do Ld LdN St StN New CallF Ar DoU Rd Rd2 Pu Cd Ite Fv CallV CallY Ans0 Ans1 Ans2 Ans3 Ans4 Ans5 Ext Dead Dr WithS Sv LdS LdNS RdS Rd2S Nn Idx IdxA IdxS Fld Bld Slc SlcS Cat All LoopK RangeF RangeJ TakeD
namespace F_IRLaw17
instance ar_73:ART Tryz.prog 73 72 3 1:=⟨by kernel_rfl⟩
instance ar_74:ART Tryz.prog 74 3 3 1:=⟨by kernel_rfl⟩
instance at_171:AT Tryz.prog 171 7:=⟨by kernel_rfl⟩
instance at_25:AT Tryz.prog 25 5:=⟨by kernel_rfl⟩
instance at_40:AT Tryz.prog 40 10:=⟨by kernel_rfl⟩
instance at_48:AT Tryz.prog 48 12:=⟨by kernel_rfl⟩
instance at_76:AT Tryz.prog 76 7:=⟨by kernel_rfl⟩
instance cb_10:CB Tryz.prog 10:=⟨by kernel_rfl⟩
instance cb_11:CB Tryz.prog 11:=⟨by kernel_rfl⟩
instance cb_12:CB Tryz.prog 12:=⟨by kernel_rfl⟩
instance cb_121:CB Tryz.prog 121:=⟨by kernel_rfl⟩
instance cb_13:CB Tryz.prog 13:=⟨by kernel_rfl⟩
instance cb_14:CB Tryz.prog 14:=⟨by kernel_rfl⟩
instance cb_15:CB Tryz.prog 15:=⟨by kernel_rfl⟩
instance cb_16:CB Tryz.prog 16:=⟨by kernel_rfl⟩
instance cb_28:CB Tryz.prog 28:=⟨by kernel_rfl⟩
instance cb_69:CB Tryz.prog 69:=⟨by kernel_rfl⟩
instance cb_9:CB Tryz.prog 9:=⟨by kernel_rfl⟩
instance ct_3:CT Tryz.prog 3:=⟨by kernel_rfl⟩
instance ct_30:CT Tryz.prog 30:=⟨by kernel_rfl⟩
instance ct_63:CT Tryz.prog 63:=⟨by kernel_rfl⟩
instance ct_72:CT Tryz.prog 72:=⟨by kernel_rfl⟩
instance zVJ:FT Tryz.prog 171 0 0 1:=⟨by kernel_rfl⟩
instance zVK:FT Tryz.prog 171 1 1 1:=⟨by kernel_rfl⟩
instance zVL:FT Tryz.prog 171 2 2 5:=⟨by kernel_rfl⟩
instance zJr:FT Tryz.prog 48 1 1 1:=⟨by kernel_rfl⟩
instance zJq:FT Tryz.prog 51 0 0 1:=⟨by kernel_rfl⟩
instance zTh:FT Tryz.prog 53 1 4 2:=⟨by kernel_rfl⟩
instance zVd:FT Tryz.prog 76 0 0 3:=⟨by kernel_rfl⟩
instance zVe:FT Tryz.prog 76 1 3 1:=⟨by kernel_rfl⟩
instance zVf:FT Tryz.prog 76 2 4 3:=⟨by kernel_rfl⟩
instance in_3:INT Tryz.prog 3 .i64:=⟨by kernel_rfl⟩
instance in_33:INT Tryz.prog 33 .u64:=⟨by kernel_rfl⟩
instance mx:MX Tryz.prog:=⟨mixed⟩
instance pl_25:PLT Tryz.prog 25 [(0,1),(1,1),(2,1),(3,1),(4,1)]:=⟨_,Tryz.underlying25,by kernel_rfl⟩
instance pl_35:PLT Tryz.prog 35 [(0,1),(1,1),(2,1)]:=⟨_,Tryz.underlying35,by kernel_rfl⟩
instance pl_37:PLT Tryz.prog 37 [(0,3),(3,1)]:=⟨_,Tryz.underlying37,by kernel_rfl⟩
instance pl_48:PLT Tryz.prog 48 [(0,1),(1,1),(2,10)]:=⟨_,Tryz.underlying48,by kernel_rfl⟩
instance pl_76:PLT Tryz.prog 76 [(0,3),(3,1),(4,3)]:=⟨_,Tryz.underlying76,by kernel_rfl⟩
instance sl_22:SLT Tryz.prog 22 9 1:=⟨by kernel_rfl⟩
instance sl_42:SLT Tryz.prog 42 3 1:=⟨by kernel_rfl⟩
instance sl_45:SLT Tryz.prog 45 53 6:=⟨by kernel_rfl⟩
instance sl_54:SLT Tryz.prog 54 37 4:=⟨by kernel_rfl⟩
instance sl_63:SLT Tryz.prog 63 40 10:=⟨by kernel_rfl⟩
instance sl_70:SLT Tryz.prog 70 171 7:=⟨by kernel_rfl⟩
instance sl_72:SLT Tryz.prog 72 48 12:=⟨by kernel_rfl⟩
instance sz_171:SZ Tryz.prog 171 7:=⟨by kernel_rfl⟩
instance sz_3:SZ Tryz.prog 3 1:=⟨by kernel_rfl⟩
instance sz_40:SZ Tryz.prog 40 10:=⟨by kernel_rfl⟩
instance sz_48:SZ Tryz.prog 48 12:=⟨by kernel_rfl⟩
instance sz_63:SZ Tryz.prog 63 1:=⟨by kernel_rfl⟩
instance sz_72:SZ Tryz.prog 72 1:=⟨by kernel_rfl⟩
instance sz_76:SZ Tryz.prog 76 7:=⟨by kernel_rfl⟩
instance un_29:UN Tryz.prog 29 (.pointer 135):=⟨Tryz.underlying29⟩
instance zt_171:ZT Tryz.prog 171 (.agg #[(.int .i64 0),(.int .i64 0),(.int .i64 0),(Sl.val ⟨none,0,0⟩),(Sl.val ⟨none,0,0⟩),(Sl.val ⟨none,0,0⟩),(.int .i64 0)]):=⟨Tryz.t171,by kernel_rfl,by kernel_rfl⟩
instance zt_25:ZT Tryz.prog 25 (.agg #[(.int .i64 0),(Sl.val ⟨none,0,0⟩),(Sl.val ⟨none,0,0⟩),(Sl.val ⟨none,0,0⟩),(.int .i64 0)]):=⟨Tryz.t25,by kernel_rfl,by kernel_rfl⟩
instance zt_35:ZT Tryz.prog 35 (.agg #[(.int .i64 0),(.int .u64 0),(.int .u64 0)]):=⟨Tryz.t35,by kernel_rfl,by kernel_rfl⟩
instance zt_37:ZT Tryz.prog 37 (.agg #[(.int .i64 0),(.int .u64 0),(.int .u64 0),(.int .i64 0)]):=⟨Tryz.t37,by kernel_rfl,by kernel_rfl⟩
instance zt_40:ZT Tryz.prog 40 (.agg #[(.int .i64 0),(.int .u64 0),(.int .u64 0),(.int .i64 0),(.int .i64 0),(Sl.val ⟨none,0,0⟩),(Sl.val ⟨none,0,0⟩),(Sl.val ⟨none,0,0⟩),(.int .i64 0),(Sl.val ⟨none,0,0⟩)]):=⟨Tryz.t40,by kernel_rfl,by kernel_rfl⟩
instance zt_48:ZT Tryz.prog 48 (.agg #[(.int .i64 0),(.int .i64 0),(.int .i64 0),(.int .u64 0),(.int .u64 0),(.int .i64 0),(.int .i64 0),(Sl.val ⟨none,0,0⟩),(Sl.val ⟨none,0,0⟩),(Sl.val ⟨none,0,0⟩),(.int .i64 0),(Sl.val ⟨none,0,0⟩)]):=⟨Tryz.t48,by kernel_rfl,by kernel_rfl⟩
instance zt_76:ZT Tryz.prog 76 (.agg #[(Sl.val ⟨none,0,0⟩),(Sl.val ⟨none,0,0⟩),(Sl.val ⟨none,0,0⟩),(Sl.val ⟨none,0,0⟩),(.int .i64 0),(.int .i64 0),(.int .i64 0)]):=⟨Tryz.t76,by kernel_rfl,by kernel_rfl⟩
instance zt_9:ZT Tryz.prog 9 (.string ⟨#[]⟩):=⟨Tryz.t9,by kernel_rfl,by kernel_rfl⟩
end F_IRLaw17
def zCw.s2 (Q:Bool→K)  (t0_2:Bool):K :=
 Q t0_2
def zCw.s1 (Q:Bool→K)  (s1_1:(Option Addr)) (t17_1:Bool):K :=
 Ite t17_1
  (Q false)
  (Bld #[(.int .i64 0),(.int .u64 0),(.int .u64 0),(.int .i64 0)] ([(0,3),(3,1)][·]?) [(0,(.agg #[(.int .i64 0),(.int .u64 1),(.int .u64 1)]))] fun t20 =>
  New 9 #[(.string ⟨#[97]⟩),(.string ⟨#[98]⟩)] fun t21 =>
  zBb.call s1_1 t20 #[(.int .i64 1),(Sl.val ⟨none,0,0⟩),(Sl.val (Sl.mk (some t21) 2 2)),(Sl.val ⟨none,0,0⟩),(.int .i64 0)] fun t23 =>
  New 40 #[(.int .i64 0),(.int .u64 0),(.int .u64 0),(.int .i64 0),(.int .i64 0),(Sl.val ⟨none,0,0⟩),(Sl.val ⟨none,0,0⟩),(Sl.val ⟨none,0,0⟩),(.int .i64 0),(Sl.val ⟨none,0,0⟩)] fun o3 =>
  StN o3 10 t23 <|
  LdN o3 10 fun t24 =>
  Bld #[(.int .i64 0),(.int .i64 0),(.int .i64 0),(.int .u64 0),(.int .u64 0),(.int .i64 0),(.int .i64 0),(Sl.val ⟨none,0,0⟩),(Sl.val ⟨none,0,0⟩),(Sl.val ⟨none,0,0⟩),(.int .i64 0),(Sl.val ⟨none,0,0⟩)] ([(0,1),(1,1),(2,10)][·]?) [(0,(.int .i64 2)),(2,(.agg t24))] fun t25 =>
  New 48 #[(.int .i64 0),(.int .i64 0),(.int .i64 0),(.int .u64 0),(.int .u64 0),(.int .i64 0),(.int .i64 0),(Sl.val ⟨none,0,0⟩),(Sl.val ⟨none,0,0⟩),(Sl.val ⟨none,0,0⟩),(.int .i64 0),(Sl.val ⟨none,0,0⟩)] fun p4 =>
  StN p4 12 t25 <|
  LdN p4 12 fun t27 =>
  zAF.call s1_1 0 t27 fun t28 =>
  zDQ.call s1_1 fun t30 =>
  LdN p4 12 fun t32 =>
  zAF.call s1_1 1 t32 fun t33 =>
  Ite (decide ((t28.n:Int) = 0))
   (Ite (decide ((t30.n:Int) = 1))
    (Ite (decide ((t33.n:Int) = 1))
     (Idx t33 0 6 fun t49 =>
     Ld (t49.add 4) (Value.int .i64) fun t52 =>
     Ite (decide (t52 = 0))
      (zDQ.call s1_1 fun t57 =>
      zCw.s2 Q (decide ((t57.n:Int) = 0)))
      (zCw.s2 Q false))
     (zCw.s2 Q false))
    (zCw.s2 Q false))
   (zCw.s2 Q false))
def zCw  (Q:Bool→K):K :=
 zBZ.call 2 fun t9x0 t9x1 =>
 Ite ((t9x0).isNone)
  (zCw.s1 Q t9x0 true)
  (zCw.s1 Q t9x0 (decide (t9x1 ≠ 0)))
def zFA.b1 (Q:Bool→K)  (X1:Int→K) (t8_1:Sl) (t9_1:Int) (t10_1:Int):K :=
 Ite (decide (t10_1 < t9_1))
  (Idx t8_1 t10_1 7 fun t12 =>
  LdN t12 7 fun t13 =>
  New 171 #[(.int .i64 0),(.int .i64 0),(.int .i64 0),(Sl.val ⟨none,0,0⟩),(Sl.val ⟨none,0,0⟩),(Sl.val ⟨none,0,0⟩),(.int .i64 0)] fun x4 =>
  StN x4 7 t13 <|
  LdN (x4.add 2) 5 fun t15 =>
  zAo.call t15 fun t16 =>
  Ite t16
   (Q true)
   (Ar (IntKind.wrap .i64 (t10_1 + 1)) fun t17 =>
   X1 t17))
  (Q false)
def zFA (script0:Sl) (Q:Bool→K):K :=
 Ite (decide ((50:Int) < (script0.n:Int)))
  (Q true)
  (LoopK (α:=Int) (fun X x=>zFA.b1 Q X script0 (script0.n:Int) x) 0)
def zCL.s2 (Q:(Array Value)→Bool→K) (X1:Int→K) (regions0_2:Int) (t4_2:Addr) (t6_2:Addr) (origin7_2:(Option Addr)) (t25_2:Sl) (t26_2:Int) (t27_2:Int):K :=
 Ar (IntKind.wrap .i64 (t27_2 + 1)) fun t104 =>
 X1 t104
def zCL.b4 (Q:(Array Value)→Bool→K) (X1:Int→K) (X3:Int→K) (X4:K) (regions0_4:Int) (t4_4:Addr) (t6_4:Addr) (r14_4:Int) :K :=
 zB6.call (some t6_4) r14_4 fun t111 =>
 Ite t111
  (X4)
  (Ar (IntKind.wrap .i64 (r14_4 + 1)) fun t109 =>
  X3 t109)
def zCL.b3 (Q:(Array Value)→Bool→K) (X1:Int→K) (X3:Int→K) (regions0_3:Int) (t4_3:Addr) (t6_3:Addr) (r14_3:Int):K :=
 Ite (decide (r14_3 < regions0_3))
  (LoopK (α:=Unit) (fun X x=>zCL.b4 Q X1 X3 (X ()) regions0_3 t4_3 t6_3 r14_3) ())
  (LdN t6_3 7 fun t112 =>
  StN t4_3 7 t112 <|
  LdN t4_3 7 fun r0 =>
  Q r0 true)
def zCL.b1 (Q:(Array Value)→Bool→K)  (X1:Int→K) (regions0_1:Int) (t4_1:Addr) (t6_1:Addr) (origin7_1:(Option Addr)) (t25_1:Sl) (t26_1:Int) (t27_1:Int):K :=
 Ite (decide (t27_1 < t26_1))
  (Idx t25_1 t27_1 7 fun t30 =>
  LdN t30 7 fun t31 =>
  New 171 #[(.int .i64 0),(.int .i64 0),(.int .i64 0),(Sl.val ⟨none,0,0⟩),(Sl.val ⟨none,0,0⟩),(Sl.val ⟨none,0,0⟩),(.int .i64 0)] fun x10 =>
  StN x10 7 t31 <|
  Ld (x10.add 1) (Value.int .i64) fun t33 =>
  Ar (bitsOf .and .i64 t33 1023) fun t34 =>
  Cd (regions0_1 ≠ 0) <|
  Ar (Int.tmod t34 regions0_1) fun t36 =>
  Ld x10 (Value.int .i64) fun t38 =>
  Ar (bitsOf .and .i64 t38 3) fun t39 =>
  Ite (decide (t39 = 0))
   (LdN (x10.add 2) 5 fun t64 =>
   zAJ.call t64 regions0_1 fun t66 =>
   Ite (!t66)
    (zCL.s2 Q X1 regions0_1 t4_1 t6_1 origin7_1 t25_1 t26_1 t27_1)
    (Ar (IntKind.wrap .i64 (t27_1 + 1)) fun t70 =>
    Ar (IntKind.wrap .u64 t70) fun t71 =>
    Bld #[(.int .i64 0),(.int .u64 0),(.int .u64 0),(.int .i64 0)] ([(0,3),(3,1)][·]?) [(0,(.agg #[(.int .i64 0),(.int .u64 1),(.int .u64 t71)]))] fun t73 =>
    LdN (x10.add 2) 5 fun t75 =>
    zBb.call origin7_1 t73 t75 fun t76 =>
    New 40 #[(.int .i64 0),(.int .u64 0),(.int .u64 0),(.int .i64 0),(.int .i64 0),(Sl.val ⟨none,0,0⟩),(Sl.val ⟨none,0,0⟩),(Sl.val ⟨none,0,0⟩),(.int .i64 0),(Sl.val ⟨none,0,0⟩)] fun o12 =>
    StN o12 10 t76 <|
    LdN o12 10 fun t77 =>
    zB8.call t77 fun t78 =>
    Ite t78
     (LdN o12 10 fun t79 =>
     zBM.call t79 fun t80 =>
     Idx t80 0 1 fun t81 =>
     Ld t81 (Value.int .i64) fun t82 =>
     Dr <| WithS fun S =>
     IdxA t6_1 3 t82 1 fun t86 =>
     LdS S t86 Sl.val fun t87 =>
     LdNS S o12 10 fun t88 =>
     Bld #[(.int .i64 0),(.int .i64 0),(.int .i64 0),(.int .u64 0),(.int .u64 0),(.int .i64 0),(.int .i64 0),(Sl.val ⟨none,0,0⟩),(Sl.val ⟨none,0,0⟩),(Sl.val ⟨none,0,0⟩),(.int .i64 0),(Sl.val ⟨none,0,0⟩)] ([(0,1),(1,1),(2,10)][·]?) [(0,(.int .i64 1)),(2,(.agg t88))] fun t89 =>
     Bld #[(.int .i64 0),(.int .i64 0),(.int .i64 0),(.int .u64 0),(.int .u64 0),(.int .i64 0),(.int .i64 0),(Sl.val ⟨none,0,0⟩),(Sl.val ⟨none,0,0⟩),(Sl.val ⟨none,0,0⟩),(.int .i64 0),(Sl.val ⟨none,0,0⟩)] (fun i=>some (i * 12,12)) [(0,(.agg t89))] fun ct90 =>
     New 48 ct90 fun t90 =>
     Sv S <|
     Do Tryz.prog (Builtin.append_ #[72,72] 72 #[(Sl.val t87),(Sl.val (Sl.mk (some t90) 1 1))]) Sl.val fun t91 =>
     IdxA t6_1 3 t82 1 fun t93 =>
     St t93 (Sl.val t91) <|
     zCL.s2 Q X1 regions0_1 t4_1 t6_1 origin7_1 t25_1 t26_1 t27_1)
     (Ld (t6_1.add 3) Sl.val fun t95 =>
     LdN o12 10 fun t96 =>
     Bld #[(.int .i64 0),(.int .u64 0),(.int .u64 0),(.int .i64 0),(.int .i64 0),(Sl.val ⟨none,0,0⟩),(Sl.val ⟨none,0,0⟩),(Sl.val ⟨none,0,0⟩),(.int .i64 0),(Sl.val ⟨none,0,0⟩)] (fun i=>some (i * 10,10)) [(0,(.agg t96))] fun ct97 =>
     New 40 ct97 fun t97 =>
     Do Tryz.prog (Builtin.append_ #[63,63] 63 #[(Sl.val t95),(Sl.val (Sl.mk (some t97) 1 1))]) Sl.val fun t98 =>
     St (t6_1.add 3) (Sl.val t98) <|
     zCL.s2 Q X1 regions0_1 t4_1 t6_1 origin7_1 t25_1 t26_1 t27_1)))
   (Ite (decide (t39 = 1))
    (zB6.call (some t6_1) t36 fun t103 =>
    zCL.s2 Q X1 regions0_1 t4_1 t6_1 origin7_1 t25_1 t26_1 t27_1)
    (Dr <| WithS fun S =>
    IdxA t6_1 3 t36 1 fun t45 =>
    LdS S t45 Sl.val fun t46 =>
    zFX.call origin7_1 t36 fun t42 =>
    Sv S <|
    Ite (decide (t42 < (t46.n:Int)))
     (Dr <| WithS fun S =>
     IdxA t6_1 3 t36 1 fun t53 =>
     LdS S t53 Sl.val fun t54 =>
     zFX.call origin7_1 t36 fun t57 =>
     Sv S <|
     Idx t54 t57 12 fun t58 =>
     LdN t58 12 fun t59 =>
     zAF.call origin7_1 t36 t59 fun t60 =>
     zCL.s2 Q X1 regions0_1 t4_1 t6_1 origin7_1 t25_1 t26_1 t27_1)
     (zCL.s2 Q X1 regions0_1 t4_1 t6_1 origin7_1 t25_1 t26_1 t27_1))))
  (LoopK (α:=Int) (fun X x=>zCL.b3 Q X1 X regions0_1 t4_1 t6_1 x) 0)
def zCL (regions0:Int) (script1:Sl) (Q:(Array Value)→Bool→K):K :=
 New 76 #[(Sl.val ⟨none,0,0⟩),(Sl.val ⟨none,0,0⟩),(Sl.val ⟨none,0,0⟩),(Sl.val ⟨none,0,0⟩),(.int .i64 0),(.int .i64 0),(.int .i64 0)] fun t4 =>
 Pu Tryz.prog (Instr.build 74 [(0,(.int .i64 (-1))),(1,(.int .i64 (-1))),(2,(.int .i64 (-1)))].toArray) Value.agg fun t15 =>
 Bld #[(Sl.val ⟨none,0,0⟩),(Sl.val ⟨none,0,0⟩),(Sl.val ⟨none,0,0⟩),(Sl.val ⟨none,0,0⟩),(.int .i64 0),(.int .i64 0),(.int .i64 0)] ([(0,3),(3,1),(4,3)][·]?) [(2,(.agg t15))] fun t16 =>
 New 76 #[(Sl.val ⟨none,0,0⟩),(Sl.val ⟨none,0,0⟩),(Sl.val ⟨none,0,0⟩),(Sl.val ⟨none,0,0⟩),(.int .i64 0),(.int .i64 0),(.int .i64 0)] fun t6 =>
 StN t6 7 t16 <|
 zBZ.call regions0 fun t19x0 t19x1 =>
 Ite ((t19x0).isNone)
  (LdN t6 7 fun t24 =>
  StN t4 7 t24 <|
  LdN t4 7 fun r0 =>
  Q r0 false)
  (LoopK (α:=Int) (fun X x=>zCL.b1 Q X regions0 t4 t6 t19x0 script1 (script1.n:Int) x) 0)
def zB6.s2 (Q:Bool→K)  (ok6_2:Bool):K :=
 Q ok6_2
def zB6.s1 (Q:Bool→K)  (t0_1:(Option Addr)) (region1_1:Int) (p5_1:Addr) (ok6_1:Bool):K :=
 Ite ok6_1
  (Dr <|
  Nn t0_1 fun t27 =>
  Ld (p5_1.add 1) (Value.int .i64) fun t26 =>
  IdxA (t27.add 4) 3 region1_1 1 fun t29 =>
  St t29 (.int .i64 t26) <|
  Dr <| WithS fun S =>
  IdxA t27 3 region1_1 1 fun t36 =>
  LdS S t36 Sl.val fun t37 =>
  LdNS S p5_1 12 fun t38 =>
  Bld #[(.int .i64 0),(.int .i64 0),(.int .i64 0),(.int .u64 0),(.int .u64 0),(.int .i64 0),(.int .i64 0),(Sl.val ⟨none,0,0⟩),(Sl.val ⟨none,0,0⟩),(Sl.val ⟨none,0,0⟩),(.int .i64 0),(Sl.val ⟨none,0,0⟩)] (fun i=>some (i * 12,12)) [(0,(.agg t38))] fun ct39 =>
  New 48 ct39 fun t39 =>
  Sv S <|
  Do Tryz.prog (Builtin.append_ #[72,72] 72 #[(Sl.val t37),(Sl.val (Sl.mk (some t39) 1 1))]) Sl.val fun t40 =>
  IdxA t27 3 region1_1 1 fun t43 =>
  St t43 (Sl.val t40) <|
  zB6.s2 Q ok6_1)
  (zB6.s2 Q ok6_1)
def zB6 (t0:(Option Addr)) (region1:Int) (Q:Bool→K):K :=
 Dr <| WithS fun S =>
 Nn t0 fun t9 =>
 IdxA (t9.add 4) 3 region1 1 fun t17 =>
 LdS S (t9.add 3) Sl.val fun t11 =>
 LdS S t17 (Value.int .i64) fun t18 =>
 All [
  (zH7.call t11 region1 t18 fun t19x0 t19x1 =>
  New 48 #[(.int .i64 0),(.int .i64 0),(.int .i64 0),(.int .u64 0),(.int .u64 0),(.int .i64 0),(.int .i64 0),(Sl.val ⟨none,0,0⟩),(Sl.val ⟨none,0,0⟩),(Sl.val ⟨none,0,0⟩),(.int .i64 0),(Sl.val ⟨none,0,0⟩)] fun p5 =>
  StN p5 12 t19x0 <|
  zB6.s1 Q (some t9) region1 p5 t19x1),
  (New 48 #[(.int .i64 0),(.int .i64 0),(.int .i64 0),(.int .u64 0),(.int .u64 0),(.int .i64 0),(.int .i64 0),(Sl.val ⟨none,0,0⟩),(Sl.val ⟨none,0,0⟩),(Sl.val ⟨none,0,0⟩),(.int .i64 0),(Sl.val ⟨none,0,0⟩)] fun p5 =>
  Sv S <|
  zH7.call t11 region1 t18 fun t19x0 t19x1 =>
  StN p5 12 t19x0 <|
  zB6.s1 Q (some t9) region1 p5 t19x1)
  ]
end Go.Proofs.YtdemfamgieonbaaGreat
namespace Go.Proofs.YtdemfamgieonbaaGreat
open Go Go.Sep Go.Sep.Bt
set_option maxRecDepth 100000
theorem zRR {k:List UInt8} {n:Nat} (h:0 < n):homeOf k n < n:=by
 have:∀ (l:List UInt8) (s:Nat),s < n→l.foldl (fun s b=>(s + b.toNat) % n) s < n:=fun l=>by
  induction l with
  | nil=>exact fun s hs=>hs
  | cons b l ih=>exact fun s _=>ih _ (Nat.mod_lt _ h)
 exact this k 0 h
theorem zQS {n:Int} {g:TagM} {a b:TxX} {mks:List MkX} (h:SameP a b) (ho:OrdOk n g b mks):OrdOk n g a mks:=by
 obtain ⟨h1,h2,h3⟩:=ho
 refine ⟨by rw [zIF h]; exact h1,h2,?_⟩
 obtain ⟨g1,g2,g3,g4,g5⟩:=h
 rw [g3,g4]; exact h3
theorem zT4 {n:Nat} {g:TagM} {t:TxX} (hg:tagOk g) (h1:1 ≤ n) (h3:n ≤ 3) (hrt:rightT n t = true) (hrt3:rightT 3 t = true):OrdOk (n:Int) g t (mksOf n [] (keysT (t.reads++t.writes)))∧OrdOk 3 g t (mksOf n [] (keysT (t.reads++t.writes))):=by
 have hm:∀ m ∈ mksOf n [] (keysT (t.reads++t.writes)),0 ≤ m.home∧m.home < n:=fun m hm=>by
  obtain ⟨k,_,rfl⟩:=List.mem_map.1 hm
  have:((sGet n [] (bs k)).home:Int) = (homeOf (bs k).toList n:Nat):=rfl
  simp only [this]
  have:=zRR (k:=(bs k).toList) (n:=n) (by omega)
  omega
 have hk:(mksOf n [] (keysT (t.reads++t.writes))).map MkX.key = keysT (t.reads++t.writes):=by simp [mksOf,Function.comp_def]
 exact ⟨⟨hrt,hg,hk,hm⟩,⟨hrt3,hg,hk,fun m h=>by have:=hm m h; omega⟩⟩
section
variable {B:World} {Γ Δ:List HProp}
end
end Go.Proofs.YtdemfamgieonbaaGreat
namespace Go.Proofs.YtdemfamgieonbaaGreat
open Go Go.Sep
set_option maxRecDepth 100000
abbrev idF3 (g:TagM):List Value:=[.int .i64 g.node,.int .u64 g.epoch,.int .u64 g.seq]
abbrev mkK:List Ck:=[.str,.int .i64,.int .u64]
section
variable {B:World} {Γ Δ:List HProp} {k:K}
theorem zOr {g:TagM} {t:TxX} {ms:Sl} {L:List MkX} {Q:Bool→K} (hg:tagOk g) (hrt:rightT 3 t = true) (hr:∀ w,Holds B Γ w→txRd w t) (hm:∀ w,Holds B Γ w→RdC w ms 3 (L.flatMap mkL)) (hl:t.reads.length < 1000000∧t.writes.length < 1000000∧t.ops.length < 1000000)
  (hL:L.map MkX.key = keysT (t.reads++t.writes)) (hh:∀ m ∈ L,0 ≤ m.home∧m.home < 3) (h:HG B Γ (Q true)):HG B Γ (zA5.call (orV g t ms).toArray 3 Q):=fun w hw=>by
 refine zME _ _ _ _ ?_
 have hn:ms.n = L.length:=rd_len zCa (by omega) (hm w hw)
 refine Sep.hg hw ?_
 clear hw w
 unfold zA5
 refine s_new fun o2=>?_
 refine s_ldN (b:=o2) (l:=orV g t ms) (l':=idF3 g) ?_
 refine s_new fun id5=>?_
 refine s_stN (b:=id5) (l':=idF3 g) ?_
 refine s_ldN (b:=o2) (off:=4) (l:=orV g t ms) (l':=txL t) ?_
 refine zP1 (t:=t) (n:=3) (fun w hw=>hr w hw.drops) ⟨by omega,by omega,by omega⟩ ?_
 rw [hrt]
 obtain ⟨g1,g2,g3,g4,g5,g6⟩:=hg
 refine s_f ?_ (by rfl)
 refine s_ld (b:=id5) (l:=idF3 g) (x:=g.node) ?_
 refine s_f ?_ (by simp; omega)
 refine s_ld (b:=id5) (l:=idF3 g) (x:=g.node) ?_
 refine s_f ?_ (by simp; omega)
 refine s_ld (b:=id5) (off:=1) (l:=idF3 g) (x:=g.epoch) ?_
 refine s_f ?_ (by simp; omega)
 refine s_ld (b:=id5) (off:=2) (l:=idF3 g) (x:=g.seq) ?_
 refine s_f ?_ (by simp; omega)
 refine s_ld (b:=o2) (off:=3) (l:=orV g t ms) (x:=g.tr) ?_
 refine s_f ?_ (by simp; omega)
 refine s_ld (b:=o2) (off:=3) (l:=orV g t ms) (x:=g.tr) ?_
 rw [show decide ((2:Int) < g.tr) = false by simp; omega]
 unfold zA5.s1
 refine s_f ?_ (by rfl)
 repeat refine s_nx ?_
 refine zQk (t:=t) (fun w hw=>(hr w hw.drops).1) (fun w hw=>(hr w hw.drops).2.1) (by omega) (by omega) fun ks=>?_
 rw [← hL]
 refine s_cap ks fun b1 b2 b3 b4=>?_
 rw [List.length_map,List.length_map,Nat.mul_one] at b1
 repeat refine s_nx ?_
 have hkl:=zFH (t.reads++t.writes)
 rw [← hL,List.length_map,List.length_append] at hkl
 refine s_f ?_ (by simp; omega)
 refine zCm (α:=Int) (fun x=>∃ i:Nat,x = (i:Int)∧i ≤ L.length) (fun x=>L.length - x.toNat) ⟨0,rfl,Nat.zero_le _⟩ fun k' x hx hk'=>?_
 obtain ⟨i,rfl,hi⟩:=hx
 unfold zA5.b2
 refine s_ite (fun hb=>?_) fun hb=>s_end h
 have hil:i < L.length:=by simp only [decide_eq_true_eq] at hb; omega
 have hge:L[i]? = some L[i]:=List.getElem?_eq_getElem hil
 have hmem:L[i] ∈ L:=List.getElem_mem hil
 generalize L[i] = m at hge hmem
 obtain ⟨h1,h2⟩:=hh m hmem
 repeat refine s_nx ?_
 refine zTV mkL (c:=Value.string) (v:=bs m.key) zCa (fun w hw=>hm w hw.drops) hge rfl ?_
 refine s_idxS (L:=L.map MkX.key) (fun w hw=>(own_rd (s:=ks) hw).1) (by rw [List.getElem?_map,hge]; rfl) ?_
 refine s_f ?_ (by simp)
 repeat refine s_nx ?_
 refine zGS mkL (off:=1) (c:=Value.int .i64) (v:=m.home) zCa (fun w hw=>hm w hw.drops) hge rfl ?_
 refine s_f ?_ (by simp; omega)
 repeat refine s_nx ?_
 refine zGS mkL (off:=1) (c:=Value.int .i64) (v:=m.home) zCa (fun w hw=>hm w hw.drops) hge rfl ?_
 unfold zA5.s3
 refine s_f ?_ (by simp; omega)
 refine s_ai ?_
 exact hk' _ ⟨i + 1,by simp,hil⟩ (by omega)
theorem zRS {g:TagM} {s t:TxX} {ms ns:Sl} {L:List MkX} {Q:Bool→K} (hs:SameP s t) (hL:L.length ≤ 100000) (h1:∀ w,Holds B Γ w→txRd w s) (h2:∀ w,Holds B Γ w→txRd w t) (hm:∀ w,Holds B Γ w→RdC w ms 3 (L.flatMap mkL)) (hn:∀ w,Holds B Γ w→RdC w ns 3 (L.flatMap mkL)) (hl:s.reads.length < 1000000∧s.writes.length < 1000000∧s.ops.length < 1000000) (h:HG B Γ (Q true)):HG B Γ (zB1.call (orV g s ms).toArray (orV g t ns).toArray Q):=fun w hw=>by
 refine zND _ _ _ _ ?_
 have hmn:ms.n = L.length:=rd_len zCa (by omega) (hm w hw)
 have hnn:ns.n = L.length:=rd_len zCa (by omega) (hn w hw)
 refine Sep.hg hw ?_
 clear hw w
 unfold zB1
 refine s_new fun a2=>?_
 refine s_new fun b3=>?_
 refine s_ldN (b:=a2) (l:=orV g s ms) (l':=tagF g) ?_
 refine s_ldN (b:=b3) (l:=orV g t ns) (l':=tagF g) ?_
 refine s_neS (xs:=tagF g) (ys:=tagF g) (ks:=tagK) (p:=True) (by simp) ?_
 refine s_f ?_ (by simp)
 refine s_ldN (b:=a2) (off:=4) (l:=orV g s ms) (l':=txL s) ?_
 refine s_ldN (b:=b3) (off:=4) (l:=orV g t ns) (l':=txL t) ?_
 refine zQl (fun w hw=>h1 w (hw.drops (Δ:=Γ))) (fun w hw=>h2 w (hw.drops (Δ:=Γ))) ⟨by omega,by omega,by omega⟩ ?_
 rw [decide_eq_true hs]
 refine s_f ?_ (by rfl)
 refine s_ld (b:=a2) (off:=9) (l:=orV g s ms) (x:=ms) ?_
 refine s_ld (b:=b3) (off:=9) (l:=orV g t ns) (x:=ns) ?_
 rw [show decide ((ms.n:Int) ≠ (ns.n:Int)) = false by simp; omega]
 unfold zB1.s1
 refine s_f ?_ (by rfl)
 refine zCm (α:=Int) (fun x=>∃ i:Nat,x = (i:Int)∧i ≤ L.length) (fun x=>L.length - x.toNat) ⟨0,rfl,Nat.zero_le _⟩ fun k' x hx hk'=>?_
 obtain ⟨i,rfl,hi⟩:=hx
 unfold zB1.b2
 refine s_ld (b:=a2) (off:=9) (l:=orV g s ms) (x:=ms) ?_
 refine s_ite (fun hb=>?_) fun hb=>s_end h
 have hil:i < L.length:=by simp only [decide_eq_true_eq] at hb; omega
 have hge:L[i]? = some L[i]:=List.getElem?_eq_getElem hil
 generalize L[i] = m at hge
 refine s_dr ?_
 refine s_ld (b:=a2) (off:=9) (l:=orV g s ms) (x:=ms) ?_
 refine s_idxN mkL zCa (fun w hw=>hm w (hw.drops (Δ:=Γ))) hge ?_
 refine s_ld (b:=b3) (off:=9) (l:=orV g t ns) (x:=ns) ?_
 refine s_idxN mkL zCa (fun w hw=>hn w (hw.drops (Δ:=Γ))) hge ?_
 refine s_neS (xs:=mkL m) (ys:=mkL m) (ks:=mkK) (p:=True) (by simp) ?_
 refine s_f ?_ (by simp)
 refine s_ai ?_
 exact hk' _ ⟨i + 1,by simp,hil⟩ (by omega)
end
end Go.Proofs.YtdemfamgieonbaaGreat
namespace Go.Proofs.YtdemfamgieonbaaGreat
open Go Go.Sep
set_option maxRecDepth 100000
set_option maxHeartbeats 4000000
attribute [local irreducible] G Gp Cx Tx Ex Sx Dx Ox Ax Lx Rx Fx Bx Bj Al Do Ld LdN St StN New CallF Ar DoU Rd Rd2 Pu Cd Ite Fv CallV CallY Ans0 Ans1 Ans2 Ans3 Ans4 Ans5 Ext Dead Dr WithS Sv LdS LdNS RdS Rd2S Nn Idx IdxA IdxS Fld Bld Slc SlcS Cat All LoopK RangeF RangeJ TakeD
namespace F_IRLaw21FrontTells
instance at_25:AT Tryz.prog 25 5:=⟨by kernel_rfl⟩
instance at_35:AT Tryz.prog 35 3:=⟨by kernel_rfl⟩
instance at_40:AT Tryz.prog 40 10:=⟨by kernel_rfl⟩
instance at_48:AT Tryz.prog 48 12:=⟨by kernel_rfl⟩
instance cb_11:CB Tryz.prog 11:=⟨by kernel_rfl⟩
instance cb_12:CB Tryz.prog 12:=⟨by kernel_rfl⟩
instance cb_15:CB Tryz.prog 15:=⟨by kernel_rfl⟩
instance cb_18:CB Tryz.prog 18:=⟨by kernel_rfl⟩
instance cb_19:CB Tryz.prog 19:=⟨by kernel_rfl⟩
instance cb_20:CB Tryz.prog 20:=⟨by kernel_rfl⟩
instance cb_21:CB Tryz.prog 21:=⟨by kernel_rfl⟩
instance cb_22:CB Tryz.prog 22:=⟨by kernel_rfl⟩
instance cb_23:CB Tryz.prog 23:=⟨by kernel_rfl⟩
instance cb_24:CB Tryz.prog 24:=⟨by kernel_rfl⟩
instance cb_9:CB Tryz.prog 9:=⟨by kernel_rfl⟩
instance ct_9:CT Tryz.prog 9:=⟨by kernel_rfl⟩
instance zLz:FT Tryz.prog 37 0 0 3:=⟨by kernel_rfl⟩
instance zHS:FT Tryz.prog 40 0 0 4:=⟨by kernel_rfl⟩
instance in_3:INT Tryz.prog 3 .i64:=⟨by kernel_rfl⟩
instance in_33:INT Tryz.prog 33 .u64:=⟨by kernel_rfl⟩
instance mx:MX Tryz.prog:=⟨mixed⟩
instance pl_25:PLT Tryz.prog 25 [(0,1),(1,1),(2,1),(3,1),(4,1)]:=⟨_,Tryz.underlying25,by kernel_rfl⟩
instance pl_35:PLT Tryz.prog 35 [(0,1),(1,1),(2,1)]:=⟨_,Tryz.underlying35,by kernel_rfl⟩
instance pl_37:PLT Tryz.prog 37 [(0,3),(3,1)]:=⟨_,Tryz.underlying37,by kernel_rfl⟩
instance pl_48:PLT Tryz.prog 48 [(0,1),(1,1),(2,10)]:=⟨_,Tryz.underlying48,by kernel_rfl⟩
instance sl_22:SLT Tryz.prog 22 9 1:=⟨by kernel_rfl⟩
instance sl_58:SLT Tryz.prog 58 25 5:=⟨by kernel_rfl⟩
instance sl_63:SLT Tryz.prog 63 40 10:=⟨by kernel_rfl⟩
instance sl_67:SLT Tryz.prog 67 35 3:=⟨by kernel_rfl⟩
instance st_9:STT Tryz.prog 9:=⟨by kernel_rfl⟩
instance sz_25:SZ Tryz.prog 25 5:=⟨by kernel_rfl⟩
instance sz_35:SZ Tryz.prog 35 3:=⟨by kernel_rfl⟩
instance sz_48:SZ Tryz.prog 48 12:=⟨by kernel_rfl⟩
instance un_29:UN Tryz.prog 29 (.pointer 135):=⟨Tryz.underlying29⟩
instance un_59:UN Tryz.prog 59 (.pointer 161):=⟨Tryz.underlying59⟩
instance zt_25:ZT Tryz.prog 25 (.agg #[(.int .i64 0),(Sl.val ⟨none,0,0⟩),(Sl.val ⟨none,0,0⟩),(Sl.val ⟨none,0,0⟩),(.int .i64 0)]):=⟨Tryz.t25,by kernel_rfl,by kernel_rfl⟩
instance zt_35:ZT Tryz.prog 35 (.agg #[(.int .i64 0),(.int .u64 0),(.int .u64 0)]):=⟨Tryz.t35,by kernel_rfl,by kernel_rfl⟩
instance zt_37:ZT Tryz.prog 37 (.agg #[(.int .i64 0),(.int .u64 0),(.int .u64 0),(.int .i64 0)]):=⟨Tryz.t37,by kernel_rfl,by kernel_rfl⟩
instance zt_48:ZT Tryz.prog 48 (.agg #[(.int .i64 0),(.int .i64 0),(.int .i64 0),(.int .u64 0),(.int .u64 0),(.int .i64 0),(.int .i64 0),(Sl.val ⟨none,0,0⟩),(Sl.val ⟨none,0,0⟩),(Sl.val ⟨none,0,0⟩),(.int .i64 0),(Sl.val ⟨none,0,0⟩)]):=⟨Tryz.t48,by kernel_rfl,by kernel_rfl⟩
instance zt_9:ZT Tryz.prog 9 (.string ⟨#[]⟩):=⟨Tryz.t9,by kernel_rfl,by kernel_rfl⟩
end F_IRLaw21FrontTells
def zAB.s4 (Q:Bool→K) (X3:Int→Int→K) (moves1_4:Sl) (f5_4:(Option Addr)) (s6_4:(Option Addr)) (n8_4:Int) (t41_4:Sl) (t42_4:Int) (t43_4:Int):K :=
 Ar (IntKind.wrap .i64 (t43_4 + 1)) fun t59 =>
 X3 n8_4 t59
def zAB.s8 (Q:Bool→K) (X3:Int→Int→K) (X5:Int→K) (X6:Int→K) (X7:Int→K) (f5_8:(Option Addr)) (s6_8:(Option Addr)) (n8_8:Int) (first13_8:Sl) (again18_8:Sl) (t67_8:Sl) (t68_8:Int) (t69_8:Int) (t107_8:Int) (t108_8:Int) (t142_8:Bool):K :=
 Ite t142_8
  (Q false)
  (Ar (IntKind.wrap .i64 (t108_8 + 1)) fun t143 =>
  X7 t143)
def zAB.b7 (Q:Bool→K) (X3:Int→Int→K) (X5:Int→K) (X6:Int→K) (X7:Int→K) (f5_7:(Option Addr)) (s6_7:(Option Addr)) (n8_7:Int) (first13_7:Sl) (again18_7:Sl) (t67_7:Sl) (t68_7:Int) (t69_7:Int) (t107_7:Int) (t108_7:Int):K :=
 Ite (decide (t108_7 < t107_7))
  (Dr <| WithS fun S =>
  Idx again18_7 t108_7 10 fun t113 =>
  Idx first13_7 t108_7 10 fun t117 =>
  LdNS S t113 10 fun t114 =>
  LdNS S t117 10 fun t118 =>
  zB1.call t114 t118 fun t119 =>
  Sv S <|
  Ite (!t119)
   (zAB.s8 Q X3 X5 X6 X7 f5_7 s6_7 n8_7 first13_7 again18_7 t67_7 t68_7 t69_7 t107_7 t108_7 true)
   (Idx again18_7 t108_7 10 fun t124 =>
   LdNS S t124 10 fun t125 =>
   zA5.call t125 3 fun t126 =>
   Sv S <|
   Ite (!t126)
    (zAB.s8 Q X3 X5 X6 X7 f5_7 s6_7 n8_7 first13_7 again18_7 t67_7 t68_7 t69_7 t107_7 t108_7 true)
    (Idx again18_7 t108_7 10 fun t132 =>
    LdNS S t132 3 fun t135 =>
    zBu.call f5_7 fun t137 =>
    Sv S <|
    Idx t137 t108_7 3 fun t139 =>
    LdN t139 3 fun t140 =>
    Pu Tryz.prog (do eqGuard .neq 35 (.tmp 135) (.tmp 140) (.agg t135) (.agg t140); binOp .neq 35 (.agg t135) (.agg t140):Sem Value) Value.bool fun t141 =>
    zAB.s8 Q X3 X5 X6 X7 f5_7 s6_7 n8_7 first13_7 again18_7 t67_7 t68_7 t69_7 t107_7 t108_7 t141)))
  (Ar (IntKind.wrap .i64 (t69_7 + 1)) fun t144 =>
  X5 t144)
def zAB.b6 (Q:Bool→K) (X3:Int→Int→K) (X5:Int→K) (X6:Int→K) (f5_6:(Option Addr)) (s6_6:(Option Addr)) (n8_6:Int) (first13_6:Sl) (x16_6:Addr) (t67_6:Sl) (t68_6:Int) (t69_6:Int) (r17_6:Int):K :=
 Ite (decide (r17_6 < 3))
  (LdN x16_6 12 fun t97 =>
  zAF.call s6_6 r17_6 t97 fun t98 =>
  Ar (IntKind.wrap .i64 (r17_6 + 1)) fun t94 =>
  X6 t94)
  (zAW.call f5_6 s6_6 fun t101 =>
  Ite (decide ((t101.n:Int) ≠ n8_6))
   (Q false)
   (LoopK (α:=Int) (fun X x=>zAB.b7 Q X3 X5 X6 X f5_6 s6_6 n8_6 first13_6 t101 t67_6 t68_6 t69_6 (t101.n:Int) x) 0))
def zAB.b5 (Q:Bool→K) (X3:Int→Int→K) (X5:Int→K) (f5_5:(Option Addr)) (s6_5:(Option Addr)) (n8_5:Int) (first13_5:Sl) (t67_5:Sl) (t68_5:Int) (t69_5:Int):K :=
 Ite (decide (t69_5 < t68_5))
  (Idx t67_5 t69_5 1 fun t72 =>
  Ld t72 Value.string fun t73 =>
  Ite (decide ((16:Int) < (t73.size:Int)))
   (Q true)
   (Ar (IntKind.wrap .i64 (t69_5 + 1)) fun t80 =>
   Ar (IntKind.wrap .u64 t80) fun t81 =>
   Bld #[(.int .i64 0),(.int .u64 0),(.int .u64 0),(.int .i64 0)] ([(0,3),(3,1)][·]?) [(0,(.agg #[(.int .i64 0),(.int .u64 9),(.int .u64 t81)]))] fun t83 =>
   New 9 #[(.string t73)] fun t85 =>
   Cd ((3:Int) ≠ 0) <|
   Ar (Int.tmod t69_5 3) fun t87 =>
   zBb.call s6_5 t83 #[(.int .i64 2),(Sl.val ⟨none,0,0⟩),(Sl.val (Sl.mk (some t85) 1 1)),(Sl.val ⟨none,0,0⟩),(.int .i64 t87)] fun t89 =>
   Bld #[(.int .i64 0),(.int .i64 0),(.int .i64 0),(.int .u64 0),(.int .u64 0),(.int .i64 0),(.int .i64 0),(Sl.val ⟨none,0,0⟩),(Sl.val ⟨none,0,0⟩),(Sl.val ⟨none,0,0⟩),(.int .i64 0),(Sl.val ⟨none,0,0⟩)] ([(0,1),(1,1),(2,10)][·]?) [(0,(.int .i64 2)),(1,(.int .i64 t69_5)),(2,(.agg t89))] fun t90 =>
   New 48 #[(.int .i64 0),(.int .i64 0),(.int .i64 0),(.int .u64 0),(.int .u64 0),(.int .i64 0),(.int .i64 0),(Sl.val ⟨none,0,0⟩),(Sl.val ⟨none,0,0⟩),(Sl.val ⟨none,0,0⟩),(.int .i64 0),(Sl.val ⟨none,0,0⟩)] fun x16 =>
   StN x16 12 t90 <|
   LoopK (α:=Int) (fun X x=>zAB.b6 Q X3 X5 X f5_5 s6_5 n8_5 first13_5 x16 t67_5 t68_5 t69_5 x) 0))
  (Q true)
def zAB.b3 (Q:Bool→K)  (X3:Int→Int→K) (moves1_3:Sl) (f5_3:(Option Addr)) (s6_3:(Option Addr)) (t41_3:Sl) (t42_3:Int) (n8_3:Int) (t43_3:Int):K :=
 Ite (decide (t43_3 < t42_3))
  (Idx t41_3 t43_3 5 fun t45 =>
  LdN t45 5 fun t46 =>
  New 25 #[(.int .i64 0),(Sl.val ⟨none,0,0⟩),(Sl.val ⟨none,0,0⟩),(Sl.val ⟨none,0,0⟩),(.int .i64 0)] fun t10 =>
  StN t10 5 t46 <|
  LdN t10 5 fun t47 =>
  zAo.call t47 fun t48 =>
  Ite t48
   (Q true)
   (LdN t10 5 fun t51 =>
   zCA.call f5_3 t51 fun t52x0 t52x1 =>
   New 35 #[(.int .i64 0),(.int .u64 0),(.int .u64 0)] fun t11 =>
   StN t11 3 t52x0 <|
   Ite (decide (t52x1 = 0))
    (Ar (IntKind.wrap .i64 (n8_3 + 1)) fun t58 =>
    zAB.s4 Q X3 moves1_3 f5_3 s6_3 t58 t41_3 t42_3 t43_3)
    (zAB.s4 Q X3 moves1_3 f5_3 s6_3 n8_3 t41_3 t42_3 t43_3)))
  (zAW.call f5_3 s6_3 fun t62 =>
  Ite (decide ((t62.n:Int) ≠ n8_3))
   (Q false)
   (LoopK (α:=Int) (fun X x=>zAB.b5 Q X3 X f5_3 s6_3 n8_3 t62 moves1_3 (moves1_3.n:Int) x) 0))
def zAB.s2 (Q:Bool→K)  (txns0_2:Sl) (moves1_2:Sl) (f5_2:(Option Addr)) (s6_2:(Option Addr)) (t40_2:Bool):K :=
 Ite t40_2
  (Q false)
  (LoopK (α:=Int×Int) (fun X x=>zAB.b3 Q (fun n8_3 t43_3=>X (n8_3,t43_3)) moves1_2 f5_2 s6_2 txns0_2 (txns0_2.n:Int) x.1 x.2) (0,0))
def zAB.s1 (Q:Bool→K)  (txns0_1:Sl) (moves1_1:Sl) (t29_1:Bool):K :=
 Ite t29_1
  (Q true)
  (zEa.call 5 2 3 fun t30 =>
  zBZ.call 3 fun t32x0 t32x1 =>
  Ite ((t30).isNone)
   (zAB.s2 Q txns0_1 moves1_1 t30 t32x0 true)
   (zAB.s2 Q txns0_1 moves1_1 t30 t32x0 ((t32x0).isNone)))
def zAB (txns0:Sl) (moves1:Sl) (Q:Bool→K):K :=
 zAm.call  fun t20 =>
 Ite (!t20)
  (Q false)
  (Ite (decide ((20:Int) < (txns0.n:Int)))
   (zAB.s1 Q txns0 moves1 true)
   (zAB.s1 Q txns0 moves1 (decide ((10:Int) < (moves1.n:Int)))))
theorem zIi (txns0:Sl) (moves1:Sl) (Q:Bool→K) (w:World) (h:zAB txns0 moves1 Q w):zAB.call txns0 moves1 Q w:=by
 have hJ18:∀ (X3:(Int×Int)→K),XH 11 X3→JH 18 fun D=>∃ (moves1_4:Sl) (f5_4:(Option Addr)) (s6_4:(Option Addr)) (t41_4:Sl) (t42_4:Int) (t43_4:Int),D [(1,(Sl.val moves1_4)),(5,(.pointer f5_4)),(6,(.pointer s6_4)),(41,(Sl.val t41_4)),(42,(.int .i64 t42_4)),(43,(.int .i64 t43_4))] (fun C=>∀ (n8_4:Int),C [(1,(Sl.val moves1_4)),(5,(.pointer f5_4)),(6,(.pointer s6_4)),(8,(.int .i64 n8_4)),(41,(Sl.val t41_4)),(42,(.int .i64 t42_4)),(43,(.int .i64 t43_4))] (zAB.s4 Q (fun n8_3 t43_3=>X3 (n8_3,t43_3)) moves1_4 f5_4 s6_4 n8_4 t41_4 t42_4 t43_4)):=by intros; exact ⟨fun _ ⟨_,_,_,_,_,_,h⟩=>⟨_,_,h⟩⟩
 have hJ39:∀ (X3:(Int×Int)→K),XH 11 X3→∀ (X5:Int→K),XH 23 X5→∀ (X6:Int→K),XH 29 X6→∀ (X7:Int→K),XH 36 X7→JH 39 fun D=>∃ (f5_8:(Option Addr)) (s6_8:(Option Addr)) (n8_8:Int) (first13_8:Sl) (again18_8:Sl) (t67_8:Sl) (t68_8:Int) (t69_8:Int) (t107_8:Int) (t108_8:Int),D [(5,(.pointer f5_8)),(6,(.pointer s6_8)),(8,(.int .i64 n8_8)),(13,(Sl.val first13_8)),(18,(Sl.val again18_8)),(67,(Sl.val t67_8)),(68,(.int .i64 t68_8)),(69,(.int .i64 t69_8)),(107,(.int .i64 t107_8)),(108,(.int .i64 t108_8))] (fun C=>∀ (t142_8:Bool),C [(5,(.pointer f5_8)),(6,(.pointer s6_8)),(8,(.int .i64 n8_8)),(13,(Sl.val first13_8)),(18,(Sl.val again18_8)),(67,(Sl.val t67_8)),(68,(.int .i64 t68_8)),(69,(.int .i64 t69_8)),(107,(.int .i64 t107_8)),(108,(.int .i64 t108_8)),(142,(.bool t142_8))] (zAB.s8 Q (fun n8_3 t43_3=>X3 (n8_3,t43_3)) X5 X6 X7 f5_8 s6_8 n8_8 first13_8 again18_8 t67_8 t68_8 t69_8 t107_8 t108_8 t142_8)):=by intros; exact ⟨fun _ ⟨_,_,_,_,_,_,_,_,_,_,h⟩=>⟨_,_,h⟩⟩
 have hD38:DH 38 2 [] (.s [0,1,2,4,5,6,3,7] (.a [(8,1,.s [9,10] (.i (.s [11,12,13,14,15,16,17,18,19,20,21,22,23,24,25,26,27,28,29,30,31] .e) (.s [11,12,13,14] (.a [(15,1,.s [16,17,18] (.i (.s [19,20,21,22,23,24,25,26,27,28,29,30,31] .e) (.s [19,20,21,22,23,25,27,24] (.a [(26,1,.s [28] (.a [(29,2,.s [30,31] .e)]))]))))]))))])):=by intros; exact ⟨⟩
 have hL36:∀ (X3:(Int×Int)→K),XH 11 X3→∀ (X5:Int→K),XH 23 X5→∀ (X6:Int→K),XH 29 X6→∀ (f5_7:(Option Addr)) (s6_7:(Option Addr)) (n8_7:Int) (first13_7:Sl) (again18_7:Sl) (t67_7:Sl) (t68_7:Int) (t69_7:Int) (t107_7:Int),LH 36 (fun x:Int=>[(5,(.pointer f5_7)),(6,(.pointer s6_7)),(8,(.int .i64 n8_7)),(13,(Sl.val first13_7)),(18,(Sl.val again18_7)),(67,(Sl.val t67_7)),(68,(.int .i64 t68_7)),(69,(.int .i64 t69_7)),(107,(.int .i64 t107_7)),(108,(.int .i64 x))]) (fun X x=>zAB.b7 Q (fun n8_3 t43_3=>X3 (n8_3,t43_3)) X5 X6 X f5_7 s6_7 n8_7 first13_7 again18_7 t67_7 t68_7 t69_7 t107_7 x):=by intros; exact ⟨⟩
 have hL29:∀ (X3:(Int×Int)→K),XH 11 X3→∀ (X5:Int→K),XH 23 X5→∀ (f5_6:(Option Addr)) (s6_6:(Option Addr)) (n8_6:Int) (first13_6:Sl) (x16_6:Addr) (t67_6:Sl) (t68_6:Int) (t69_6:Int),LH 29 (fun x:Int=>[(5,(.pointer f5_6)),(6,(.pointer s6_6)),(8,(.int .i64 n8_6)),(13,(Sl.val first13_6)),(16,(.pointer (some x16_6))),(17,(.int .i64 x)),(67,(Sl.val t67_6)),(68,(.int .i64 t68_6)),(69,(.int .i64 t69_6))]) (fun X x=>zAB.b6 Q (fun n8_3 t43_3=>X3 (n8_3,t43_3)) X5 X f5_6 s6_6 n8_6 first13_6 x16_6 t67_6 t68_6 t69_6 x):=by intros; exact ⟨⟩
 have hL23:∀ (X3:(Int×Int)→K),XH 11 X3→∀ (f5_5:(Option Addr)) (s6_5:(Option Addr)) (n8_5:Int) (first13_5:Sl) (t67_5:Sl) (t68_5:Int),LH 23 (fun x:Int=>[(5,(.pointer f5_5)),(6,(.pointer s6_5)),(8,(.int .i64 n8_5)),(13,(Sl.val first13_5)),(67,(Sl.val t67_5)),(68,(.int .i64 t68_5)),(69,(.int .i64 x))]) (fun X x=>zAB.b5 Q (fun n8_3 t43_3=>X3 (n8_3,t43_3)) X f5_5 s6_5 n8_5 first13_5 t67_5 t68_5 x):=by intros; exact ⟨⟩
 have hL11:∀ (moves1_3:Sl) (f5_3:(Option Addr)) (s6_3:(Option Addr)) (t41_3:Sl) (t42_3:Int),LH 11 (fun x:Int×Int=>[(1,(Sl.val moves1_3)),(5,(.pointer f5_3)),(6,(.pointer s6_3)),(8,(.int .i64 x.1)),(41,(Sl.val t41_3)),(42,(.int .i64 t42_3)),(43,(.int .i64 x.2))]) (fun X x=>zAB.b3 Q (fun n8_3 t43_3=>X (n8_3,t43_3)) moves1_3 f5_3 s6_3 t41_3 t42_3 x.1 x.2):=by intros; exact ⟨⟩
 have hJ8:JH 8 fun D=>∃ (txns0_2:Sl) (moves1_2:Sl) (f5_2:(Option Addr)) (s6_2:(Option Addr)),D [(0,(Sl.val txns0_2)),(1,(Sl.val moves1_2)),(5,(.pointer f5_2)),(6,(.pointer s6_2))] (fun C=>∀ (t40_2:Bool),C [(0,(Sl.val txns0_2)),(1,(Sl.val moves1_2)),(5,(.pointer f5_2)),(6,(.pointer s6_2)),(40,(.bool t40_2))] (zAB.s2 Q txns0_2 moves1_2 f5_2 s6_2 t40_2)):=by intros; exact ⟨fun _ ⟨_,_,_,_,h⟩=>⟨_,_,h⟩⟩
 have hJ4:JH 4 fun D=>∃ (txns0_1:Sl) (moves1_1:Sl),D [(0,(Sl.val txns0_1)),(1,(Sl.val moves1_1))] (fun C=>∀ (t29_1:Bool),C [(0,(Sl.val txns0_1)),(1,(Sl.val moves1_1)),(29,(.bool t29_1))] (zAB.s1 Q txns0_1 moves1_1 t29_1)):=by intros; exact ⟨fun _ ⟨_,_,h⟩=>⟨_,_,h⟩⟩
 exact g_walk 145 h Tryz.func4
end Go.Proofs.YtdemfamgieonbaaGreat
namespace Go.Proofs.YtdemfamgieonbaaGreat
open Go Go.Sep Go.Sep.Bt
set_option maxRecDepth 100000
theorem zRT {n:Nat} {M:Recs} {E E':List EntX} (h:F2 (Told n M) E E'):(∀ e ∈ E,e.ord.isSome = true)→E' = E:=by
 induction h with
 | nil=>intro _; rfl
 | @cons e e' l m h1 _ ih =>
  intro ho
  rw [ih fun x hx=>ho x (List.mem_cons_of_mem _ hx)]
  obtain ⟨t1,t2,t3,o,t4,_,_,t7⟩:=h1
  have h2:=ho e List.mem_cons_self
  cases he:e.ord with
  | none=>rw [he] at h2; cases h2
  | some o0 =>
   have:=t7 o0 he
   subst this
   obtain ⟨b,g,t,od⟩:=e
   obtain ⟨b',g',t',od'⟩:=e'
   simp only at t1 t2 t3 t4 he
   subst t1; subst t2; subst t3
   rw [t4,he]
theorem zRU {n:Nat} {M:Recs} {E E':List EntX} (h:F2 (Told n M) E E'):∀ e ∈ E',e.ord.isSome = true:=by
 induction h with
 | nil=>intro e he; cases he
 | cons h1 _ ih =>
  intro x hx
  rcases List.mem_cons.1 hx with rfl | hx
  ·obtain ⟨_,_,_,o,t4,_⟩:=h1
   rw [t4]; rfl
  ·exact ih x hx
theorem zRV {n:Nat} {M:Recs} {E E':List EntX} (h:F2 (Told n M) E E'):E'.map EntX.tag = E.map EntX.tag:=by
 induction h with
 | nil=>rfl
 | cons h1 _ ih=>simp only [List.map_cons,ih,h1.2.1]
theorem zQT {M:Recs} {E E':List EntX} (h:F2 (Told 3 M) E E'):(∀ e ∈ E,e.ord = none)→∀ e ∈ E',∀ o,e.ord = some o→o.mks = mksOf 3 M (keysT (e.tx.reads++e.tx.writes)):=by
 induction h with
 | nil=>intro _ e he; cases he
 | @cons e e' l m h1 _ ih =>
  intro ho x hx o hxo
  rcases List.mem_cons.1 hx with rfl | hx
  ·obtain ⟨t1,t2,t3,o1,t4,t5,t6,t7⟩:=h1
   rw [t4] at hxo
   cases hxo
   rw [t6 (ho _ List.mem_cons_self),t3]
  ·exact ih (fun y hy=>ho y (List.mem_cons_of_mem _ hy)) x hx o hxo
theorem f2_at {α β:Type} {R:α→β→Prop} {l:List α} {m:List β} (h:F2 R l m):∀ {j:Nat} {a:α},l[j]? = some a→∃ b,m[j]? = some b∧R a b:=by
 induction h with
 | nil=>intro j a h; simp at h
 | cons h1 _ ih =>
  intro j a ha
  cases j with
  | zero=>simp at ha; subst ha; exact ⟨_,rfl,h1⟩
  | succ j=>simpa using ih (by simpa using ha)
section
variable {B:World} {Γ Δ:List HProp} {q:Bool→K} {f sd n T:Nat} {S:SchM} {nd ep rg ct:Int} {E:List EntX}
theorem zLS {Q:Sl→K} (hE:E.length ≤ 64)
  (h:∀ E' out X,F2 (Told n S.M) E E'→F2 OutIs E' X→HG B (SlC zAO 10 out (X.flatMap outL)::Sep.stars (X.map outO)::FrontR f nd ep rg ct E'::SchS sd n T S::Γ) (Q out)) :
  HG B (FrontR f nd ep rg ct E::SchS sd n T S::Γ) (zAW.call (some ⟨f,0,none⟩) (some ⟨sd,0,none⟩) Q):=by
 refine s_swap ?_
 refine s_sch fun st l a b c F J ho=>?_
 show HG B (SchR sd st ⟨some ⟨l,0,none⟩,a,b,c⟩::LocksR l S.G.1 S.G.2::StoreR st n S.M::SlC zB7 1 c ((J.map ptrJ).map Value.pointer)::Sep.stars (J.map jobO)::SlC zBN 1 a ((F.map ptrF).map Value.pointer)::Sep.stars (F.map (filO T))::SlI b S.fed::FrontR f nd ep rg ct E::Γ) _
 refine s_end (Δ:=FrontR f nd ep rg ct E::SchR sd st ⟨some ⟨l,0,none⟩,a,b,c⟩::StoreR st n S.M::LocksR l S.G.1 S.G.2::SlC zB7 1 c ((J.map ptrJ).map Value.pointer)::Sep.stars (J.map jobO)::SlC zBN 1 a ((F.map ptrF).map Value.pointer)::Sep.stars (F.map (filO T))::SlI b S.fed::Γ) ?_
 refine zMc hE fun E' out X hT hX=>?_
 refine s_end (Δ:=SchR sd st ⟨some ⟨l,0,none⟩,a,b,c⟩::LocksR l S.G.1 S.G.2::StoreR st n S.M::SlC zB7 1 c ((J.map ptrJ).map Value.pointer)::Sep.stars (J.map jobO)::SlC zBN 1 a ((F.map ptrF).map Value.pointer)::Sep.stars (F.map (filO T))::SlI b S.fed::SlC zAO 10 out (X.flatMap outL)::Sep.stars (X.map outO)::FrontR f nd ep rg ct E'::Γ) ?_
 show HG B (schF sd st l n T S a b c F J (SlC zAO 10 out (X.flatMap outL)::Sep.stars (X.map outO)::FrontR f nd ep rg ct E'::Γ)) _
 refine zFN ho ?_
 exact s_end (h E' out X hT hX)
theorem zSs {k:K} (h:(∀ e ∈ E,EntOk rg e)→HG B (FrontR f nd ep rg ct E::Γ) k):HG B (FrontR f nd ep rg ct E::Γ) k:=zFv fun s hok=>zDd hok (h hok)
theorem zSt {k:K} (h:(∀ x ∈ S.M,x.2.ok)→HG B (SchS sd n T S::Γ) k):HG B (SchS sd n T S::Γ) k:=s_sch fun st l a b c F J ho=>by
 refine s_own st ?_
 refine zRI fun hok=>?_
 refine s_ownS b ?_
 refine s_pick (Sep.stars (F.map (filO T))) ?_
 refine s_ownS a ?_
 refine s_pick (Sep.stars (J.map jobO)) ?_
 refine s_ownS c ?_
 refine s_own st ?_
 refine s_own l ?_
 refine s_own sd ?_
 exact zFN ho (h hok)
theorem zSu {M:Recs} (h:∀ x ∈ M,x.2.ok) (k:ByteArray):0 ≤ (sGet n M k).cnt∧(sGet n M k).cnt < 18446744073709551616:=by
 unfold sGet
 cases hg:getM M k with
 | none=>simp
 | some r =>
  have:=h _ (zN2 hg)
  simp only [Option.getD_some]
  obtain ⟨h1,h2,_⟩:=this
  simp only at h1 h2
  omega
theorem out_rd {X:List OutX} {x:OutX} {w:World} (hx:x ∈ X) (hw:Holds B (Sep.stars (X.map outO)::Γ) w):txRd w x.2.t∧RdC w x.2.ms 3 (x.2.mks.flatMap mkL):=by
 obtain ⟨Δ,hd⟩:=zMW (F:=outO) hx hw
 have h1:Holds B (SlC zAs 3 x.2.ms (x.2.mks.flatMap mkL)::txC x.2.t Δ) w:=(Holds.flat (Δ:=SlC zAs 3 x.2.ms (x.2.mks.flatMap mkL)::txC x.2.t [])).1 hd
 exact ⟨txC_rd h1.tail,(own_rd (s:=x.2.ms) h1).1⟩
theorem zNF {L:List TxX} {ts mv:Sl} {Mv:List TX} (hL:RdC B ts 5 (L.flatMap txL)) (hLr:∀ t ∈ L,txRd B t) (hM:RdC B mv 1 (Mv.map strV)) (h:HG B Γ (q true)):HG B Γ (zAB.call ts mv q):=fun w hw=>by
 refine zIi _ _ _ _ ?_
 have htn:ts.n = L.length:=rd_len (f:=txL) (esz:=5) (fun _=>rfl) (by omega) hL
 have hmn:mv.n = Mv.length:=by have:=hM.len; rw [List.length_map] at this; omega
 refine hg hw ?_
 clear hw w
 unfold zAB
 refine speaks21 ?_
 refine s_f ?_ (by rfl)
 have out:HG B Γ (zAB.s1 q ts mv true):=by
  unfold zAB.s1
  exact s_t h
 refine s_ite (fun hb=>out) fun hb=>?_
 have hL20:L.length ≤ 20:=by simp only [decide_eq_false_iff_not] at hb; omega
 by_cases hD:10 < Mv.length
 ·rw [show decide ((10:Int) < (mv.n:Int)) = true by simp; omega]
  exact out
 rw [show decide ((10:Int) < (mv.n:Int)) = false by simp; omega]
 unfold zAB.s1
 refine s_f ?_
 refine zKG fun f=>?_
 refine zRQ (n:=3) (by omega) (by omega) fun sd=>?_
 refine s_f ?_ (by rfl)
 unfold zAB.s2
 refine s_f ?_ (by rfl)
 refine s_end (Δ:=FrontR f 5 2 3 ((0:Nat):Int) []::SchS sd 3 0 (newM 3)::Γ) ?_
 refine s_loop (α:=Int×Int) (ι:=Nat×Nat×List EntX) (fun x i=>x.1 = (i.2.2.length:Int)∧x.2 = (i.1:Int)∧i.1 ≤ L.length∧i.2.1 ≤ i.1∧i.2.2.length ≤ i.1∧∀ e ∈ i.2.2,e.ord = none∧tagOk e.tag) (fun x i=>FrontR f 5 2 3 (i.2.1:Int) i.2.2::SchS sd 3 0 (newM 3)::Γ) (fun x i=>L.length - i.1) (0,0,[]) ⟨rfl,rfl,Nat.zero_le _,Nat.le_refl _,Nat.le_refl _,by simp⟩ ?_
 rintro k' ⟨_,_⟩ ⟨i,ct,E⟩ ⟨rfl,rfl,hi,hct,hEl,hEt⟩ hk'
 simp only at hi hct hEl hEt hk' ⊢
 unfold zAB.b3
 refine s_ite (fun hb=>?_) fun hb=>?_
 ·have hil:i < L.length:=by simp only [decide_eq_true_eq] at hb; omega
  have hge:L[i]? = some L[i]:=List.getElem?_eq_getElem hil
  have hmem:L[i] ∈ L:=List.getElem_mem hil
  generalize L[i] = t at hge hmem
  have ht:=hLr t hmem
  refine s_idxN txL (fun _=>rfl) (fun w hw=>hL.old hw) hge ?_
  refine s_new fun t10=>?_
  refine s_stN (b:=t10) (l':=txL t) ?_
  refine s_ldN (b:=t10) (l:=txL t) (l':=txL t) ?_
  refine zP0 (t:=t) (fun w hw=>zOO ht hw) ?_
  by_cases hg:GreatP t
  ·rw [decide_eq_true hg]
   refine s_t ?_ (by rfl)
   exact s_end h
  rw [decide_eq_false hg]
  refine s_f ?_ (by rfl)
  obtain ⟨z1,z2,z3,z4,z5⟩:=zSJ hg
  refine s_ldN (b:=t10) (l:=txL t) (l':=txL t) ?_
  refine s_own f ?_
  have S4:∀ {Ψ:List HProp} {ct2:Nat} {E2:List EntX},[d:Drops Ψ (FrontR f 5 2 3 (ct2:Int) E2::SchS sd 3 0 (newM 3)::Γ)]→ct2 ≤ i + 1→E2.length ≤ i + 1→(∀ e ∈ E2,e.ord = none∧tagOk e.tag) →
    HG B Ψ (zAB.s4 q (fun n8_3 t43_3=>k' (n8_3,t43_3)) mv (some ⟨f,0,none⟩) (some ⟨sd,0,none⟩) (E2.length:Int) ts (ts.n:Int) (i:Int)):=fun {Ψ ct2 E2 d} a1 a2 a3=>by
   unfold zAB.s4
   refine s_ai ?_
   exact s_end (d:=d) (hk' ((E2.length:Int),(i:Int) + 1) (i + 1,ct2,E2) ⟨rfl,by simp,hil,a1,a2,a3⟩ (by simp only; omega))
  refine zMb (t:=t) (fun w hw=>zOO ht hw) ⟨by omega,by omega,by omega⟩ (by omega) (fun hb=>?_) (fun hb=>by omega) fun hrt _ b t' ht'=>?_
  ·refine s_new fun t11=>?_
   refine s_stN (b:=t11) (l':=[.int .i64 0,.int .u64 0,.int .u64 0]) ?_
   refine s_f ?_ (by rfl)
   exact S4 (ct2:=ct) (E2:=E) (by omega) (by omega) hEt
  ·refine s_new fun t11=>?_
   refine s_stN (b:=t11) (l':=[.int .i64 5,.int .u64 2,.int .u64 ((ct:Int) + 1)]) ?_
   refine s_t ?_ (by rfl)
   refine s_ai ?_
   have hl2:((E++[(⟨b,⟨5,2,(ct:Int) + 1,0⟩,t',none⟩:EntX)]).length:Int) = (E.length:Int) + 1:=by simp
   rw [← hl2]
   have hc2:((ct + 1:Nat):Int) = (ct:Int) + 1:=by simp
   refine s_end (Δ:=FrontR f 5 2 3 ((ct:Int) + 1) (E++[(⟨b,⟨5,2,(ct:Int) + 1,0⟩,t',none⟩:EntX)])::SchS sd 3 0 (newM 3)::Γ) ?_
   show HG B (FrontR f 5 2 3 ((ct + 1:Nat):Int) (E++[(⟨b,⟨5,2,(ct:Int) + 1,0⟩,t',none⟩:EntX)])::SchS sd 3 0 (newM 3)::Γ) _
   refine S4 (ct2:=ct + 1) (by omega) (by simp; omega) fun e he=>?_
   rcases List.mem_append.1 he with he | he
   ·exact hEt e he
   ·rw [List.mem_singleton.1 he]
    refine ⟨rfl,?_⟩
    unfold tagOk
    simp only
    omega
 refine zLS (by omega) fun E' fo X hTold hX=>?_
 have hEE:=f2_len hTold
 have hEX:=f2_len hX
 have hsm:=zRU hTold
 have htg:=zRV hTold
 have hmk:=zQT hTold (fun e he=>(hEt e he).1)
 have htok:∀ e ∈ E',tagOk e.tag:=fun e he=>by
  have:e.tag ∈ E.map EntX.tag:=by rw [← htg]; exact List.mem_map.2 ⟨e,he,rfl⟩
  obtain ⟨y,hy,e1⟩:=List.mem_map.1 this
  rw [← e1]; exact (hEt y hy).2
 refine s_cap fo fun a1 a2 a3 a4=>?_
 rw [zAL _ 10 zD8] at a1
 refine s_f ?_ (by simp; omega)
 refine s_own f ?_
 refine zSs fun hok=>?_
 refine s_end (Δ:=SchS sd 3 0 (newM 3)::SlC zAO 10 fo (X.flatMap outL)::Sep.stars (X.map outO)::FrontR f 5 2 3 (ct:Int) E'::Γ) ?_
 refine s_loop (α:=Int) (ι:=Nat×SchM) (fun x i=>x = (i.1:Int)∧i.1 ≤ Mv.length) (fun x i=>SchS sd 3 (3 * i.1) i.2::SlC zAO 10 fo (X.flatMap outL)::Sep.stars (X.map outO)::FrontR f 5 2 3 (ct:Int) E'::Γ) (fun x i=>Mv.length - i.1) (0,newM 3) ⟨rfl,Nat.zero_le _⟩ ?_
 rintro k2 _ ⟨m,S⟩ ⟨rfl,hm⟩ hk2
 simp only at hm hk2 ⊢
 unfold zAB.b5
 refine s_ite (fun hb2=>?_) fun hb2=>s_end h
 have hml:m < Mv.length:=by simp only [decide_eq_true_eq] at hb2; omega
 have hgm:Mv[m]? = some Mv[m]:=List.getElem?_eq_getElem hml
 generalize Mv[m] = key at hgm
 refine s_idxS (L:=Mv) (fun w hw=>hM.old hw) hgm ?_
 have hks:(bs key).size = key.length:=rfl
 refine s_ite (fun hb3=>s_end h) fun hb3=>?_
 have hkl:key.length ≤ 16:=by simp only [decide_eq_false_iff_not] at hb3; omega
 refine s_ai ?_
 refine s_ar (wrapU64 (by omega) (by omega)) ?_
 refine s_bldF (cs:=tagF ⟨0,9,(m:Int) + 1,0⟩) ?_
 refine s_new fun t85=>?_
 refine s_cd (by omega) ?_
 refine s_ar (e':=((m % 3:Nat):Int)) (by rw [Int.ofNat_tmod]; rfl) ?_
 have hk1:keysT (([]:List TX)++[key]) = [key]:=by
  refine zKU (zKE _) (List.pairwise_singleton _ _) fun x=>?_
  rw [zGz]; rfl
 refine s_own sd ?_
 refine zSt fun hrec=>?_
 refine zSr (tag:=⟨0,9,(m:Int) + 1,0⟩) (t:=⟨2,[],[key],[],((m % 3:Nat):Int),⟨none,0,0⟩,⟨some ⟨t85,0,none⟩,1,1⟩,⟨none,0,0⟩⟩) (fun w hw=>⟨RdC.none',?_,RdC.none',by simp⟩) (by simp) (fun x hx=>by simp at hx; rw [hx]; omega) fun t' ms ht'=>?_
 ·exact RdC.of_blk (E:=zBy) (b:=t85) (vs:=[strV key]) (cs:=#[strV key]) hw List.mem_cons_self rfl rfl 1
 simp only
 rw [hk1]
 have hops:t'.ops = []:=by have:=ht'.2.2.2.2; simpa using this
 have hl:t'.reads.length ≤ 1000∧t'.writes.length ≤ 1000∧t'.ops.length ≤ 1000:=by
  rw [ht'.2.2.1,ht'.2.2.2.1,hops]; simp
 have hmc:∀ x ∈ mksOf 3 S.M [key],0 ≤ x.cnt∧x.cnt < 18446744073709551616:=fun x hx=>by
  obtain ⟨y,_,rfl⟩:=List.mem_map.1 hx
  exact zSu hrec _
 have hml2:(mksOf 3 S.M [key]).length ≤ 1000:=by simp [mksOf]
 generalize mksOf 3 S.M [key] = mks at hmc hml2
 refine s_nx ?_
 refine s_new fun x16=>?_
 refine s_stN (b:=x16) (l':=itV 2 (m:Int) ⟨0,9,(m:Int) + 1,0⟩ t' ms) ?_
 refine s_end (Δ:=SchS sd 3 (3 * m) S::blk x16 (.cells (itV 2 (m:Int) ⟨0,9,(m:Int) + 1,0⟩ t' ms).toArray zC9 (0,0))::SlC zAs 3 ms (mks.flatMap mkL)::txC t' (SlC zAO 10 fo (X.flatMap outL)::Sep.stars (X.map outO)::FrontR f 5 2 3 (ct:Int) E'::Γ)) ?_
 refine s_loop (α:=Int) (ι:=Nat×SchM) (fun x i=>x = (i.1:Int)∧i.1 ≤ 3) (fun x i=>SchS sd 3 (3 * m + i.1) i.2::blk x16 (.cells (itV 2 (m:Int) ⟨0,9,(m:Int) + 1,0⟩ t' ms).toArray zC9 (0,0))::SlC zAs 3 ms (mks.flatMap mkL)::txC t' (SlC zAO 10 fo (X.flatMap outL)::Sep.stars (X.map outO)::FrontR f 5 2 3 (ct:Int) E'::Γ)) (fun x i=>3 - i.1) (0,S) ⟨rfl,by omega⟩ ?_
 rintro k3 _ ⟨r,S3⟩ ⟨rfl,hr3⟩ hk3
 simp only at hr3 hk3 ⊢
 unfold zAB.b6
 refine s_ite (fun hb4=>?_) fun hb4=>?_
 ·have hr:r < 3:=by simp only [decide_eq_true_eq] at hb4; omega
  refine s_ldN (b:=x16) (l:=itV 2 (m:Int) ⟨0,9,(m:Int) + 1,0⟩ t' ms) (l':=itV 2 (m:Int) ⟨0,9,(m:Int) + 1,0⟩ t' ms) ?_
  refine zT3 (r:=(r:Int)) (mks:=mks) (by omega) (fun w hw=>txC_rd (Γ:=[]) hw.drops) (fun w hw=>(own_rd (s:=ms) hw).1) (by rw [hops]; simp) (by simp) (by simp only; omega) hmc hl hml2 fun s1 D1 _ _=>?_
  refine s_ai ?_
  refine s_end (Δ:=SchS sd 3 (3 * m + r + 1) (feedM 3 (r:Int) 2 (m:Int) ⟨0,9,(m:Int) + 1,0⟩ t' mks S3).1::blk x16 (.cells (itV 2 (m:Int) ⟨0,9,(m:Int) + 1,0⟩ t' ms).toArray zC9 (0,0))::SlC zAs 3 ms (mks.flatMap mkL)::txC t' (SlC zAO 10 fo (X.flatMap outL)::Sep.stars (X.map outO)::FrontR f 5 2 3 (ct:Int) E'::Γ)) ?_
  exact hk3 ((r:Int) + 1) (r + 1,(feedM 3 (r:Int) 2 (m:Int) ⟨0,9,(m:Int) + 1,0⟩ t' mks S3).1) ⟨by simp,by omega⟩ (by simp only; omega)
 have hr:r = 3:=by simp only [decide_eq_false_iff_not] at hb4; omega
 subst hr
 refine s_end (Δ:=FrontR f 5 2 3 (ct:Int) E'::SchS sd 3 (3 * m + 3) S3::SlC zAO 10 fo (X.flatMap outL)::Sep.stars (X.map outO)::Γ) ?_
 refine zLS (by omega) fun E2 ag Y hT2 hY=>?_
 have hE2:=zRT hT2 hsm
 subst hE2
 have hEY:=f2_len hY
 refine s_cap ag fun b1 b2 b3 b4=>?_
 rw [zAL _ 10 zD8] at b1
 refine s_f ?_ (by simp; omega)
 refine s_loop (α:=Int) (ι:=Nat) (fun x j=>x = (j:Int)∧j ≤ E2.length) (fun x j=>SlC zAO 10 ag (Y.flatMap outL)::Sep.stars (Y.map outO)::FrontR f 5 2 3 (ct:Int) E2::SchS sd 3 (3 * m + 3) S3::SlC zAO 10 fo (X.flatMap outL)::Sep.stars (X.map outO)::Γ) (fun x j=>E2.length - j) 0 ⟨rfl,Nat.zero_le _⟩ ?_
 rintro k4 _ j ⟨rfl,hj⟩ hk4
 unfold zAB.b7
 refine s_ite (fun hb5=>?_) fun hb5=>?_
 rotate_left
 ·refine s_ai ?_
  refine s_end (Δ:=SchS sd 3 (3 * (m + 1)) S3::SlC zAO 10 fo (X.flatMap outL)::Sep.stars (X.map outO)::FrontR f 5 2 3 (ct:Int) E2::Γ) ?_
  exact hk2 ((m:Int) + 1) (m + 1,S3) ⟨by simp,hml⟩ (by simp only; omega)
 have hjl:j < E2.length:=by simp only [decide_eq_true_eq] at hb5; omega
 have hgj:E2[j]? = some E2[j]:=List.getElem?_eq_getElem hjl
 have hmj:E2[j] ∈ E2:=List.getElem_mem hjl
 generalize E2[j] = e at hgj hmj
 obtain ⟨⟨xg,xo⟩,hx,hx1,hx2,ox,hx3,hx4⟩:=f2_at hX hgj
 obtain ⟨⟨yg,yo⟩,hy,hy1,hy2,oy,hy3,hy4⟩:=f2_at hY hgj
 have hx1:xg = e.tag:=hx1
 have hy1:yg = e.tag:=hy1
 have hx2:TxIs xo.t e.tx:=hx2
 have hy2:TxIs yo.t e.tx:=hy2
 have hx4:xo.mks = ox.mks:=hx4
 have hy4:yo.mks = oy.mks:=hy4
 subst hx1
 subst hy1
 have hoo:oy = ox:=by rw [hx3] at hy3; exact (Option.some.inj hy3).symm
 subst hoo
 obtain ⟨he1,he2⟩:=hok e hmj
 have hmarks:=hmk e hmj oy hx3
 obtain ⟨k1,k2,k3,k4'⟩:=zFf he1
 have hmade:=zT4 (n:=3) (g:=e.tag) (t:=e.tx) (htok e hmj) (by omega) (by omega) he1 he1
 have hmks:oy.mks = mksOf 3 [] (keysT (e.tx.reads++e.tx.writes)):=hmarks
 rw [← hmks] at hmade
 have hoky:=zQS hy2 hmade.2
 have hyl:yo.t.reads.length ≤ 8∧yo.t.writes.length ≤ 8∧yo.t.ops.length ≤ 16:=by
  have e5:=congrArg List.length hy2.2.2.2.2
  simp only [List.length_map] at e5
  rw [hy2.2.2.1,hy2.2.2.2.1,e5]
  omega
 have hmkl:oy.mks.length ≤ 1000:=(he2 oy hx3).2
 have hxy:SameP yo.t xo.t:=by
  obtain ⟨p1,p2,p3,p4,p5⟩:=hx2
  obtain ⟨q1,q2,q3,q4,q5⟩:=hy2
  exact ⟨q1.trans p1.symm,q2.trans p2.symm,q3.trans p3.symm,q4.trans p4.symm,q5.trans p5.symm⟩
 refine s_dr ?_
 refine s_wsP (fun w=>RdC w ag 10 (Y.flatMap outL)∧RdC w fo 10 (X.flatMap outL)) (fun w hw=>⟨(own_rd (s:=ag) hw).1,(own_rd (s:=fo) hw).1⟩) ?_
 refine zFs outL (L:=Y) (j:=j) zD8 (by omega) (fun w hw=>(own_rd (s:=ag) hw).1) hy (fun a1 ha1=>?_)
 refine zFs outL (L:=X) (j:=j) zD8 (by omega) (fun w hw=>(own_rd (s:=fo) hw).1) hx (fun a2 ha2=>?_)
 refine zHj (l:=orV e.tag yo.t yo.ms) (fun w hS=>ha1 w hS.1) ?_
 refine zHj (l:=orV e.tag xo.t xo.ms) (fun w hS=>ha2 w hS.2) ?_
 have rdY:∀ w,Holds B (SlC zAO 10 ag (Y.flatMap outL)::Sep.stars (Y.map outO)::FrontR f 5 2 3 (ct:Int) E2::SchS sd 3 (3 * m + 3) S3::SlC zAO 10 fo (X.flatMap outL)::Sep.stars (X.map outO)::Γ) w→txRd w yo.t∧RdC w yo.ms 3 (oy.mks.flatMap mkL):=fun w hw=>by
  have:=out_rd (Γ:=[]) (List.mem_of_getElem? hy) hw.drops
  rw [hy4] at this
  exact this
 have rdX:∀ w,Holds B (SlC zAO 10 ag (Y.flatMap outL)::Sep.stars (Y.map outO)::FrontR f 5 2 3 (ct:Int) E2::SchS sd 3 (3 * m + 3) S3::SlC zAO 10 fo (X.flatMap outL)::Sep.stars (X.map outO)::Γ) w→txRd w xo.t∧RdC w xo.ms 3 (oy.mks.flatMap mkL):=fun w hw=>by
  have:=out_rd (Γ:=[]) (List.mem_of_getElem? hx) hw.drops
  rw [hx4] at this
  exact this
 refine zRS (L:=oy.mks) hxy (by omega) (fun w hw=>(rdY w hw).1) (fun w hw=>(rdX w hw).1) (fun w hw=>(rdY w hw).2) (fun w hw=>(rdX w hw).2) ⟨by omega,by omega,by omega⟩ ?_
 refine s_svP (fun w hw=>⟨(own_rd (s:=ag) hw).1,(own_rd (s:=fo) hw).1⟩) ?_
 refine s_f ?_ (by rfl)
 refine zFs outL (L:=Y) (j:=j) zD8 (by omega) (fun w hw=>(own_rd (s:=ag) hw).1) hy (fun a3 ha3=>?_)
 refine zHj (l:=orV e.tag yo.t yo.ms) (fun w hS=>ha3 w hS.1) ?_
 refine zOr (L:=oy.mks) (htok e hmj) hoky.1 (fun w hw=>(rdY w hw).1) (fun w hw=>(rdY w hw).2) ⟨by omega,by omega,by omega⟩ hoky.2.2.1 hoky.2.2.2 ?_
 refine s_svP (fun w hw=>⟨(own_rd (s:=ag) hw).1,(own_rd (s:=fo) hw).1⟩) ?_
 refine s_f ?_ (by rfl)
 refine zFs outL (L:=Y) (j:=j) zD8 (by omega) (fun w hw=>(own_rd (s:=ag) hw).1) hy (fun a4 ha4=>?_)
 refine zHj (l:=idF e.tag) (fun w hS i hi=>?_) ?_
 ·have h3:i < 3:=hi
  have:=ha4 w hS.1 i (by show i < 10; omega)
  rw [this]
  match i,h3 with
  | 0,_=>rfl
  | 1,_=>rfl
  | 2,_=>rfl
 refine s_own f ?_
 refine zPV (by omega) fun os hos=>?_
 refine s_svP (fun w hw=>⟨(own_rd (s:=ag) hw).1,(own_rd (s:=fo) hw).1⟩) ?_
 refine s_idxN (fun e:EntX=>idF e.tag) (L:=E2) (j:=j) (fun _=>rfl) (fun w hw=>(own_rd (s:=os) hw).1) hgj ?_
 refine s_neS (xs:=idF e.tag) (ys:=idF e.tag) (ks:=idK) (p:=True) (by simp) ?_
 unfold zAB.s8
 refine s_f ?_ (by simp)
 refine s_ai ?_
 exact s_end (hk4 ((j:Int) + 1) (j + 1) ⟨by simp,hjl⟩ (by show E2.length - (j + 1) < E2.length - j; omega))
open Go.RowKit in
theorem zLT (W:World) (s0:Sl) (y0:Rdy W zG1 (Sl.val s0).cells.toList) (s1:Sl) (y1:Rdy W zHf (Sl.val s1).cells.toList) :
  Calls Tryz.prog 4 #[s0.val,s1.val] W (Ret fun v w'=>v = .bool true∧Below W.heap.size W w'):=by
 obtain ⟨h1,h2⟩:=rdy_sl y0
 obtain ⟨g1,g2⟩:=rdy_sl y1
 obtain ⟨L,_,hL,hd⟩:=zJM txL (fun t=>txRd W t) (fun _=>rfl) h1 h2 fun cs hc hr=>by
  obtain ⟨t,e,h3,h4⟩:=zTt (cs:=cs.toArray) (by simpa using hc) hr
  exact ⟨t,by simpa using congrArg Array.toList e,h3⟩
 obtain ⟨M,hM⟩:=zJI g1 g2
 exact zRl (zNF (Γ:=[]) hL hd hM (fun w h=>⟨rfl,h⟩) W (Holds.start W))
end
end Go.Proofs.YtdemfamgieonbaaGreat
