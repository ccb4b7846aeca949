/- Texts of the claim DurablePlays, one behind the other. -/
import Derived.Test.YtgmbfnboiobeaaaGreatDurablePlaysM3
import Derived.Laws.StructEq
set_option linter.all false
set_option maxRecDepth 100000
namespace Go.Proofs.YtgmbfnboiobeaaaGreat
section
open Go Go.Sep Go.Sep.Bt
def zCn (i:Int):List qU→Option qU
 | []=>none
 | v::V=>if v.1 = i then some v else zCn i V
theorem zAX (i:Int) (v:qU) (V:List qU):zCn i (v::V) = if v.1 = i then some v else zCn i V:=rfl
theorem zMi {i:Int}:∀ {V:List qU},(∀ v ∈ V,v.1 ≠ i)→zCn i V = none
 | [],_=>rfl
 | v::V,h=>by rw [zAX,if_neg (h v (by simp))]; exact zMi fun x hx=>h x (by simp [hx])
theorem zH7 {i:Int} {x:qU}:∀ V:List qU,zCn i (zBE x V) = if i = x.1 then some x else zCn i V
 | []=>by
  show zCn i [x] = _
  rw [zAX]
  by_cases h:i = x.1
  ·rw [if_pos h,if_pos h.symm]
  ·rw [if_neg h,if_neg fun e=>h e.symm]
 | y::V=>by
  unfold zBE
  by_cases h:i = x.1
  ·rw [if_pos h]
   split
   ·rw [zAX,if_pos h.symm]
   split
   ·rw [zAX,if_pos h.symm]
   ·rw [zAX,zH7 V,if_pos h,if_neg (by omega)]
  ·rw [if_neg h]
   split
   ·rw [zAX,if_neg fun e=>h e.symm]
   split
   ·rw [zAX,zAX,if_neg fun e=>h e.symm,if_neg (by omega)]
   ·rw [zAX,zAX,zH7 V,if_neg h]
theorem zH8 {x y:qU}:∀ {V:List qU},y ∈ zBE x V→y = x∨y ∈ V
 | [],h=>by simpa [zBE] using h
 | z::V,h=>by
  unfold zBE at h
  split at h
  ·simpa using h
  split at h
  ·rcases List.mem_cons.1 h with h | h
   ·exact .inl h
   ·exact .inr (by simp [h])
  ·rcases List.mem_cons.1 h with h | h
   ·exact .inr (by simp [h])
   ·rcases zH8 h with h | h
    ·exact .inl h
    ·exact .inr (by simp [h])
theorem zK7 {x:qU}:∀ {V:List qU},zFp V→zFp (zBE x V)
 | [],_=>by simp [zBE,zFp]
 | z::V,h=>by
  have h0:=List.pairwise_cons.1 h
  unfold zBE
  split
  ·rename_i h1
   refine List.pairwise_cons.2 ⟨fun y hy=>?_,h⟩
   rcases List.mem_cons.1 hy with rfl | hy
   ·exact h1
   ·have:=h0.1 y hy; omega
  split
  ·rename_i h1 h2
   exact List.pairwise_cons.2 ⟨fun y hy=>by have:=h0.1 y hy; omega,h0.2⟩
  ·rename_i h1 h2
   refine List.pairwise_cons.2 ⟨fun y hy=>?_,zK7 h0.2⟩
   rcases zH8 hy with rfl | hy
   ·omega
   ·exact h0.1 y hy
abbrev upto (n i:Int) (V:List qU):List qU:=V.filter fun v=>decide (v.1 < i) && decide (n ≤ v.1)
theorem zMj {n i:Int}:∀ {V:List qU},zFp V→upto n (i + 1) V = upto n i V++(if n ≤ i then (zCn i V).toList else [])
 | [],_=>by simp [upto,zCn]
 | v::V,h=>by
  have h0:=List.pairwise_cons.1 h
  rcases Int.lt_trichotomy v.1 i with h1 | h1 | h1
  ·have e:zCn i (v::V) = zCn i V:=by rw [zAX,if_neg (by omega)]
   rw [e]
   have ih:=zMj (n:=n) (i:=i) h0.2
   by_cases h2:n ≤ v.1
   ·have e1:upto n (i + 1) (v::V) = v::upto n (i + 1) V:=by simp [upto,h2,show v.1 < i + 1 by omega]
    have e2:upto n i (v::V) = v::upto n i V:=by simp [upto,h2,h1]
    rw [e1,e2,ih]; rfl
   ·have e1:upto n (i + 1) (v::V) = upto n (i + 1) V:=by simp [upto,h2]
    have e2:upto n i (v::V) = upto n i V:=by simp [upto,h2]
    rw [e1,e2,ih]
  ·have e:zCn i (v::V) = some v:=by rw [zAX,if_pos h1]
   rw [e]
   have n1:upto n (i + 1) V = []:=List.filter_eq_nil_iff.2 fun y hy=>by have:=h0.1 y hy; simp; omega
   have n2:upto n i V = []:=List.filter_eq_nil_iff.2 fun y hy=>by have:=h0.1 y hy; simp; omega
   have e2:upto n i (v::V) = upto n i V:=by simp [upto,show ¬ v.1 < i by omega]
   rw [e2,n2]
   by_cases h2:n ≤ i
   ·have e1:upto n (i + 1) (v::V) = v::upto n (i + 1) V:=by simp [upto,show n ≤ v.1 by omega,show v.1 < i + 1 by omega]
    rw [e1,n1,if_pos h2]; rfl
   ·have e1:upto n (i + 1) (v::V) = upto n (i + 1) V:=by simp [upto,show ¬ n ≤ v.1 by omega]
    rw [e1,n1,if_neg h2]; rfl
  ·have e:zCn i (v::V) = none:=zMi fun y hy=>by
    rcases List.mem_cons.1 hy with rfl | hy
    ·omega
    ·have:=h0.1 y hy; omega
   rw [e]
   have nn:∀ j:Int,j ≤ i + 1→upto n j (v::V) = []:=fun j hj=>List.filter_eq_nil_iff.2 fun y hy=>by
    rcases List.mem_cons.1 hy with rfl | hy
    ·simp; omega
    ·have:=h0.1 y hy; simp; omega
   rw [nn _ (by omega),nn _ (by omega)]
   simp
theorem zSu {n:Int} {V:List qU} (h:∀ v ∈ V,0 ≤ v.1):upto n 0 V = []:=List.filter_eq_nil_iff.2 fun y hy=>by have:=h y hy; simp; omega
theorem zUs {n:Int} {V:List qU} (hs:zFp V) (h:∀ v ∈ V,v.1 < 64):upto n 64 V = jv n V:=by
 obtain ⟨A,h1,h2,h3⟩:=zFq n hs
 have h4:upto n 64 A = []:=List.filter_eq_nil_iff.2 fun y hy=>by have:=h2 y hy; simp; omega
 have h5:upto n 64 (jv n V) = jv n V:=List.filter_eq_self.2 fun y hy=>by
  have:=h3 y hy
  have:=h y (by rw [h1]; simp [hy])
  simp; omega
 conv=>lhs; rw [h1]
 show (A++jv n V).filter _ = _
 rw [List.filter_append]
 show upto n 64 A++upto n 64 (jv n V) = _
 rw [h4,h5]; rfl
def dvG (p:Int) (h:Nat→Bool) (g:Nat→List Value):List Value:=.int .u64 p::((List.range 64).map fun i=>Value.bool (h i))++(List.range 64).flatMap g
def dvZ:List Value:=[.int .i64 0,.int .u64 0,.string ⟨#[]⟩]
def dvF (o:Option qU):List Value:=match o with
 | none=>dvZ
 | some v=>qo v
theorem zH9 (o:Option qU):(dvF o).length = 3:=by cases o <;> rfl
def dvL (p:Int) (V:List qU):List Value:=dvG p (fun i=>(zCn i V).isSome) fun i=>dvF (zCn i V)
section
variable {p:Int} {h:Nat→Bool} {g:Nat→List Value}
theorem zN1 (hg:∀ i,(g i).length = 3):∀ n,((List.range n).flatMap g).length = n * 3
 | 0=>rfl
 | n + 1=>by rw [List.range_succ,List.flatMap_append,List.length_append,zN1 hg n]; simp [hg]; omega
theorem zKF (hg:∀ i,(g i).length = 3):(dvG p h g).length = 257:=by
 unfold dvG
 rw [List.length_append,zN1 hg]
 simp
theorem zWW {i:Nat} (hi:i < 64):(dvG p h g)[1 + i]? = some (.bool (h i)):=by
 unfold dvG
 rw [List.getElem?_append_left (by simp; omega),Nat.add_comm,List.getElem?_cons_succ]
 simp [hi]
theorem zK8 (hg:∀ i,(g i).length = 3) {i n:Nat} (hi:i < n):(List.range n).flatMap g = (List.range i).flatMap g++g i++((List.range n).drop (i + 1)).flatMap g:=by
 have e:List.range n = List.range i++i::(List.range n).drop (i + 1):=by
  have h1:=(List.take_append_drop i (List.range n)).symm
  rw [List.drop_eq_getElem_cons (by simpa using hi)] at h1
  rw [List.take_range,Nat.min_eq_left (Nat.le_of_lt hi)] at h1
  simpa using h1
 conv=>lhs; rw [e]
 simp
theorem zUt (hg:∀ i,(g i).length = 3) {i:Nat} (hi:i < 64):((dvG p h g).drop (65 + i * 3)).take 3 = g i:=by
 have hl:(Value.int .u64 p::(List.range 64).map fun i=>Value.bool (h i)).length = 65:=by simp
 unfold dvG
 rw [List.drop_append,hl,List.drop_eq_nil_of_le (by rw [hl]; omega),List.nil_append,show 65 + i * 3 - 65 = i * 3 by omega,zK8 hg hi,List.append_assoc,List.drop_left' (zN1 hg i),List.take_left' (hg i)]
theorem zQq {i:Nat} (hi:i < 64):(dvG p h g).set (1 + i) (.bool true) = dvG p (fun j=>if j = i then true else h j) g:=by
 unfold dvG
 rw [List.set_append_left _ _ (by simp; omega),Nat.add_comm,List.set_cons_succ]
 congr 2
 apply List.ext_getElem?
 intro j
 rw [List.getElem?_set]
 by_cases hj:i = j
 ·subst hj; simp [hi]
 ·rw [if_neg hj]
  simp only [List.getElem?_map]
  by_cases hj2:j < 64
  ·simp [hj2,show ¬ j = i from fun e=>hj e.symm]
  ·rw [List.getElem?_eq_none (by simpa using hj2)]; rfl
theorem zPW (hg:∀ i,(g i).length = 3) {i:Nat} {us:List Value} (hi:i < 64) (hu:us.length = 3):(dvG p h g).take (65 + i * 3)++us++(dvG p h g).drop (65 + i * 3 + 3) = dvG p h (fun j=>if j = i then us else g j):=by
 have hl:(Value.int .u64 p::(List.range 64).map fun i=>Value.bool (h i)).length = 65:=by simp
 have hg':∀ j,((fun j=>if j = i then us else g j) j).length = 3:=fun j=>by
  simp only
  split
  ·exact hu
  ·exact hg j
 unfold dvG
 rw [zK8 hg hi,zK8 hg' hi]
 have e1:(List.range i).flatMap (fun j=>if j = i then us else g j) = (List.range i).flatMap g:=by
  rw [List.flatMap_def,List.flatMap_def]
  congr 1
  refine List.map_congr_left fun j hj=>?_
  have:=List.mem_range.1 hj
  rw [if_neg (by omega)]
 have e2:((List.range 64).drop (i + 1)).flatMap (fun j=>if j = i then us else g j) = ((List.range 64).drop (i + 1)).flatMap g:=by
  rw [List.flatMap_def,List.flatMap_def]
  congr 1
  refine List.map_congr_left fun j hj=>?_
  obtain ⟨m,hm,hm2⟩:=List.mem_iff_getElem.1 hj
  rw [List.getElem_drop,List.getElem_range] at hm2
  rw [if_neg (by omega)]
 rw [e1,e2,if_pos rfl]
 generalize (Value.int .u64 p::(List.range 64).map fun i=>Value.bool (h i)) = H at hl ⊢
 have hA:=zN1 hg i
 generalize (List.range i).flatMap g = A at hA ⊢
 generalize ((List.range 64).drop (i + 1)).flatMap g = C
 have hgi:=hg i
 generalize g i = M at hgi ⊢
 have t1:(H++(A++M++C)).take (65 + i * 3) = H++A:=by
  rw [show H++(A++M++C) = (H++A)++(M++C) by simp]
  exact List.take_left' (by simp [hl,hA])
 have t2:(H++(A++M++C)).drop (65 + i * 3 + 3) = C:=by
  rw [show H++(A++M++C) = (H++A++M)++C by simp]
  exact List.drop_left' (by simp [hl,hA,hgi]; omega)
 rw [t1,t2]; simp
end
theorem zWX {v:qU} {V:List qU} {i:Nat} (hi:v.1 = (i:Int)):dvG v.2.1 (fun j=>if j = i then true else (zCn j V).isSome) (fun j=>if j = i then qo v else dvF (zCn j V)) = dvL v.2.1 (zBE v V):=by
 unfold dvL
 congr 1
 ·funext j
  rw [zH7,hi]
  by_cases hj:j = i
  ·subst hj; simp
  ·rw [if_neg hj,if_neg (by omega)]
 ·funext j
  rw [zH7,hi]
  by_cases hj:j = i
  ·subst hj; simp [dvF]
  ·rw [if_neg hj,if_neg (by omega)]
theorem zXU:∀ {V:List qU} (a:Int),a ≤ 64→zFp V→(∀ v ∈ V,a ≤ v.1∧v.1 < 64)→(V.length:Int) ≤ 64 - a
 | [],a,h,_,_=>by simp; omega
 | v::V,a,h,hs,hr=>by
  have h0:=List.pairwise_cons.1 hs
  have h1:=hr v (by simp)
  have:=zXU (v.1 + 1) (by omega) h0.2 fun x hx=>by have:=h0.1 x hx; have:=hr x (by simp [hx]); omega
  simp only [List.length_cons]
  omega
theorem zWY {V:List qU} (hs:zFp V) (hr:∀ v ∈ V,0 ≤ v.1∧v.1 < 64):V.length ≤ 64:=by
 have:=zXU 0 (by omega) hs hr
 omega
def xA (vb:Nat) (p:Int) (V:List qU):zB:=Sep.stars [pur (zFp V∧∀ v ∈ V,0 ≤ v.1∧v.1 < 64),blk vb (.cells (dvL p V).toArray xC (0,0))]
section
variable {B:World} {Γ Δ:List zB} {k Q:K} {vb:Nat} {p b:Int} {V:List qU}
theorem zQr (h:zFp V→(∀ v ∈ V,0 ≤ v.1∧v.1 < 64)→HG B (blk vb (.cells (dvL p V).toArray xC (0,0))::Γ) k):HG B (xA vb p V::Γ) k:=zCY <| zHd fun h1=>h h1.1 h1.2
theorem zD7 (h1:zFp V) (h2:∀ v ∈ V,0 ≤ v.1∧v.1 < 64) (h:HG B (xA vb p V::Γ) k):HG B (blk vb (.cells (dvL p V).toArray xC (0,0))::Γ) k:=fun w hw=>h w (Holds.flat.2 (Holds.pur.2 ⟨⟨h1,h2⟩,hw⟩))
instance (priority:=high) zbD:Sep.Own vb (xA vb p V::Γ) (xA vb p V) Γ:=⟨.refl _⟩
theorem zN2 {a:Addr} {len esz i:Nat} {k:Addr→K} (hi:i < len) (h:HG B Γ (k (a.add (i * esz)))):HG B Γ (zCO a len (i:Int) esz k):=fun w hw=>⟨_,by omega,by omega,rfl,by simpa using h w hw⟩
theorem zUu {n:Int} {q:Sl→K} (h:∀ s,HG B (SlC z8 3 s ((jv n V).flatMap qo)::xA vb p V::Γ) (q s)):HG B (xA vb p V::Γ) (yZ.call (some ⟨vb,0,none⟩) n q):=by
 refine zQr fun hs hr=>?_
 have hgl:∀ i:Nat,(dvF (zCn (i:Int) V)).length = 3:=fun i=>zH9 _
 refine fun w hw=>zGV _ _ _ _ ?_
 refine hg hw ?_
 clear hw w
 unfold yZ
 refine ql fun t7=>?_
 refine fun w hw=>hg (show Holds B (SlC z8 3 ⟨some ⟨t7,0,none⟩,0,0⟩ ((upto n (((0:Nat):Int)) V).flatMap qo)::blk vb (.cells (dvL p V).toArray xC (0,0))::Γ) w from by
  rw [show upto n (((0:Nat):Int)) V = [] from zSu fun v hv=>(hr v hv).1]
  exact hw.imp (zA0 rfl rfl)) ?_
 clear hw w
 refine jm (α:=Sl×Int) (ι:=Nat) (fun x i=>x.2 = (i:Int)∧i ≤ 64) (fun x i=>SlC z8 3 x.1 ((upto n (i:Int) V).flatMap qo)::blk vb (.cells (dvL p V).toArray xC (0,0))::Γ) (fun x i=>64 - i) 0 ⟨rfl,by omega⟩ ?_
 rintro k' ⟨s,_⟩ i ⟨rfl,hi⟩ hk'
 simp only at hk' ⊢
 unfold yZ.b1
 refine yA (fun h1=>?_) fun h1=>?_
 rotate_left
 ·have:i = 64:=by simp only [decide_eq_false_iff_not] at h1; omega
  subst this
  rw [show upto n (((64:Nat):Int)) V = jv n V from zUs hs fun v hv=>(hr v hv).2]
  refine vD ?_
  refine zD7 hs hr ?_
  exact vD (h s)
 have hi2:i < 64:=by simp only [decide_eq_true_eq] at h1; omega
 have hst:=zMj (n:=n) (i:=(i:Int)) hs
 refine xM ?_
 rw [show ((⟨vb,0,none⟩:Addr).add 1) = ⟨vb,1,none⟩ from rfl]
 refine zN2 hi2 ?_
 refine yE (b:=vb) (l:=dvL p V) (x:=(zCn (i:Int) V).isSome) ?_ (by rw [zGq,Nat.mul_one]; exact zWW hi2)
 have next:∀ {s':Sl} {W:List qU},W = upto n ((i + 1:Nat):Int) V→HG B (SlC z8 3 s' (W.flatMap qo)::blk vb (.cells (dvL p V).toArray xC (0,0))::Γ) (yZ.s2 q (fun a b=>k' (a,b)) (some ⟨vb,0,none⟩) n s' (i:Int)):=fun {s' W} hW=>by
  subst hW
  unfold yZ.s2
  refine zAn ?_
  exact hk' (s',(i:Int) + 1) (i + 1) ⟨by simp,by omega⟩ (by omega)
 have hcast:((i + 1:Nat):Int) = (i:Int) + 1:=by omega
 unfold yZ.s3
 cases hv:zCn (i:Int) V with
 | none=>
  rw [hv] at hst
  refine s_f ?_ (by rfl)
  refine s_f ?_ (by rfl)
  exact next (by rw [hcast,hst]; split <;> simp)
 | some v=>
  rw [hv] at hst
  refine s_t ?_ (by rfl)
  refine yA (fun h2=>?_) fun h2=>?_
  ·refine xM ?_
   rw [show ((⟨vb,0,none⟩:Addr).add 65) = ⟨vb,65,none⟩ from rfl]
   refine zN2 hi2 ?_
   refine zDH (b:=vb) (l:=dvL p V) (l':=qo v) ?_ (by
    have:=zUt (p:=p) (h:=fun i=>(zCn i V).isSome) hgl hi2
    rw [hv] at this
    exact this) rfl
   refine zGu (zero:=[.int .i64 0,.int .u64 0,.string ⟨#[]⟩]) ?_ rfl rfl
   refine vw s fun a1 a2 a3 a4=>?_
   rw [yu _ 3 zCF] at a1
   refine zKe (m:=1) (us:=qo v) (fun s2 hs2=>?_) (by
    have h8:(upto n (i:Int) V).length ≤ V.length:=List.length_filter_le ..
    have h9:=zWY hs hr
    omega)
   have e:(upto n (i:Int) V).flatMap qo++qo v = (upto n (i:Int) V++[v]).flatMap qo:=by simp
   rw [e]
   exact next (by rw [hcast,hst,if_pos (by simpa using h2)]; rfl)
  ·exact next (by rw [hcast,hst,if_neg (by simpa using h2)]; simp)
theorem zFs {n:Int} {q:Sl→Bool→K} (hno:b < p→∀ t,HG B (blk t (.cells (#[]:Array Value) z8 (0,0))::xA vb p V::Γ) (q ⟨some ⟨t,0,none⟩,0,0⟩ false)) (hyes:p ≤ b→∀ s,HG B (SlC z8 3 s ((jv n V).flatMap qo)::xA vb b V::Γ) (q s true)):HG B (xA vb p V::Γ) (uS.call (some ⟨vb,0,none⟩) b n q):=by
 refine fun w hw=>zEs _ _ _ _ _ ?_
 refine hg hw ?_
 clear hw w
 refine zQr fun hs hr=>?_
 unfold uS
 refine xM ?_
 refine yE (b:=vb) (l:=dvL p V) (x:=p) ?_
 refine yA (fun hb=>?_) fun hb=>?_
 ·refine ql fun t=>?_
  refine vD ?_
  refine zD7 hs hr ?_
  exact vD (hno (by simpa using hb) t)
 refine zAd (b:=vb) (l:=dvL p V) (l':=dvL b V) ?_ (by rw [show (dvL p V).length = 257 from zKF fun i=>zH9 _]; rfl) rfl
 refine zD7 hs hr ?_
 exact zUu (hyes (by simpa using hb))
theorem zK9 {v:qU} {q:Bool→K} (hno:(v.2.1 < p∨v.1 < 0∨64 ≤ v.1)→HG B (xA vb p V::Γ) (q false)) (hyes:p ≤ v.2.1→0 ≤ v.1→v.1 < 64→HG B (xA vb v.2.1 (zBE v V)::Γ) (q true)) :
  HG B (xA vb p V::Γ) (qb.call (some ⟨vb,0,none⟩) (qo v).toArray q):=by
 refine fun w hw=>zFI _ _ _ _ ?_
 refine hg hw ?_
 clear hw w
 refine zQr fun hs hr=>?_
 have hgl:∀ i:Nat,(dvF (zCn (i:Int) V)).length = 3:=fun i=>zH9 _
 unfold qb
 refine ql fun c=>?_
 have no:(v.2.1 < p∨v.1 < 0∨64 ≤ v.1)→HG B (blk c (.cells (qo v).toArray z8 (0,0))::blk vb (.cells (dvL p V).toArray xC (0,0))::Γ) (q false):=fun h=>by
  refine zI (Δ:=blk vb (.cells (dvL p V).toArray xC (0,0))::Γ) ?_
  exact zD7 hs hr (hno h)
 refine zAQ ?_
 refine yE (b:=c) (off:=1) (l:=qo v) (x:=v.2.1) ?_
 refine xM ?_
 refine yE (b:=vb) (l:=dvL p V) (x:=p) ?_
 unfold qb.s1
 refine yA (fun h1=>?_) fun h1=>?_
 ·refine s_t ?_ (by rfl)
  exact no (.inl (by simpa using h1))
 refine yE (b:=c) (l:=qo v) (x:=v.1) ?_
 refine yA (fun h2=>?_) fun h2=>?_
 ·refine s_t ?_ (by rfl)
  exact no (.inr (.inl (by simpa using h2)))
 refine yE (b:=c) (l:=qo v) (x:=v.1) ?_
 refine yA (fun h3=>?_) fun h3=>?_
 ·exact no (.inr (.inr (by simp only [decide_eq_true_eq] at h3; omega)))
 simp only [decide_eq_false_iff_not] at h1 h2 h3
 obtain ⟨i,hi⟩:∃ i:Nat,v.1 = (i:Int):=⟨v.1.toNat,by omega⟩
 have hi2:i < 64:=by omega
 refine yE (b:=c) (off:=1) (l:=qo v) (x:=v.2.1) ?_
 refine xM ?_
 refine zAd (b:=vb) (l:=dvL p V) (l':=dvL v.2.1 V) ?_ (by rw [show (dvL p V).length = 257 from zKF fun i=>zH9 _]; rfl) rfl
 refine zAQ ?_
 refine yE (b:=c) (l:=qo v) (x:=v.1) ?_
 rw [show ((⟨vb,0,none⟩:Addr).add 1) = ⟨vb,1,none⟩ from rfl,show ((⟨vb,0,none⟩:Addr).add 65) = ⟨vb,65,none⟩ from rfl,hi]
 refine zN2 hi2 ?_
 refine zAd (b:=vb) (off:=1 + i * 1) (l:=dvL v.2.1 V) (l':=dvG v.2.1 (fun j=>if j = i then true else (zCn j V).isSome) fun j=>dvF (zCn j V)) ?_ (by rw [show (dvL v.2.1 V).length = 257 from zKF fun i=>zH9 _]; exact Nat.ble_eq_true_of_le (by omega)) (by rw [Nat.mul_one]; exact zQq hi2)
 refine zAQ ?_
 refine yE (b:=c) (l:=qo v) (x:=v.1) ?_
 refine zDH (b:=c) (off:=0) (l:=qo v) (l':=qo v) ?_ rfl rfl
 rw [hi]
 refine zN2 hi2 ?_
 refine zYY (b:=vb) (off:=65 + i * 3) (us:=qo v) (l:=dvG v.2.1 (fun j=>if j = i then true else (zCn j V).isSome) fun j=>dvF (zCn j V)) (dvL v.2.1 (zBE v V)) ?_ rfl (by rw [zKF hgl]; omega) (by rw [zPW hgl hi2 rfl]; exact zWX hi) rfl
 refine zI (Δ:=blk vb (.cells (dvL v.2.1 (zBE v V)).toArray xC (0,0))::Γ) ?_
 refine zD7 (zK7 hs) (fun x hx=>?_) (hyes (by omega) (by omega) (by omega))
 rcases zH8 hx with rfl | hx
 ·omega
 ·exact hr x hx
end
end
section
open Go Go.Sep
def zD8:Nat→Nat→List UInt8→Nat×Int×List UInt8
 | _,_,[]=>(0,30,[])
 | i,a,b::r=>if i = 9∧1 < b.toNat then (0,31,[]) else if b.toNat < 128 then (if b.toNat = 0∧0 < i then (0,31,[]) else (a + b.toNat % 128 * 128 ^ i,0,r)) else zD8 (i + 1) (a + b.toNat % 128 * 128 ^ i) r
def qm (xs:List UInt8):Nat×Int×List UInt8:=if (zD8 0 0 xs).2.1 = 0 then zD8 0 0 xs else (0,(zD8 0 0 xs).2.1,xs)
theorem zEb (i a:Nat) (b:UInt8) (r:List UInt8):zD8 i a (b::r) = if i = 9∧1 < b.toNat then (0,31,[]) else if b.toNat < 128 then (if b.toNat = 0∧0 < i then (0,31,[]) else (a + b.toNat % 128 * 128 ^ i,0,r)) else zD8 (i + 1) (a + b.toNat % 128 * 128 ^ i) r:=rfl
theorem zPX {xs:List UInt8} {c:Int} (h:(zD8 0 0 xs).2.1 = c) (hc:c ≠ 0):qm xs = (0,c,xs):=by unfold qm; rw [if_neg (by rw [h]; exact hc),h]
theorem zR0 {xs r:List UInt8} {n:Nat} (h:zD8 0 0 xs = (n,0,r)):qm xs = (n,0,r):=by unfold qm; rw [if_pos (by rw [h]),h]
def xR:List UInt8→Int×Int×List UInt8
 | []=>(0,30,[])
 | b::r=>((b.toNat:Int),0,r)
def jH (xs:List UInt8):List UInt8×Int×List UInt8:=if (qm xs).2.1 ≠ 0 then ([],(qm xs).2.1,xs) else if (qm xs).2.2.length < (qm xs).1 then ([],30,xs) else ((qm xs).2.2.take (qm xs).1,0,(qm xs).2.2.drop (qm xs).1)
theorem zR1:∀ (r:List UInt8) (i a:Nat),a < 128 ^ i→i ≤ 9→(zD8 i a r).1 < 18446744073709551616∧(zD8 i a r).2.2.length ≤ r.length∧0 ≤ (zD8 i a r).2.1
 | [],i,a,ha,hi=>by simp [zD8]
 | b::r,i,a,ha,hi=>by
  have hb:=b.toNat_lt
  unfold zD8
  split
  ·simp
  rename_i h9
  split
  ·split
   ·simp
   ·refine ⟨?_,by simp,by simp⟩
    simp only
    by_cases h:i = 9
    ·subst h
     have:b.toNat ≤ 1:=by omega
     have h2:b.toNat % 128 * 128 ^ 9 ≤ 1 * 128 ^ 9:=Nat.mul_le_mul_right _ (by omega)
     have h3:(128:Nat) ^ 9 = 9223372036854775808:=by decide
     omega
    ·have h1:128 ^ i ≤ 128 ^ 8:=Nat.pow_le_pow_right (by omega) (by omega)
     have h2:b.toNat % 128 * 128 ^ i ≤ 127 * 128 ^ 8:=Nat.mul_le_mul (by omega) h1
     have h3:(128:Nat) ^ 8 = 72057594037927936:=by decide
     omega
  ·rename_i h128
   have h8:i ≤ 8:=by
    by_cases h:i = 9
    ·exact absurd ⟨h,by omega⟩ h9
    ·omega
   have h5:b.toNat % 128 * 128 ^ i ≤ 127 * 128 ^ i:=Nat.mul_le_mul_right _ (by omega)
   have:=zR1 r (i + 1) (a + b.toNat % 128 * 128 ^ i) (by rw [Nat.pow_succ]; omega) (by omega)
   exact ⟨this.1,by simp; omega,this.2.2⟩
theorem zCd (xs:List UInt8):(qm xs).1 < 18446744073709551616∧(qm xs).2.2.length ≤ xs.length∧0 ≤ (qm xs).2.1:=by
 have:=zR1 xs 0 0 (by simp) (by omega)
 unfold qm
 split
 ·exact this
 ·exact ⟨by simp,by simp,this.2.2⟩
section
variable {B:World} {Γ Δ:List zB} {k Q:K} {e:Nat} {xs:List UInt8}
theorem zLA {s0 s:Sl} {x0:List UInt8} {q:Int→Int→K} (hl:xs.length ≤ 1000000) (ho:zGf s0 x0 s xs) (h:∀ s',zGf s0 x0 s' (qm xs).2.2→HG B (blk e (.cells [s'.val].toArray vU (0,0))::Bytes zF s0 x0::Γ) (q ((qm xs).1:Int) (qm xs).2.1)) :
  HG B (blk e (.cells [s.val].toArray vU (0,0))::Bytes zF s0 x0::Γ) (yC.call (some ⟨e,0,none⟩) q):=by
 refine fun w hw=>zE5 _ _ _ ?_
 refine hg hw ?_
 clear hw w
 unfold yC
 have hsn:=ho.n
 refine xM ?_
 refine yE (b:=e) (l:=[s.val]) (x:=s) ?_
 have bad:∀ c:Int,(zD8 0 0 xs).2.1 = c→c ≠ 0→HG B (blk e (.cells [s.val].toArray vU (0,0))::Bytes zF s0 x0::Γ) (q 0 c):=fun c hc hc0=>by
  rw [zPX hc hc0] at h
  exact h s ho
 refine jm (α:=Int×Int) (ι:=Nat×Nat) (fun y i=>y.1 = (i.2:Int)∧y.2 = (i.1:Int)∧i.1 ≤ 9∧i.1 ≤ xs.length∧i.2 < 128 ^ i.1∧zD8 0 0 xs = zD8 i.1 i.2 (xs.drop i.1)) (fun y i=>blk e (.cells [s.val].toArray vU (0,0))::Bytes zF s0 x0::Γ) (fun y i=>10 - i.1) (0,0) ⟨rfl,rfl,by simp,by simp,by simp,by simp⟩ ?_
 rintro k' ⟨_,_⟩ ⟨i,a⟩ ⟨rfl,rfl,hi9,hil,ha,hd⟩ hk'
 simp only at hi9 hil ha hd hk' ⊢
 unfold yC.b1
 refine yA (fun hb=>?_) fun hb=>?_
 rotate_left
 ·have:i = xs.length:=by simp only [decide_eq_false_iff_not] at hb; omega
  rw [this,List.drop_length] at hd
  exact bad 30 (by rw [hd]; rfl) (by decide)
 have hlt:i < xs.length:=by simp only [decide_eq_true_eq] at hb; omega
 have hx:xs[i]? = some xs[i]:=List.getElem?_eq_getElem hlt
 have hdr:=List.drop_eq_getElem_cons hlt
 generalize xs[i] = b at hx hdr
 have hb8:=b.toNat_lt
 rw [hdr] at hd
 refine jZ (L:=xs.map fun b=>(b.toNat:Int)) (c:=Value.int .u8) (j:=i) (x:=(b.toNat:Int)) (fun w hw=>zUd (ho.rd w (Bytes.rd hw (List.mem_cons_of_mem _ List.mem_cons_self)))) (by rw [List.getElem?_map,hx]; rfl) ?_
 have main:¬ (i = 9∧1 < b.toNat)→HG B (blk e (.cells [s.val].toArray vU (0,0))::Bytes zF s0 x0::Γ) (yC.s2 q (fun n2 t11=>k' (n2,t11)) ⟨e,0,none⟩ (a:Int) (i:Int) (b.toNat:Int) s (s.n:Int) (i:Int) false):=fun h9=>by
  rw [zEb,if_neg h9] at hd
  have hsum:a + b.toNat % 128 * 128 ^ i < 18446744073709551616:=by
   by_cases h:i = 9
   ·subst h
    have h2:b.toNat % 128 * 128 ^ 9 ≤ 1 * 128 ^ 9:=Nat.mul_le_mul_right _ (by omega)
    have h3:(128:Nat) ^ 9 = 9223372036854775808:=by decide
    omega
   ·have h1:128 ^ i ≤ 128 ^ 8:=Nat.pow_le_pow_right (by omega) (by omega)
    have h2:b.toNat % 128 * 128 ^ i ≤ 127 * 128 ^ 8:=Nat.mul_le_mul (by omega) h1
    have h3:(128:Nat) ^ 8 = 72057594037927936:=by decide
    omega
  unfold yC.s2
  refine s_f ?_ (by rfl)
  refine zNc (by decide) ?_
  have e1:Int.tmod (b.toNat:Int) 128 = ((b.toNat % 128:Nat):Int):=by rw [Int.tmod_eq_emod_of_nonneg (by omega)]; omega
  refine vI e1 ?_
  refine vI (xI (by omega) (by omega)) ?_
  refine vI (show IntKind.wrap .i64 (7 * (i:Int)) = ((7 * i:Nat):Int) by rw [wrap64 (by omega) (by omega)]; push_cast; rfl) ?_
  refine zNc (by omega) ?_
  refine vI rfl ?_
  refine vI (zUe ha hsum (by omega)) ?_
  refine yA (fun h128=>?_) fun h128=>?_
  ·rw [if_pos (by simp only [decide_eq_true_eq] at h128; omega)] at hd
   have s3:¬ (b.toNat = 0∧0 < i)→HG B (blk e (.cells [s.val].toArray vU (0,0))::Bytes zF s0 x0::Γ) (yC.s3 q (fun n2 t11=>k' (n2,t11)) ⟨e,0,none⟩ ((a + b.toNat % 128 * 128 ^ i:Nat):Int) (i:Int) false):=fun h0=>by
    rw [if_neg h0] at hd
    unfold yC.s3
    refine s_f ?_ (by rfl)
    refine yE (b:=e) (l:=[s.val]) (x:=s) ?_
    refine zAn ?_
    refine zNv ho (l:=i + 1) (by omega) (by push_cast; rfl) ?_
    refine zAd (b:=e) (l:=[s.val]) (l':=[Sl.val ⟨zAB s.a (i + 1) s.c 1,s.n - (i + 1),s.c - (i + 1)⟩]) ?_ rfl rfl
    have h1:=ho.drop (l:=i + 1) (by omega)
    rw [zR0 hd] at h
    exact h _ h1
   refine yA (fun h0=>?_) fun h0=>s3 fun h2=>by simp only [decide_eq_false_iff_not] at h0; omega
   by_cases hi0:0 < i
   ·rw [show decide ((0:Int) < (i:Int)) = true by simp; omega]
    rw [if_pos ⟨by simp only [decide_eq_true_eq] at h0; omega,hi0⟩] at hd
    unfold yC.s3
    refine s_t ?_ (by rfl)
    exact bad 31 (by rw [hd]) (by decide)
   ·rw [show decide ((0:Int) < (i:Int)) = false by simp; omega]
    exact s3 fun h2=>hi0 h2.2
  ·rw [if_neg (by simp only [decide_eq_false_iff_not] at h128; omega)] at hd
   have h8:i ≤ 8:=by
    simp only [decide_eq_false_iff_not] at h128
    by_cases h:i = 9
    ·exact absurd ⟨h,by omega⟩ h9
    ·omega
   refine zAn ?_
   refine hk' (((a + b.toNat % 128 * 128 ^ i:Nat):Int),(i:Int) + 1) (i + 1,a + b.toNat % 128 * 128 ^ i) ⟨rfl,by simp,by simp only; omega,by simp only; omega,?_,hd⟩ (by simp only; omega)
   simp only
   rw [Nat.pow_succ]
   have h5:b.toNat % 128 * 128 ^ i ≤ 127 * 128 ^ i:=Nat.mul_le_mul_right _ (by omega)
   omega
 refine yA (fun h9=>?_) fun h9=>main fun h2=>by simp only [decide_eq_false_iff_not] at h9; omega
 by_cases h1:1 < b.toNat
 ·rw [show decide ((1:Int) < (b.toNat:Int)) = true by simp; omega]
  unfold yC.s2
  refine s_t ?_ (by rfl)
  refine bad 31 ?_ (by decide)
  rw [hd,zEb,if_pos ⟨by simp only [decide_eq_true_eq] at h9; omega,h1⟩]
 ·rw [show decide ((1:Int) < (b.toNat:Int)) = false by simp; omega]
  exact main fun h2=>h1 h2.2
theorem zEu {q:Int→Int→K} (hl:xs.length ≤ 1000000) (h:HG B (zEO e (qm xs).2.2::Γ) (q ((qm xs).1:Int) (qm xs).2.1)):HG B (zEO e xs::Γ) (yC.call (some ⟨e,0,none⟩) q) :=
 zMW fun s0 x0 s ho=>zLA hl ho fun s' ho'=>zDl ho' h
theorem zJQ {q:Int→Int→K} (h:HG B (zEO e (xR xs).2.2::Γ) (q (xR xs).1 (xR xs).2.1)):HG B (zEO e xs::Γ) (jf.call (some ⟨e,0,none⟩) q):=by
 cases xs with
 | cons b r=>exact zG2 rfl h
 | nil=>
  refine fun w hw=>zEM _ _ _ ?_
  refine hg hw ?_
  clear hw w
  unfold jf
  refine zMW fun s0 x0 s ho=>?_
  have hn:=ho.n
  refine xM ?_
  refine yE (b:=e) (l:=[s.val]) (x:=s) ?_
  refine s_t ?_ (by rw [hn]; rfl)
  exact zDl ho h
theorem zPY {q:Sl→Int→K} (hl:xs.length ≤ 1000000) (hok:(jH xs).2.1 = 0→∀ t,HG B (Bytes zF t (jH xs).1::zEO e (jH xs).2.2::Γ) (q t 0)) (hno:(jH xs).2.1 ≠ 0→HG B (zEO e xs::Γ) (q ⟨none,0,0⟩ (jH xs).2.1)):HG B (zEO e xs::Γ) (qp.call (some ⟨e,0,none⟩) q):=by
 have hlt:=zCd xs
 refine fun w hw=>zIf _ _ _ ?_
 refine hg hw ?_
 clear hw w
 unfold qp
 refine zMW fun s0 x0 s ho=>?_
 refine xM ?_
 refine yE (b:=e) (l:=[s.val]) (x:=s) ?_
 refine zLA hl ho fun s' ho'=>?_
 have hn':=ho'.n
 have hc':=ho'.cap
 have bad:∀ c:Int,(jH xs).2.1 = c→c ≠ 0→HG B (blk e (.cells [s'.val].toArray vU (0,0))::Bytes zF s0 x0::Γ) (qp.s1 q ⟨e,0,none⟩ s ((qm xs).1:Int) c):=fun c hc hc0=>by
  unfold qp.s1
  refine s_t ?_ (by simpa using hc0)
  refine zAd (b:=e) (l:=[s'.val]) (l':=[s.val]) ?_ rfl rfl
  refine zDl ho ?_
  have:=hno (by rw [hc]; exact hc0)
  rw [hc] at this
  exact this
 unfold qp.s2
 by_cases h0:(qm xs).2.1 = 0
 rotate_left
 ·refine s_f ?_ (by simpa using h0)
  refine s_f ?_ (by rfl)
  exact bad _ (by unfold jH; rw [if_pos h0]) h0
 refine s_t ?_ (by simpa using h0)
 refine yE (b:=e) (l:=[s'.val]) (x:=s') ?_
 refine vI (xI (by omega) (by omega)) ?_
 refine yA (fun h1=>?_) fun h1=>?_
 ·exact bad 30 (by unfold jH; rw [if_neg (by simpa using h0),if_pos (by simp only [decide_eq_true_eq] at h1; omega)]) (by decide)
 have hle:(qm xs).1 ≤ s'.n:=by simp only [decide_eq_false_iff_not] at h1; omega
 have htx:jH xs = ((qm xs).2.2.take (qm xs).1,0,(qm xs).2.2.drop (qm xs).1):=by unfold jH; rw [if_neg (by simpa using h0),if_neg (by omega)]
 rw [htx] at hok
 rw [h0]
 unfold qp.s1
 refine s_f ?_ (by rfl)
 refine yE (b:=e) (l:=[s'.val]) (x:=s') ?_
 refine zCh (lo:=0) (hi:=(qm xs).1) (mx:=s'.c) ?_
 rw [zKc ho'.spot]
 refine fun w hw=>uX (xs:=(qm xs).2.2.take (qm xs).1) hw (fun w hw=>?_) (by rw [List.length_take]; omega) fun t w hw _=>?_
 ·have h2:=(ho'.rd w (Bytes.rd hw (List.mem_cons_of_mem _ List.mem_cons_self))).take (m:=(qm xs).1) (c:=s'.c) hle
  rw [Nat.mul_one,← List.map_take] at h2
  exact h2
 refine hg hw ?_
 clear hw w
 refine yE (b:=e) (l:=[s'.val]) (x:=s') ?_
 refine zNv ho' (l:=(qm xs).1) hle rfl ?_
 refine zAd (b:=e) (l:=[s'.val]) (l':=[Sl.val ⟨zAB s'.a (qm xs).1 s'.c 1,s'.n - (qm xs).1,s'.c - (qm xs).1⟩]) ?_ rfl rfl
 refine zI (Δ:=blk e (.cells [Sl.val ⟨zAB s'.a (qm xs).1 s'.c 1,s'.n - (qm xs).1,s'.c - (qm xs).1⟩].toArray vU (0,0))::Bytes zF s0 x0::Bytes zF t ((qm xs).2.2.take (qm xs).1)::Γ) ?_
 refine zDl (ho'.drop hle) ?_
 exact vD (hok rfl t)
end
end
section
open Go Go.Sep
abbrev deL (s:Sl) (i:Nat):List Value:=[s.val,.int .i64 (i:Int)]
abbrev zD9 (e:Nat) (s:Sl) (i:Nat):zB:=blk e (.cells (deL s i).toArray xG (0,0))
section
variable {B:World} {Γ Δ:List zB} {k Q:K} {e i:Nat} {s:Sl} {hs:List UInt8}
theorem zIA {q:Int→Int→K} (hl:hs.length ≤ 1000000) (hr:∀ w,Holds B Γ w→RdB w s hs) (hi:i ≤ hs.length) (h:∀ i',i' ≤ hs.length→hs.drop i' = (qm (hs.drop i)).2.2→HG B (zD9 e s i'::Γ) (q ((qm (hs.drop i)).1:Int) (qm (hs.drop i)).2.1)) :
  HG B (zD9 e s i::Γ) (zf.call (some ⟨e,0,none⟩) q):=by
 refine fun w0 hw0=>?_
 have hsn:s.n = hs.length:=by have:=(hr w0 hw0.tail).len; simpa using this.symm
 revert w0 hw0
 show HG B (zD9 e s i::Γ) (zf.call (some ⟨e,0,none⟩) q)
 refine fun w hw=>zEY _ _ _ ?_
 refine hg hw ?_
 clear hw w
 unfold zf
 have bad:∀ c:Int,(zD8 0 0 (hs.drop i)).2.1 = c→c ≠ 0→HG B (zD9 e s i::Γ) (q 0 c):=fun c hc hc0=>by
  rw [zPX hc hc0] at h
  exact h i hi rfl
 refine jm (α:=Int×Int×Int) (ι:=Nat×Nat) (fun y j=>y.1 = (j.2:Int)∧y.2.1 = ((128 ^ j.1:Nat):Int)∧y.2.2 = (j.1:Int)∧j.1 ≤ 9∧i + j.1 ≤ hs.length∧j.2 < 128 ^ j.1∧zD8 0 0 (hs.drop i) = zD8 j.1 j.2 (hs.drop (i + j.1))) (fun y j=>zD9 e s i::Γ) (fun y j=>10 - j.1) (0,0) ⟨rfl,rfl,rfl,by simp,by simpa using hi,by simp,by simp⟩ ?_
 rintro k' ⟨_,_,_⟩ ⟨j,a⟩ ⟨rfl,rfl,rfl,hj9,hjl,ha,hd⟩ hk'
 simp only at hj9 hjl ha hd hk' ⊢
 unfold zf.b1
 refine zAQ ?_
 refine xM ?_
 refine yE (b:=e) (off:=1) (l:=deL s i) (x:=(i:Int)) ?_
 refine vI (show IntKind.wrap .i64 ((i:Int) + (j:Int)) = ((i + j:Nat):Int) by rw [wrap64 (by omega) (by omega)]; omega) ?_
 refine yE (b:=e) (l:=deL s i) (x:=s) ?_
 refine yA (fun hb=>?_) fun hb=>?_
 rotate_left
 ·have:i + j = hs.length:=by simp only [decide_eq_false_iff_not] at hb; omega
  rw [this,List.drop_length] at hd
  exact bad 30 (by rw [hd]; rfl) (by decide)
 have hlt:i + j < hs.length:=by simp only [decide_eq_true_eq] at hb; omega
 have hx:hs[i + j]? = some hs[i + j]:=List.getElem?_eq_getElem hlt
 have hdr:=List.drop_eq_getElem_cons hlt
 generalize hs[i + j] = b at hx hdr
 have hb8:=b.toNat_lt
 rw [hdr] at hd
 refine zAQ ?_
 refine yE (b:=e) (l:=deL s i) (x:=s) ?_
 refine yE (b:=e) (off:=1) (l:=deL s i) (x:=(i:Int)) ?_
 refine vI (show IntKind.wrap .i64 ((i:Int) + (j:Int)) = ((i + j:Nat):Int) by rw [wrap64 (by omega) (by omega)]; omega) ?_
 refine jZ (L:=hs.map fun b=>(b.toNat:Int)) (c:=Value.int .u8) (j:=i + j) (x:=(b.toNat:Int)) (fun w hw=>zUd (hr w hw.tail)) (by rw [List.getElem?_map,hx]; rfl) ?_
 refine vI (xI (by omega) (by omega)) ?_
 have main:¬ (j = 9∧1 < b.toNat)→HG B (zD9 e s i::Γ) (zf.s2 q (fun n4_1 weight5_1 k6_1=>k' (n4_1,weight5_1,k6_1)) ⟨e,0,none⟩ (a:Int) ((128 ^ j:Nat):Int) (j:Int) (b.toNat:Int) false):=fun h9=>by
  rw [zEb,if_neg h9] at hd
  have hsum:a + b.toNat % 128 * 128 ^ j < 18446744073709551616:=by
   by_cases h:j = 9
   ·subst h
    have h2:b.toNat % 128 * 128 ^ 9 ≤ 1 * 128 ^ 9:=Nat.mul_le_mul_right _ (by omega)
    have h3:(128:Nat) ^ 9 = 9223372036854775808:=by decide
    omega
   ·have h1:128 ^ j ≤ 128 ^ 8:=Nat.pow_le_pow_right (by omega) (by omega)
    have h2:b.toNat % 128 * 128 ^ j ≤ 127 * 128 ^ 8:=Nat.mul_le_mul (by omega) h1
    have h3:(128:Nat) ^ 8 = 72057594037927936:=by decide
    omega
  unfold zf.s2
  refine s_f ?_ (by rfl)
  refine zNc (by decide) ?_
  have e1:Int.tmod (b.toNat:Int) 128 = ((b.toNat % 128:Nat):Int):=by rw [Int.tmod_eq_emod_of_nonneg (by omega)]; omega
  refine vI e1 ?_
  refine vI (show IntKind.wrap .u64 (((b.toNat % 128:Nat):Int) * ((128 ^ j:Nat):Int)) = ((b.toNat % 128 * 128 ^ j:Nat):Int) by rw [← Int.natCast_mul]; exact xI (by omega) (by omega)) ?_
  refine vI (show IntKind.wrap .u64 ((a:Int) + ((b.toNat % 128 * 128 ^ j:Nat):Int)) = ((a + b.toNat % 128 * 128 ^ j:Nat):Int) by rw [← Int.natCast_add]; exact xI (by omega) (by omega)) ?_
  refine vI rfl ?_
  refine yA (fun h128=>?_) fun h128=>?_
  ·rw [if_pos (by simp only [decide_eq_true_eq] at h128; omega)] at hd
   have s3:¬ (b.toNat = 0∧0 < j)→HG B (zD9 e s i::Γ) (zf.s3 q (fun n4_1 weight5_1 k6_1=>k' (n4_1,weight5_1,k6_1)) ⟨e,0,none⟩ ((a + b.toNat % 128 * 128 ^ j:Nat):Int) (j:Int) false):=fun h0=>by
    rw [if_neg h0] at hd
    unfold zf.s3
    refine s_f ?_ (by rfl)
    refine yE (b:=e) (off:=1) (l:=deL s i) (x:=(i:Int)) ?_
    refine zAn ?_
    refine vI (show IntKind.wrap .i64 ((i:Int) + ((j:Int) + 1)) = ((i + j + 1:Nat):Int) by rw [wrap64 (by omega) (by omega)]; omega) ?_
    refine zAd (b:=e) (off:=1) (l:=deL s i) (l':=deL s (i + j + 1)) ?_ rfl rfl
    rw [zR0 hd] at h
    exact h _ (by omega) rfl
   refine yA (fun h0=>?_) fun h0=>s3 fun h2=>by simp only [decide_eq_false_iff_not] at h0; omega
   by_cases hi0:0 < j
   ·rw [show decide ((0:Int) < (j:Int)) = true by simp; omega]
    rw [if_pos ⟨by simp only [decide_eq_true_eq] at h0; omega,hi0⟩] at hd
    unfold zf.s3
    refine s_t ?_ (by rfl)
    exact bad 31 (by rw [hd]) (by decide)
   ·rw [show decide ((0:Int) < (j:Int)) = false by simp; omega]
    exact s3 fun h2=>hi0 h2.2
  ·rw [if_neg (by simp only [decide_eq_false_iff_not] at h128; omega)] at hd
   have h8:j ≤ 8:=by
    simp only [decide_eq_false_iff_not] at h128
    by_cases h:j = 9
    ·exact absurd ⟨h,by omega⟩ h9
    ·omega
   refine zAn ?_
   have hp:128 ^ (j + 1) ≤ 128 ^ 9:=Nat.pow_le_pow_right (by omega) (by omega)
   have h3:(128:Nat) ^ 9 = 9223372036854775808:=by decide
   have e:IntKind.wrap .u64 (((128 ^ j:Nat):Int) * 128) = ((128 ^ (j + 1):Nat):Int):=by
    rw [show ((128 ^ j:Nat):Int) * 128 = ((128 ^ j * 128:Nat):Int) from rfl,← Nat.pow_succ]
    exact xI (by omega) (by omega)
   rw [e]
   refine hk' (((a + b.toNat % 128 * 128 ^ j:Nat):Int),((128 ^ (j + 1):Nat):Int),(j:Int) + 1) (j + 1,a + b.toNat % 128 * 128 ^ j) ⟨rfl,rfl,by simp,by simp only; omega,by simp only; omega,?_,hd⟩ (by simp only; omega)
   simp only
   rw [Nat.pow_succ]
   have h5:b.toNat % 128 * 128 ^ j ≤ 127 * 128 ^ j:=Nat.mul_le_mul_right _ (by omega)
   omega
 refine yA (fun h9=>?_) fun h9=>main fun h2=>by simp only [decide_eq_false_iff_not] at h9; omega
 by_cases h1:1 < b.toNat
 ·rw [show decide ((1:Int) < (b.toNat:Int)) = true by simp; omega]
  unfold zf.s2
  refine s_t ?_ (by rfl)
  refine bad 31 ?_ (by decide)
  rw [hd,zEb,if_pos ⟨by simp only [decide_eq_true_eq] at h9; omega,h1⟩]
 ·rw [show decide ((1:Int) < (b.toNat:Int)) = false by simp; omega]
  exact main fun h2=>h1 h2.2
theorem zPZ {q:Int→Int→K} (hl:hs.length ≤ 1000000) (hr:∀ w,Holds B Γ w→RdB w s hs) (hi:i ≤ hs.length) (h:∀ i',i' ≤ hs.length→hs.drop i' = (xR (hs.drop i)).2.2→HG B (zD9 e s i'::Γ) (q (xR (hs.drop i)).1 (xR (hs.drop i)).2.1)) :
  HG B (zD9 e s i::Γ) (jl.call (some ⟨e,0,none⟩) q):=by
 refine fun w0 hw0=>?_
 have hsn:s.n = hs.length:=by have:=(hr w0 hw0.tail).len; simpa using this.symm
 revert w0 hw0
 show HG B (zD9 e s i::Γ) (jl.call (some ⟨e,0,none⟩) q)
 refine fun w hw=>zH2 _ _ _ ?_
 refine hg hw ?_
 clear hw w
 unfold jl
 refine zAQ ?_
 refine xM ?_
 refine yE (b:=e) (off:=1) (l:=deL s i) (x:=(i:Int)) ?_
 refine yE (b:=e) (l:=deL s i) (x:=s) ?_
 refine yA (fun hb=>?_) fun hb=>?_
 ·have:i = hs.length:=by simp only [decide_eq_true_eq] at hb; omega
  have hd:hs.drop i = []:=by rw [this,List.drop_length]
  have:=h i hi
  rw [hd] at this
  exact this rfl
 have hlt:i < hs.length:=by simp only [decide_eq_false_iff_not] at hb; omega
 have hx:hs[i]? = some hs[i]:=List.getElem?_eq_getElem hlt
 have hdr:=List.drop_eq_getElem_cons hlt
 generalize hs[i] = b at hx hdr
 refine yE (b:=e) (off:=1) (l:=deL s i) (x:=(i:Int)) ?_
 refine vI (show IntKind.wrap .i64 ((i:Int) + 1) = ((i + 1:Nat):Int) by rw [wrap64 (by omega) (by omega)]; omega) ?_
 refine zAd (b:=e) (off:=1) (l:=deL s i) (l':=deL s (i + 1)) ?_ rfl rfl
 refine zAQ ?_
 refine yE (b:=e) (l:=deL s (i + 1)) (x:=s) ?_
 refine yE (b:=e) (off:=1) (l:=deL s (i + 1)) (x:=((i + 1:Nat):Int)) ?_
 refine vI (show IntKind.wrap .i64 (((i + 1:Nat):Int) - 1) = (i:Int) by rw [wrap64 (by omega) (by omega)]; omega) ?_
 refine jZ (L:=hs.map fun b=>(b.toNat:Int)) (c:=Value.int .u8) (j:=i) (x:=(b.toNat:Int)) (fun w hw=>zUd (hr w hw.tail)) (by rw [List.getElem?_map,hx]; rfl) ?_
 have:=h (i + 1) (by omega)
 rw [hdr] at this
 exact this rfl
theorem zN3 {q:Int→K} (hsn:s.n = hs.length) (hi:i ≤ hs.length) (h:HG B (zD9 e s i::Γ) (q (if hs.drop i = [] then 0 else 32))):HG B (zD9 e s i::Γ) (uf.call (some ⟨e,0,none⟩) q):=by
 refine fun w hw=>zEZ _ _ _ ?_
 refine hg hw ?_
 clear hw w
 unfold uf
 refine zAQ ?_
 refine xM ?_
 refine yE (b:=e) (off:=1) (l:=deL s i) (x:=(i:Int)) ?_
 refine yE (b:=e) (l:=deL s i) (x:=s) ?_
 refine yA (fun hb=>?_) fun hb=>?_
 ·rw [if_neg (fun h0=>by have:=List.drop_eq_nil_iff.1 h0; simp only [decide_eq_true_eq] at hb; omega)] at h
  exact h
 ·rw [if_pos (List.drop_eq_nil_iff.2 (by simp only [decide_eq_false_iff_not] at hb; omega))] at h
  exact h
theorem zUv {q:Sl→Int→K} (hl:hs.length ≤ 1000000) (hr:∀ w,Holds B Γ w→RdB w s hs) (hsn:s.n = hs.length) (hcap:s.n ≤ s.c) (hsp:∀ a,s.a = some a→a.spot = none) (hi:i ≤ hs.length)
  (hok:(jH (hs.drop i)).2.1 = 0→∀ i' t,i' ≤ hs.length→hs.drop i' = (jH (hs.drop i)).2.2→HG B (Bytes zF t (jH (hs.drop i)).1::zD9 e s i'::Γ) (q t 0)) (hno:(jH (hs.drop i)).2.1 ≠ 0→∀ t,HG B (zD9 e s i::Γ) (q ⟨some ⟨t,0,none⟩,0,0⟩ (jH (hs.drop i)).2.1)) :
  HG B (zD9 e s i::Γ) (zAq.call (some ⟨e,0,none⟩) q):=by
 have hlt:=zCd (hs.drop i)
 rw [List.length_drop] at hlt
 refine fun w hw=>zH3 _ _ _ ?_
 refine hg hw ?_
 clear hw w
 unfold zAq
 refine xM ?_
 refine yE (b:=e) (off:=1) (l:=deL s i) (x:=(i:Int)) ?_
 refine zIA hl hr hi fun i' hi' hd=>?_
 refine yA (fun h0=>?_) fun h0=>?_
 ·have h0':(qm (hs.drop i)).2.1 ≠ 0:=by simpa using h0
  have htx:jH (hs.drop i) = ([],(qm (hs.drop i)).2.1,hs.drop i):=by unfold jH; rw [if_pos h0']
  have hii:i' = i:=by
   have h1:(qm (hs.drop i)).2.2 = hs.drop i:=by
    unfold qm at h0' ⊢
    split
    ·rename_i h; rw [if_pos h] at h0'; exact absurd h h0'
    ·rfl
   rw [h1] at hd
   have:=congrArg List.length hd
   simp only [List.length_drop] at this
   omega
  subst hii
  rw [htx] at hno
  refine ql fun t=>?_
  exact zI (Δ:=zD9 e s i'::Γ) (hno h0' t)
 have h0':(qm (hs.drop i)).2.1 = 0:=by simpa using h0
 have hlen:=congrArg List.length hd
 rw [List.length_drop] at hlen
 refine zAQ ?_
 refine yE (b:=e) (l:=deL s i') (x:=s) ?_
 refine yE (b:=e) (off:=1) (l:=deL s i') (x:=(i':Int)) ?_
 refine vI (show IntKind.wrap .i64 ((s.n:Int) - (i':Int)) = ((hs.length - i':Nat):Int) by rw [wrap64 (by omega) (by omega)]; omega) ?_
 refine vI (xI (by omega) (by omega)) ?_
 refine yA (fun h1=>?_) fun h1=>?_
 ·have htx:jH (hs.drop i) = ([],30,hs.drop i):=by unfold jH; rw [if_neg (by simpa using h0'),if_pos (by simp only [decide_eq_true_eq] at h1; omega)]
  rw [htx] at hno
  refine zAd (b:=e) (off:=1) (l:=deL s i') (l':=deL s i) ?_ rfl rfl
  refine ql fun t=>?_
  exact zI (Δ:=zD9 e s i::Γ) (hno (by simp) t)
 have hle:(qm (hs.drop i)).1 ≤ hs.length - i':=by simp only [decide_eq_false_iff_not] at h1; omega
 have htx:jH (hs.drop i) = ((qm (hs.drop i)).2.2.take (qm (hs.drop i)).1,0,(qm (hs.drop i)).2.2.drop (qm (hs.drop i)).1):=by unfold jH; rw [if_neg (by simpa using h0'),if_neg (by omega)]
 rw [htx] at hok
 generalize (qm (hs.drop i)).1 = n at *
 generalize (qm (hs.drop i)).2.2 = rest at *
 subst hd
 refine yE (b:=e) (off:=1) (l:=deL s i') (x:=(i':Int)) ?_
 refine vI (wrap64 (by omega) (by omega)) ?_
 refine vI (show IntKind.wrap .i64 ((i':Int) + (n:Int)) = ((i' + n:Nat):Int) by rw [wrap64 (by omega) (by omega)]; omega) ?_
 refine zAd (b:=e) (off:=1) (l:=deL s i') (l':=deL s (i' + n)) ?_ rfl rfl
 refine zAQ ?_
 refine zIc ?_
 refine vI (wrap64 (by omega) (by omega)) ?_
 refine jR (b:=e) (l:=deL s (i' + n)) (x:=s) ?_
 refine jR (b:=e) (off:=1) (l:=deL s (i' + n)) (x:=((i' + n:Nat):Int)) ?_
 refine vI (show IntKind.wrap .i64 (((i' + n:Nat):Int) - (n:Int)) = (i':Int) by rw [wrap64 (by omega) (by omega)]; omega) ?_
 refine jR (b:=e) (off:=1) (l:=deL s (i' + n)) (x:=((i' + n:Nat):Int)) ?_
 refine zCh (lo:=i') (hi:=i' + n) (mx:=s.c) ?_
 refine ql fun t47=>?_
 refine zBb ?_
 have hrd:∀ w,RdB w s hs→RdB w ⟨zAB s.a i' s.c 1,i' + n - i',s.c - i'⟩ ((hs.drop i').take n):=fun w hw=>by
  have h2:=(hw.drop (l:=i') (c:=s.c) (by omega) hcap hsp).take (m:=i' + n - i') (c:=s.c - i') (by simp only; omega)
  rw [Nat.mul_one,Nat.mul_one,← List.map_drop,← List.map_take,Nat.add_sub_cancel_left] at h2
  rw [Nat.add_sub_cancel_left]
  exact h2
 refine zEi (A':=SlC zF 1 ⟨some ⟨t47,0,none⟩,0,0⟩ []) (zA0 (vs:=[]) rfl (by simp)) ?_
 refine zBO (us:=((hs.drop i').take n).map fun b=>Value.int .u8 (b.toNat:Int)) (fun w hw=>hrd w (hr w hw.tail.tail)) (fun v hv=>by obtain ⟨b,_,rfl⟩:=List.mem_map.1 hv; rfl) (by simp only; omega) fun t ht=>?_
 rw [List.nil_append]
 exact hok rfl (i' + n) t (by omega) (by rw [List.drop_drop])
end
end
section
open Go Go.Sep Go.Sep.Bt
def zAT (p:Int) (V:List qU) (r:List UInt8):Option (Int×List qU) :=
 if (xR r).1 = 1 then (if (qm (xR r).2.2).2.1 = 0∧(qm (xR r).2.2).2.2 = []∧p ≤ (qm (xR r).2.2).1 then some ((qm (xR r).2.2).1,V) else none)
 else if (xR r).1 = 2 then (if (qm (xR r).2.2).2.1 = 0∧(qm (qm (xR r).2.2).2.2).2.1 = 0∧(jH (qm (qm (xR r).2.2).2.2).2.2).2.1 = 0∧(jH (qm (qm (xR r).2.2).2.2).2.2).2.2 = []∧(qm (xR r).2.2).1 < 64∧p ≤ (qm (qm (xR r).2.2).2.2).1
  then some ((qm (qm (xR r).2.2).2.2).1,zBE (((qm (xR r).2.2).1:Int),((qm (qm (xR r).2.2).2.2).1:Int),(jH (qm (qm (xR r).2.2).2.2).2.2).1) V) else none)
 else none
theorem zMk (r:List UInt8):(xR r).2.2.length ≤ r.length:=by cases r <;> simp [xR]
theorem zJR (r:List UInt8):((xR r).2.1 = 0)∨(xR r).1 = 0∧(xR r).2.1 = 30:=by cases r <;> simp [xR]
theorem zUw (r:List UInt8):0 ≤ (jH r).2.1:=by
 have:=zCd r
 unfold jH
 split
 ·exact this.2.2
 split <;> simp
theorem zMl:∀ (r:List UInt8) (i a:Nat),(zD8 i a r).2.1 ≤ 1000
 | [],i,a=>by simp [zD8]
 | b::r,i,a=>by
  rw [zEb]
  split
  ·simp
  split
  ·split <;> simp
  ·exact zMl r _ _
theorem zGE (r:List UInt8):(qm r).2.1 ≤ 1000:=by
 have:=zMl r 0 0
 unfold qm
 split <;> exact this
theorem zQs (r:List UInt8):(jH r).2.1 ≤ 1000:=by
 have:=zGE r
 unfold jH
 split
 ·exact this
 split <;> simp
theorem zN4 {B:World} {Γ:List zB} {s:Sl} {xs:List UInt8} {q:ByteArray→K} (hr:∀ w,Holds B Γ w→RdB w s xs) (h:HG B Γ (q (bs xs))):HG B Γ (Rd Tryz.prog (convert zL jN s.val) Value.string q):=fun w hw=>zML (by kernel_rfl) (hr w hw) (h w hw)
section
variable {B:World} {Γ Δ:List zB} {k Q:K} {vb:Nat} {p:Int} {V:List qU} {s:Sl} {xs:List UInt8}
theorem zQt {q:Bool→K} (hl:xs.length ≤ 100000) (hV:V.length < 1000000) (hr:∀ w,Holds B Γ w→RdB w s xs) (hno:zAT p V xs = none→HG B (zAu vb p V::Γ) (q false)) (hyes:∀ p' V',zAT p V xs = some (p',V')→HG B (zAu vb p' V'::Γ) (q true)) :
  HG B (zAu vb p V::Γ) (ze.call (some ⟨vb,0,none⟩) s q):=by
 refine fun w hw=>zDq _ _ _ _ ?_
 refine hg hw ?_
 clear hw w
 have hb:=zMk xs
 have h1:=zCd (xR xs).2.2
 have h2:=zCd (qm (xR xs).2.2).2.2
 unfold zAT at hno hyes
 generalize hN:qm (xR xs).2.2 = N at *
 generalize hM:qm N.2.2 = M at *
 unfold ze
 refine zGA (xs:=xs) (by omega) (fun w hw=>hr w hw.tail) fun e=>?_
 refine zJQ ?_
 have no:∀ {ys:List UInt8},zAT p V xs = none→HG B (zEO e ys::zAu vb p V::Γ) (ze.s1 q false):=fun {ys} h=>by
  unfold ze.s1
  unfold zAT at h
  rw [hN,hM] at h
  exact zI (Δ:=zAu vb p V::Γ) (hno h)
 unfold zAT at no
 rw [hN,hM] at no
 refine yA (fun k1=>?_) fun k1=>?_
 ·have k1':(xR xs).1 = 1:=by simpa using k1
  rw [if_pos k1'] at hno hyes no
  refine zEu (by omega) ?_
  rw [hN]
  unfold ze.s2
  refine yA (fun c0=>?_) fun c0=>?_
  rotate_left
  ·refine s_f ?_ (by rfl)
   exact no (if_neg fun h=>by simp only [decide_eq_false_iff_not] at c0; exact c0 h.1)
  have c0':N.2.1 = 0:=by simpa using c0
  refine zEP ?_
  refine yA (fun e0=>?_) fun e0=>?_
  rotate_left
  ·exact no (if_neg fun h=>by rw [if_pos h.2.1] at e0; simp at e0)
  have e0':N.2.2 = []:=by
   apply Classical.byContradiction
   intro h
   rw [if_neg h] at e0
   simp at e0
  unfold ze.s1
  refine vH vb ?_
  refine zFr hV (fun hlt=>?_) fun hle t=>?_
  ·exact zI (Δ:=zAu vb p V::Γ) (hno (if_neg fun h=>by omega))
  ·exact zI (Δ:=zAu vb (N.1:Int) V::Γ) (hyes _ _ (if_pos ⟨c0',e0',hle⟩))
 have k1':¬ (xR xs).1 = 1:=by simpa using k1
 rw [if_neg k1'] at hno hyes no
 refine yA (fun k2=>?_) fun k2=>?_
 rotate_left
 ·have k2':¬ (xR xs).1 = 2:=by simpa using k2
  exact no (if_neg k2')
 have k2':(xR xs).1 = 2:=by simpa using k2
 rw [if_pos k2'] at hno hyes no
 refine zEu (by omega) ?_
 rw [hN]
 refine zEu (by omega) ?_
 rw [hM]
 have s3f:∀ {Ψ:List zB} {v:Sl},[Drops Ψ (zAu vb p V::Γ)]→¬ (N.2.1 = 0∧M.2.1 = 0∧(jH M.2.2).2.1 = 0∧(jH M.2.2).2.2 = []∧N.1 < 64)→HG B Ψ (ze.s3 q (some ⟨vb,0,none⟩) (N.1:Int) (M.1:Int) v false):=fun {Ψ v} _ h=>by
  unfold ze.s3
  refine s_f ?_ (by rfl)
  unfold ze.s1
  exact zI (Δ:=zAu vb p V::Γ) (hno (if_neg fun h'=>h ⟨h'.1,h'.2.1,h'.2.2.1,h'.2.2.2.1,h'.2.2.2.2.1⟩))
 refine zPY (by omega) (fun tx t=>?_) fun tx=>?_
 rotate_left
 ·refine yA (fun c0=>?_) fun c0=>s3f fun h=>tx h.2.2.1
  refine yA (fun c1=>?_) fun c1=>s3f fun h=>tx h.2.2.1
  refine s_f ?_ (by simpa using tx)
  exact s3f fun h=>tx h.2.2.1
 refine yA (fun c0=>?_) fun c0=>s3f fun h=>by simp only [decide_eq_false_iff_not] at c0; exact c0 h.1
 refine yA (fun c1=>?_) fun c1=>s3f fun h=>by simp only [decide_eq_false_iff_not] at c1; exact c1 h.2.1
 refine s_t ?_ (by rfl)
 refine vD ?_
 refine zEP ?_
 refine yA (fun e0=>?_) fun e0=>s3f fun h=>by rw [if_pos h.2.2.2.1] at e0; simp at e0
 have e0':(jH M.2.2).2.2 = []:=by
  apply Classical.byContradiction
  intro h
  rw [if_neg h] at e0
  simp at e0
 by_cases h64:N.1 < 64
 rotate_left
 ·rw [show decide ((N.1:Int) < 64) = false by simp; omega]
  exact s3f fun h=>h64 h.2.2.2.2
 rw [show decide ((N.1:Int) < 64) = true by simp; omega]
 unfold ze.s3
 refine s_t ?_ (by rfl)
 refine vI (wrap64 (by omega) (by omega)) ?_
 refine zN4 (xs:=(jH M.2.2).1) (fun w hw=>Bytes.rd hw (List.mem_cons_of_mem _ List.mem_cons_self)) ?_
 unfold ze.s1
 refine zI (Δ:=zAu vb p V::Γ) ?_
 refine zK6 (v:=((N.1:Int),(M.1:Int),(jH M.2.2).1)) hV (fun h=>hno (if_neg fun h'=>?_)) fun a b c=>hyes _ _ (if_pos ⟨by simpa using c0,by simpa using c1,tx,e0',h64,a⟩)
 have:=h'.2.2.2.2.2
 simp only at h
 omega
theorem zQu {q:Bool→K} (hl:xs.length ≤ 100000) (hr:∀ w,Holds B Γ w→RdB w s xs) (hsn:s.n = xs.length) (hcap:s.n ≤ s.c) (hsp:∀ a,s.a = some a→a.spot = none) (hno:zAT p V xs = none→HG B (xA vb p V::Γ) (q false)) (hyes:∀ p' V',zAT p V xs = some (p',V')→HG B (xA vb p' V'::Γ) (q true)) :
  HG B (xA vb p V::Γ) (qX.call (some ⟨vb,0,none⟩) s q):=by
 refine fun w hw=>zJl _ _ _ _ ?_
 refine hg hw ?_
 clear hw w
 have hb:=zMk xs
 have hbc:=zJR xs
 have h1:=zCd (xR xs).2.2
 have h2:=zCd (qm (xR xs).2.2).2.2
 have hcN:=zGE (xR xs).2.2
 have hcM:=zGE (qm (xR xs).2.2).2.2
 unfold zAT at hno hyes
 generalize hN:qm (xR xs).2.2 = N at *
 generalize hM:qm N.2.2 = M at *
 unfold qX
 refine ql fun e=>?_
 refine zI (Δ:=zD9 e s 0::xA vb p V::Γ) ?_
 have hr':∀ w,Holds B (xA vb p V::Γ) w→RdB w s xs:=fun w hw=>hr w hw.tail
 have no:∀ {i:Nat},zAT p V xs = none→HG B (zD9 e s i::xA vb p V::Γ) (q false):=fun {i} h=>by
  unfold zAT at h
  rw [hN,hM] at h
  exact zI (Δ:=xA vb p V::Γ) (hno h)
 unfold zAT at no
 rw [hN,hM] at no
 refine zPZ (hs:=xs) (by omega) hr' (Nat.zero_le _) fun i1 l1 d1=>?_
 rw [List.drop_zero] at *
 refine yA (fun c0=>?_) fun c0=>?_
 ·have c0':(xR xs).2.1 ≠ 0:=by simpa using c0
  rcases hbc with h | ⟨h,_⟩
  ·exact absurd h c0'
  ·exact no (by rw [if_neg (by omega),if_neg (by omega)])
 refine yA (fun k1=>?_) fun k1=>?_
 ·have k1':(xR xs).1 = 1:=by simpa using k1
  rw [if_pos k1'] at hno hyes no
  refine zIA (by omega) hr' l1 fun i2 l2 d2=>?_
  rw [d1,hN] at *
  unfold qX.s1
  refine yA (fun c0=>?_) fun c0=>?_
  ·refine s_t ?_ (by rfl)
   exact no (if_neg fun h=>by simp only [ne_eq,decide_eq_true_eq] at c0; exact c0 h.1)
  have c0':N.2.1 = 0:=by simpa using c0
  refine zN3 hsn l2 ?_
  rw [d2]
  refine yA (fun e0=>?_) fun e0=>?_
  ·exact no (if_neg fun h=>by rw [if_pos h.2.1] at e0; simp at e0)
  have e0':N.2.2 = []:=by
   apply Classical.byContradiction
   intro h
   rw [if_neg h] at e0
   simp at e0
  refine vH vb ?_
  refine zFs (fun hlt t=>?_) fun hle t=>?_
  ·exact zI (Δ:=xA vb p V::Γ) (hno (if_neg fun h=>by omega))
  ·exact zI (Δ:=xA vb (N.1:Int) V::Γ) (hyes _ _ (if_pos ⟨c0',e0',hle⟩))
 have k1':¬ (xR xs).1 = 1:=by simpa using k1
 rw [if_neg k1'] at hno hyes no
 refine zIA (by omega) hr' l1 fun i2 l2 d2=>?_
 rw [d1,hN] at *
 refine zIA (by omega) hr' l2 fun i3 l3 d3=>?_
 rw [d2,hM] at *
 have hTg:=zUw M.2.2
 have s2t:∀ {Ψ:List zB} {v:Sl},[Drops Ψ (xA vb p V::Γ)]→¬ ((xR xs).1 = 2∧N.2.1 = 0∧M.2.1 = 0∧(jH M.2.2).2.1 = 0∧(jH M.2.2).2.2 = []∧N.1 < 64)→HG B Ψ (qX.s2 q (some ⟨vb,0,none⟩) (N.1:Int) (M.1:Int) v true):=fun {Ψ v} _ h=>by
  unfold qX.s2
  refine s_t ?_ (by rfl)
  refine zI (Δ:=xA vb p V::Γ) (hno ?_)
  by_cases k2:(xR xs).1 = 2
  ·rw [if_pos k2]
   exact if_neg fun h'=>h ⟨k2,h'.1,h'.2.1,h'.2.2.1,h'.2.2.2.1,h'.2.2.2.2.1⟩
  ·rw [if_neg k2]
 have hsum:∀ {a b c:Int},0 ≤ a→0 ≤ b→0 ≤ c→a + b + c = 0→a = 0∧b = 0∧c = 0:=fun ha hb hc h=>by omega
 have hcT:=zQs M.2.2
 have tail:∀ {Ψ:List zB} {v:Sl} {Q1:K} {c:Int},[Drops Ψ (xA vb p V::Γ)]→c = (jH M.2.2).2.1→((jH M.2.2).2.1 = 0→N.2.1 = 0→M.2.1 = 0→(xR xs).1 = 2→HG B Ψ Q1)→HG B Ψ (Ite (decide ((xR xs).1 ≠ 2)) (qX.s2 q (some ⟨vb,0,none⟩) (N.1:Int) (M.1:Int) v true) (Ar (IntKind.wrap .i64 (N.2.1 + M.2.1)) fun t69=>Ar (IntKind.wrap .i64 (t69 + c)) fun t71=>Ite (decide (t71 ≠ 0)) (qX.s2 q (some ⟨vb,0,none⟩) (N.1:Int) (M.1:Int) v true) Q1)):=fun {Ψ v Q1 c} _ hc h=>by
  subst hc
  refine yA (fun k2=>s2t fun h=>by simp only [ne_eq,decide_eq_true_eq] at k2; exact k2 h.1) fun k2=>?_
  refine vI (wrap64 (by omega) (by omega)) ?_
  refine vI (wrap64 (by omega) (by omega)) ?_
  refine yA (fun c0=>s2t fun h=>by simp only [ne_eq,decide_eq_true_eq] at c0; omega) fun c0=>?_
  have:=hsum h1.2.2 h2.2.2 hTg (by simpa using c0)
  exact h this.2.2 this.1 this.2.1 (by simpa using k2)
 refine zUv (by omega) hr' hsn hcap hsp l3 (fun tx i4 t l4 d4=>?_) fun tx t=>?_
 rotate_left
 ·rw [d3] at *
  exact tail rfl fun h _ _ _=>absurd h tx
 rw [d3] at *
 refine tail tx.symm fun _ c0 c1 k2=>?_
 refine vD ?_
 refine zN3 hsn l4 ?_
 rw [d4]
 refine yA (fun e0=>s2t fun h=>by rw [if_pos h.2.2.2.2.1] at e0; simp at e0) fun e0=>?_
 have e0':(jH M.2.2).2.2 = []:=by
  apply Classical.byContradiction
  intro h
  rw [if_neg h] at e0
  simp at e0
 by_cases h64:N.1 < 64
 rotate_left
 ·rw [show decide ((63:Int) < (N.1:Int)) = true by simp; omega]
  exact s2t fun h=>h64 h.2.2.2.2.2
 rw [show decide ((63:Int) < (N.1:Int)) = false by simp; omega]
 unfold qX.s2
 refine s_f ?_ (by rfl)
 refine vI (wrap64 (by omega) (by omega)) ?_
 refine zN4 (xs:=(jH M.2.2).1) (fun w hw=>Bytes.rd hw (List.mem_cons_of_mem _ List.mem_cons_self)) ?_
 refine zI (Δ:=xA vb p V::Γ) ?_
 rw [if_pos k2] at hno hyes
 refine zK9 (v:=((N.1:Int),(M.1:Int),(jH M.2.2).1)) (fun h=>hno (if_neg fun h'=>?_)) fun a b c=>hyes _ _ (if_pos ⟨c0,c1,tx,e0',h64,a⟩)
 have:=h'.2.2.2.2.2
 simp only at h
 omega
end
end
section
open Go Go.Sep
abbrev uD:List UInt8:=[108,105,102,101]
abbrev STATE:List UInt8:=[115,116,97,116,101]
def vB (v:Bool):UInt8:=if v then 1 else 0
def xg (ep:Nat) (v:Bool):List UInt8:=vM ep++[vB v]
abbrev kpL (d ep:Nat) (v:Bool) (mb:Nat):List Value:=[.pointer (some ⟨d,0,none⟩),.int .u64 (ep:Int),.bool v,.map (some mb)]
abbrev KpR (kp d ep:Nat) (v:Bool) (mb:Nat):zB:=blk kp (.cells (kpL d ep v mb).toArray zHb (0,0))
def zLB (D:zC) (ep:Nat) (v:Bool):Prop:=D.read uD = (yj (xg ep v),0)∨(ep = 0∧v = false∧D.read uD = ([],60))
theorem zBZ {ep:Nat} {v:Bool} (h:ep < 18446744073709551616):(xg ep v).length ≤ 11:=by
 have:=xO 9 ep (by omega)
 unfold xg
 simp; omega
section
variable {B:World} {Γ Δ:List zB} {k:K} {d kp mb:Nat} {D:zC} {n x:List UInt8}
theorem zKG {body:Sl} {q:Int→K} (hD:OkD D) (hx:x.length ≤ 10000) (hcap:body.n ≤ body.c) (hr:∀ w,Holds B Γ w→RdB w body x) (h:OkD (D.save n x).1→HG B (zJ d (D.save n x).1::Γ) (q (D.save n x).2)) :
  HG B (zJ d D::Γ) (vR.call (some ⟨d,0,none⟩) (bs n) body q):=fun w hw=>zK2 hD hx hcap hw hr fun w ho hw=>h ho w hw
theorem zUx {q:Sl→Int→K} {b:List UInt8} (hD:OkD D) (hr:D.read n = (yj b,0)) (hl:(yj b).length ≤ 100000) (hb:b.length ≤ 100000) (h:∀ f,HG B (Bytes zF f b::zJ d D::Γ) (q f 0)) :
  HG B (zJ d D::Γ) (zBA.call (some ⟨d,0,none⟩) (bs n) q):=fun w hw=>by
 refine zDP hD (by rw [hr]; exact hl) hw (fun he=>by rw [hr] at he; exact absurd rfl he) (fun b' f w _ he hw=>?_) fun _ hno=>absurd (by rw [hr]) (hno b)
 rw [hr] at he
 rw [← pack_inj hb he.symm] at hw
 exact h f w hw
theorem zUy {q:Sl→Int→K} {e:Int} (hD:OkD D) (hr:D.read n = ([],e)) (he:e ≠ 0) (h:HG B (zJ d D::Γ) (q zAA e)) :
  HG B (zJ d D::Γ) (zBA.call (some ⟨d,0,none⟩) (bs n) q):=fun w hw=>by
 refine zDP hD (by rw [hr]; simp) hw (fun _ w hw=>?_) (fun b' f w h0=>?_) fun h0=>?_
 ·rw [hr]; exact h w hw
 ·rw [hr] at h0; exact absurd h0 he
 ·rw [hr] at h0; exact absurd h0 he
theorem zIB {ep:Nat} {v:Bool} {q:Sl→K} (he:ep < 18446744073709551616) (h:∀ s,HG B (Bytes zF s (xg ep v)::Γ) (q s)):HG B Γ (vW.call (ep:Int) v q):=by
 refine fun w hw=>zJj _ _ _ _ ?_
 refine hg hw ?_
 clear hw w
 have hl:=xO 9 ep (by omega)
 unfold vW
 refine zIl fun p=>?_
 refine zKs (n:=ep) (by omega) (by simp) ?_
 have s1:HG B (zFF p (xg ep v)::Γ) (vW.s1 q ⟨p,0,none⟩):=by
  unfold vW.s1
  refine zRr (by unfold xg; simp; omega) fun s=>?_
  exact zI (h s)
 cases v
 ·refine s_f ?_ (by rfl)
  exact zKD (b:=0) (by simp; omega) s1
 ·refine s_t ?_ (by rfl)
  exact zKD (b:=1) (by simp; omega) s1
theorem zMm {q:Int→K} (hD:OkD D) (h:OkD (D.save uD (xg 0 true)).1→HG B (zJ d (D.save uD (xg 0 true)).1::Γ) (q (D.save uD (xg 0 true)).2)):HG B (zJ d D::Γ) (ji.call (some ⟨d,0,none⟩) q):=by
 refine fun w hw=>zH0 _ _ _ ?_
 refine hg hw ?_
 clear hw w
 unfold ji
 refine zIB (ep:=0) (by omega) fun s=>?_
 refine jF (zJ d D) ?_
 refine vw s fun a1 a2 a3 a4=>?_
 refine zKG (n:=uD) hD (by have:=zBZ (ep:=0) (v:=true) (by omega); omega) a2 (fun w hw=>(uL (s:=s) hw).1) fun ho=>?_
 exact zI (h ho)
theorem zUz {clock ep:Nat} {v:Bool} {q:Int→K} (hD:OkD D) (hlife:zLB D ep v) (hm:max ep clock < 18446744073709551615)
  (h:OkD (D.save uD (xg (max ep clock + 1) v)).1→HG B (KpR kp d (max ep clock + 1) v mb::zJ d (D.save uD (xg (max ep clock + 1) v)).1::Γ) (q (D.save uD (xg (max ep clock + 1) v)).2)) :
  HG B (KpR kp d 0 false mb::zJ d D::Γ) (za.call (some ⟨kp,0,none⟩) (clock:Int) q):=by
 refine fun w hw=>zB3 _ _ _ _ ?_
 refine hg hw ?_
 clear hw w
 have hep:ep < 18446744073709551616:=by omega
 have hl11:=zBZ (v:=v) hep
 unfold za
 refine xM ?_
 refine yE (b:=kp) (l:=kpL d 0 false mb) (x:=some ⟨d,0,none⟩) ?_
 have S1:∀ {s:Sl},HG B (Bytes zF s (xg ep v)::KpR kp d 0 false mb::zJ d D::Γ) (za.s1 q ⟨kp,0,none⟩ (clock:Int) s):=fun {s}=>by
  unfold za.s1
  refine zGA (xs:=xg ep v) (by omega) (fun w hw=>(uL (s:=s) hw).1) fun e=>?_
  refine zMX (n:=ep) (rest:=[vB v]) hep rfl (by omega) ?_
  refine zG2 (b:=vB v) (rest:=[]) rfl ?_
  refine vI (show (if (clock:Int) > (ep:Int) then (clock:Int) else (ep:Int)) = ((max ep clock:Nat):Int) by split <;> omega) ?_
  have hv:(vB v).toNat ≤ 1:=by cases v <;> decide
  refine s_f ?_ (by rfl)
  refine s_f ?_ (by rfl)
  refine s_f ?_ (by simp; omega)
  refine zEP ?_
  rw [if_pos rfl]
  unfold za.s2
  refine s_f ?_ (by rfl)
  refine s_f ?_ (by simp; omega)
  refine vI (show IntKind.wrap .u64 (((max ep clock:Nat):Int) + 1) = ((max ep clock + 1:Nat):Int) by rw [xI (by omega) (by omega)]; push_cast; rfl) ?_
  refine zAd (b:=kp) (off:=1) (l:=kpL d 0 false mb) (l':=kpL d (max ep clock + 1) false mb) ?_ rfl rfl
  refine zAd (b:=kp) (off:=2) (l:=kpL d (max ep clock + 1) false mb) (l':=kpL d (max ep clock + 1) v mb) ?_ rfl (by cases v <;> rfl)
  refine zAQ ?_
  refine zKk [KpR kp d (max ep clock + 1) v mb] ?_
  refine jR (b:=kp) (l:=kpL d (max ep clock + 1) v mb) (x:=some ⟨d,0,none⟩) ?_
  refine jR (b:=kp) (off:=1) (l:=kpL d (max ep clock + 1) v mb) (x:=((max ep clock + 1:Nat):Int)) ?_
  refine jR (b:=kp) (off:=2) (l:=kpL d (max ep clock + 1) v mb) (x:=v) ?_
  refine zIB (ep:=max ep clock + 1) (by omega) fun s2=>?_
  refine zBb ?_
  refine jF (zJ d D) ?_
  refine vw s2 fun a1 a2 a3 a4=>?_
  refine zKG (n:=uD) hD (by have:=zBZ (ep:=max ep clock + 1) (v:=v) (by omega); omega) a2 (fun w hw=>(uL (s:=s2) hw).1) fun ho=>?_
  refine jF (KpR kp d (max ep clock + 1) v mb) ?_
  exact zI (h ho)
 refine jF (zJ d D) ?_
 rcases hlife with hr | ⟨rfl,rfl,hr⟩
 ·have hpl:=pk (x:=xg ep v) (by omega)
  refine zUx (n:=uD) hD hr (by omega) (by omega) fun f=>?_
  refine s_f ?_ (by rfl)
  refine s_f ?_ (by rfl)
  refine zI (Δ:=Bytes zF f (xg ep v)::KpR kp d 0 false mb::zJ d D::Γ) ?_
  exact S1
 ·refine zUy (n:=uD) (e:=60) hD hr (by decide) ?_
  refine s_t ?_ (by rfl)
  refine zIB (ep:=0) (by omega) fun s=>?_
  refine zI (Δ:=Bytes zF s (xg 0 false)::KpR kp d 0 false mb::zJ d D::Γ) ?_
  exact S1
end
end
end Go.Proofs.YtgmbfnboiobeaaaGreat
namespace Go.Sep
section
open Go Go.RowKit
inductive Ck where
 | int (k:IntKind)
 | str
 | bool
def Ck.fit:Ck→Value→Bool
 | .int k,.int k' _=>k' == k
 | .str,.string _=>true
 | .bool,.bool _=>true
 | _,_=>false
def fits:List Ck→List Value→Bool
 | [],[]=>true
 | c::cs,v::vs=>c.fit v && fits cs vs
 | _,_=>false
def zU0 (P:Program) (f:TypeId→Option (List Ck)):List Field→Nat→Option (List Ck)
 | [],_=>some []
 | x::fs,off=>match f x.type with
  | none=>none
  | some ks => if x.name != "_" && Nat.beq x.offset off && sizeT P x.type ks.length then (zU0 P f fs (off + ks.length)).map (ks ++ ·) else none
def zJn (P:Program):Nat→TypeId→Option (List Ck)
 | 0,_=>none
 | d + 1,t=>match P.underlying t with
  | some (.int k)=>some [.int k]
  | some .string=>some [.str]
  | some .bool=>some [.bool]
  | some (.struct fs)=>if P.stoodInHeld t then none else zU0 P (zJn P d) fs.toList 0
  | _=>none
def zCw (P:Program) (t:TypeId):Bool:=match P.underlying t with
 | some (.struct _)=>true
 | _=>false
def zDT (P:Program) (t:TypeId) (vs:List Value):Value:=if zCw P t then .agg vs.toArray else vs.headD .nilIface
theorem zR2 {k:IntKind} {v:Value} (h:(Ck.int k).fit v = true):∃ n,v = .int k n:=by
 cases v <;> simp [Ck.fit] at h
 subst h; exact ⟨_,rfl⟩
theorem zR3 {v:Value} (h:Ck.str.fit v = true):∃ n,v = .string n:=by
 cases v <;> simp [Ck.fit] at h
 exact ⟨_,rfl⟩
theorem zPa {v:Value} (h:Ck.bool.fit v = true):∃ n,v = .bool n:=by
 cases v <;> simp [Ck.fit] at h
 exact ⟨_,rfl⟩
theorem zDU:∀ {ks:List Ck} {vs:List Value},fits ks vs = true→vs.length = ks.length
 | [],[],_=>rfl
 | c::ks,v::vs,h=>by
  simp only [fits,Bool.and_eq_true] at h
  simp [zDU h.2]
 | [],_::_,h=>by simp [fits] at h
 | _::_,[],h=>by simp [fits] at h
theorem zLC:∀ {ks ks':List Ck} {vs:List Value},fits (ks++ks') vs = true→fits ks (vs.take ks.length) = true∧fits ks' (vs.drop ks.length) = true
 | [],ks',vs,h=>by simpa [fits] using h
 | c::ks,ks',[],h=>by simp [fits] at h
 | c::ks,ks',v::vs,h=>by
  simp only [List.cons_append,fits,Bool.and_eq_true] at h
  obtain ⟨h1,h2⟩:=zLC h.2
  simp only [List.length_cons,List.take_succ_cons,List.drop_succ_cons,fits,Bool.and_eq_true]
  exact ⟨⟨h.1,h1⟩,h2⟩
section
variable {P:Program}
theorem zSv {t:TypeId} {d:Nat} {ks:List Ck} (h:zJn P d t = some ks) (w:World):(isAgg t).run P w = .ok (zCw P t) w:=by
 cases d with
 | zero=>cases h
 | succ d =>
  unfold zJn at h
  unfold isAgg zCw
  split at h <;> rename_i hu
  ·simp [run_underlying hu,hu]
  ·simp [run_underlying hu,hu]
  ·simp [run_underlying hu,hu]
  ·simp [run_underlying hu,hu]
  ·cases h
theorem zYZ {t:TypeId} {d:Nat} {ks:List Ck} (h:zJn P d t = some ks) (hs:zCw P t = false):∃ c,ks = [c]:=by
 cases d with
 | zero=>cases h
 | succ d =>
  unfold zJn at h
  unfold zCw at hs
  split at h <;> rename_i hu
  ·exact ⟨_,(Option.some.inj h).symm⟩
  ·exact ⟨_,(Option.some.inj h).symm⟩
  ·exact ⟨_,(Option.some.inj h).symm⟩
  ·rw [hu] at hs; cases hs
  ·cases h
theorem zGi {t:TypeId} {d:Nat} {ks:List Ck} (h:zJn P d t = some ks) (hz:sizeT P t ks.length = true) {cs:List Value} {off:Nat} (hl:off + ks.length ≤ cs.length) (w:World) :
  (part t cs.toArray off).run P w = .ok (zDT P t ((cs.drop off).take ks.length)) w:=by
 unfold part zDT
 simp only [Sem.run_bind,zSv h,Result.andThen]
 cases hs:zCw P t with
 | true =>
  simp only [if_true,Sem.run_bind,jJ hz,Result.andThen,Sem.run_pure]
  congr 2
  apply Array.ext'
  simp [List.extract]
 | false =>
  obtain ⟨c,rfl⟩:=zYZ h hs
  simp only [List.length_cons,List.length_nil,Nat.zero_add] at hl ⊢
  have hlt:off < cs.length:=by omega
  have e:cs.toArray[off]? = some cs[off]:=by simp [hlt]
  simp only [Bool.false_eq_true,if_false,e,Sem.run_pure]
  rw [List.drop_eq_getElem_cons hlt]
  rfl
theorem zR4 {D d:Nat} (ih:∀ t ks xs ys,zJn P d t = some ks→fits ks xs = true→fits ks ys = true→∀ w,∃ r:Bool,(Op.equalIn D t (zDT P t xs) (zDT P t ys)).run P w = .ok r w∧(r = true ↔ xs = ys)) (xs ys:List Value) :
  ∀ (fs:List Field) (off:Nat) (ks:List Ck),zU0 P (zJn P d) fs off = some ks→off ≤ xs.length→off ≤ ys.length→fits ks (xs.drop off) = true→fits ks (ys.drop off) = true→∀ w,∃ r:Bool,(Op.eqFields D xs.toArray ys.toArray fs).run P w = .ok r w∧(r = true ↔ xs.drop off = ys.drop off)
 | [],off,ks,h,_,_,hx,hy,w=>by
  simp only [zU0,Option.some.injEq] at h
  subst h
  have h1:=List.length_eq_zero_iff.1 (zDU hx)
  have h2:=List.length_eq_zero_iff.1 (zDU hy)
  exact ⟨true,by simp [Op.eqFields],by simp [h1,h2]⟩
 | f::fs,off,ks,h,lx,ly,hx,hy,w=>by
  unfold zU0 at h
  split at h
  ·cases h
  rename_i k1 hk1
  split at h
  ·rename_i hc
   simp only [Bool.and_eq_true,bne_iff_ne,ne_eq,Nat.beq_eq] at hc
   obtain ⟨⟨hn,rfl⟩,hz⟩:=hc
   simp only [Option.map_eq_some_iff] at h
   obtain ⟨k2,hk2,rfl⟩:=h
   have ax:=zLC hx
   have ay:=zLC hy
   have cx:=zDU hx
   have cy:=zDU hy
   simp only [List.length_append,List.length_drop] at cx cy
   obtain ⟨r,hr,hiff⟩:=ih f.type k1 _ _ hk1 ax.1 ay.1 w
   obtain ⟨r2,hr2,hiff2⟩:=zR4 ih xs ys fs _ k2 hk2 (by omega) (by omega) (by rw [← List.drop_drop]; exact ax.2) (by rw [← List.drop_drop]; exact ay.2) w
   unfold Op.eqFields
   rw [if_pos hn]
   simp only [Sem.run_bind,zGi hk1 hz (show f.offset + k1.length ≤ xs.length by omega),zGi hk1 hz (show f.offset + k1.length ≤ ys.length by omega),Result.andThen,hr]
   have hsp:xs.drop f.offset = ys.drop f.offset ↔ ((xs.drop f.offset).take k1.length = (ys.drop f.offset).take k1.length∧xs.drop (f.offset + k1.length) = ys.drop (f.offset + k1.length)):=by
    constructor
    ·intro e; rw [e,← List.drop_drop,← List.drop_drop,e]; exact ⟨rfl,rfl⟩
    ·rintro ⟨e1,e2⟩
     rw [← List.take_append_drop k1.length (xs.drop f.offset),← List.take_append_drop k1.length (ys.drop f.offset),e1,List.drop_drop,List.drop_drop,e2]
   cases r with
   | false =>
    refine ⟨false,by simp,?_⟩
    rw [hsp,← hiff]; simp
   | true =>
    refine ⟨r2,by simpa using hr2,?_⟩
    rw [hsp,← hiff,hiff2]; simp
  ·cases h
theorem str_inj {a b:ByteArray}:(a.toList == b.toList) = true ↔ a = b:=by
 obtain ⟨x,rfl⟩:=zUP a
 obtain ⟨y,rfl⟩:=zUP b
 rw [zJ6,zJ6,beq_iff_eq]
 exact ⟨fun h=>by rw [h],fun h=>by have:=congrArg ByteArray.toList h; rwa [zJ6,zJ6] at this⟩
theorem zJS (D:Nat):∀ (d:Nat) (t:TypeId) (ks:List Ck) (xs ys:List Value),zJn P d t = some ks→fits ks xs = true→fits ks ys = true→∀ w,∃ r:Bool,(Op.equalIn (D + d) t (zDT P t xs) (zDT P t ys)).run P w = .ok r w∧(r = true ↔ xs = ys)
 | 0,t,ks,xs,ys,h,_,_,w=>by cases h
 | d + 1,t,ks,xs,ys,h,hx,hy,w=>by
  unfold zJn at h
  have lx:=zDU hx
  have ly:=zDU hy
  split at h <;> rename_i hu
  ·injection h with h; subst h
   obtain ⟨x,rfl⟩:=List.length_eq_one_iff.1 lx
   obtain ⟨y,rfl⟩:=List.length_eq_one_iff.1 ly
   simp only [fits,Bool.and_true] at hx hy
   have hs:zCw P t = false:=by unfold zCw; rw [hu]
   obtain ⟨a,rfl⟩:=zR2 hx
   obtain ⟨b,rfl⟩:=zR2 hy
   refine ⟨a == b,?_,by simp⟩
   simp only [zDT,hs,Bool.false_eq_true,if_false,List.headD_cons]
   exact run_equalIn_int w (D + d) t _ _ _ _ hu
  ·injection h with h; subst h
   obtain ⟨x,rfl⟩:=List.length_eq_one_iff.1 lx
   obtain ⟨y,rfl⟩:=List.length_eq_one_iff.1 ly
   simp only [fits,Bool.and_true] at hx hy
   have hs:zCw P t = false:=by unfold zCw; rw [hu]
   obtain ⟨a,rfl⟩:=zR3 hx
   obtain ⟨b,rfl⟩:=zR3 hy
   refine ⟨a.toList == b.toList,?_,by rw [str_inj]; simp⟩
   simp only [zDT,hs,Bool.false_eq_true,if_false,List.headD_cons]
   exact run_equalIn_string w (D + d) t _ _ hu
  ·injection h with h; subst h
   obtain ⟨x,rfl⟩:=List.length_eq_one_iff.1 lx
   obtain ⟨y,rfl⟩:=List.length_eq_one_iff.1 ly
   simp only [fits,Bool.and_true] at hx hy
   have hs:zCw P t = false:=by unfold zCw; rw [hu]
   obtain ⟨a,rfl⟩:=zPa hx
   obtain ⟨b,rfl⟩:=zPa hy
   refine ⟨a == b,?_,by simp⟩
   simp only [zDT,hs,Bool.false_eq_true,if_false,List.headD_cons]
   exact run_equalIn_bool' w (D + d) t _ _ hu
  ·rename_i fs
   split at h
   ·cases h
   rename_i hst
   have hs:zCw P t = true:=by unfold zCw; rw [hu]
   have hf:P.fieldsOf t = fs:=by unfold Program.fieldsOf; rw [hu]
   simp only [zDT,hs,if_true]
   rw [show D + (d + 1) = (D + d) + 1 by omega,run_equalIn_agg w (D + d) t _ _ (by rw [hf,hu]) (by simpa using hst),hf]
   have:=zR4 (D:=D + d) (fun t ks xs ys h1 h2 h3 w=>zJS D d t ks xs ys h1 h2 h3 w) xs ys fs.toList 0 ks h (Nat.zero_le _) (Nat.zero_le _) (by simpa using hx) (by simpa using hy) w
   simpa using this
  ·cases h
theorem zLD {d:Nat} (hd:d ≤ 10000) {t:TypeId} {ks:List Ck} {xs ys:List Value} (h:zJn P d t = some ks) (hs:zCw P t = true) (hx:fits ks xs = true) (hy:fits ks ys = true) (w:World):∃ r:Bool,(Op.equal t (.agg xs.toArray) (.agg ys.toArray)).run P w = .ok r w∧(r = true ↔ xs = ys):=by
 have:=zJS (10000 - d) d t ks xs ys h hx hy w
 rw [show 10000 - d + d = 10000 by omega] at this
 unfold Op.equal Op.maxDepth
 simpa only [zDT,hs,if_true] using this
structure zZu {α:Type} (P:Program) (kt:TypeId) (cel:α→List Value):Prop where
 st:zCw P kt = true
 ks:∃ ks,zJn P 9 kt = some ks∧∀ a,fits ks (cel a) = true
 inj:∀ a b,cel a = cel b→a = b
 bits:∀ a,Instr.sameBits 10000 (.agg (cel a).toArray) (.agg (cel a).toArray) = true
abbrev kyS {α:Type} (cel:α→List Value) (a:α):Value:=.agg (cel a).toArray
section
variable {α β:Type} [DecidableEq α] {B w:World} {Γ Δ:List zB} {kt:TypeId} {cel:α→List Value} {cV:β→Value} {k:K}
theorem zZu.eq (hE:zZu P kt cel) (a b:α) (w:World):(Op.equal kt (kyS cel a) (kyS cel b)).run P w = .ok (decide (a = b)) w:=by
 obtain ⟨ks,h1,h2⟩:=hE.ks
 obtain ⟨r,hr,hiff⟩:=zLD (d:=9) (by omega) h1 hE.st (h2 a) (h2 b) w
 have e:r = decide (a = b):=by rw [Bool.eq_iff_iff,hiff]; simp; exact ⟨hE.inj a b,fun h=>by rw [h]⟩
 rw [← e]; exact hr
class zYa (r:Nat) (Γ:List zB) (A:outParam zB) (Δ:outParam (List zB)):Prop where perm:Γ.Perm (A::Δ)
instance (priority:=low) zYq {r:Nat} {X A:zB} {Γ Δ:List zB} [h:zYa r Γ A Δ]:zYa r (X::Γ) A (X::Δ):=⟨zF4 h.perm⟩
instance (priority:=high) zaP {α β:Type} [DecidableEq α] {enc:α→Value} {cV:β→Value} {b r:Nat} {m left:List (α×β)} {cur:Option (α×β)} {Γ:List zB}:zYa r (zBQ enc cV b r m left cur::Γ) (zBQ enc cV b r m left cur) Γ:=⟨.refl _⟩
theorem zYb {α:Type} {vs:List Value} {i:Nat} {c:α→Value} {v:Value} {x:α} {k:α→K} (h:HG B Γ (k x)) [n:zPA vs i v] [e:Cv c v x]:HG B Γ (Ext (.tuple vs.toArray) i c k):=fun w hw=>⟨_,x,rfl,by have:=n.h; rw [zGq] at this; rw [e.h] at this; simpa using this,h w hw⟩
instance zbE {α:Type} {vs:List Value} {i:Nat} {c:α→Value} {v:Value} {x:α} {k:α→K} [n:zPA vs i v] [e:Cv c v x]:Nx B Γ (Ext (.tuple vs.toArray) i c k) Γ (k x):=⟨fun h=>zYb h⟩
end
end
end
section
open Go Go.RowKit
section
variable {P:Program} {B:World} {Γ Δ:List zB} {α γ:Type}
end
end
end Go.Sep
namespace Go.Proofs.YtgmbfnboiobeaaaGreat
section
open Go Go.Sep
theorem zPb:zE3 Tryz.prog zDE (.int .i64) zDF:=⟨3,by kernel_rfl,by kernel_rfl⟩
theorem zJT:zE3 Tryz.prog zKY (.int .i64) j3:=⟨3,by kernel_rfl,by kernel_rfl⟩
def yQ (g:Int):List UInt8:=[103,u8 (48 + g.toNat)]
def zE8 (L:List Nat):Nat:=L.foldl (fun _ x=>x) 0
theorem zLE (L:List Nat) (x:Nat):zE8 (L++[x]) = x:=by simp [zE8]
theorem zU1 {L:List Nat} {x:Nat} (h:∀ y ∈ L,y ≤ x):zE8 L ≤ x:=by
 rcases List.eq_nil_or_concat L with rfl | ⟨L',y,rfl⟩
 ·simp [zE8]
 ·rw [List.concat_eq_append,zLE]; exact h y (by simp)
abbrev zBR (l vb:Nat):List Value:=[.pointer (some ⟨l,0,none⟩),.pointer (some ⟨vb,0,none⟩)]
abbrev zWZ (g d l vb:Nat) (W:q8) (p:Int) (Γ:List zB):List zB:=blk g (.cells (zBR l vb).toArray yL (0,0))::uU l d W::zIz vb p::Γ
def zQv (g d:Nat) (W:q8) (p:Int):zB:=ex fun l:Nat=>ex fun vb:Nat=>Sep.stars (zWZ g d l vb W p [])
structure zYc (W:q8) (L:List Nat):Prop where
 ok:OkW W
 recs:W.recs = L.map zAH
 srt:L.Pairwise (· ≤ ·)
 lt:∀ x ∈ L,x < 18446744073709551616
section
variable {B:World} {Γ Δ:List zB} {k:K} {d kp mb:Nat} {D D1:zC} {W:q8} {L:List Nat}
theorem zWa {g l vb:Nat} {p:Int} (h:HG B (zQv g d W p::Γ) k):HG B (zWZ g d l vb W p Γ) k:=fun w hw=>by
 refine h w ?_
 have h3:Holds B (Sep.stars (zWZ g d l vb W p [])::Γ) w:=Holds.flat.2 hw
 exact h3.imp fun x hx=>⟨l,vb,hx⟩
instance (priority:=high) zaQ {g:Nat} {p:Int}:Sep.Own g (zQv g d W p::Γ) (zQv g d W p) Γ:=⟨.refl _⟩
theorem zU2 {s:Sl} {recs:List (List UInt8)} (h:∀ rs:zFG,rs.map Prod.snd = recs→HG B (SlC zL 1 s (rs.map uM)::Sep.stars (rs.map vk)::Γ) k):HG B (zUj s recs::Γ) k:=zD3 fun rs=>zCY <| zHd fun h1=>h rs h1
theorem zEv {α:Type} {F:α→zB} {l:List α} {x:α} {w:World} (hx:x ∈ l) (h:Holds B (Sep.stars (l.map F)::Γ) w):∃ Δ,Holds B (F x::Δ) w:=by
 obtain ⟨i,hi⟩:=List.getElem?_of_mem hx
 exact ⟨_,zQX i hi h⟩
theorem zN5 {α:Type} {F:α→zB} {A:List α} {x:α} (h:HG B (Sep.stars ((A++[x]).map F)::Γ) k):HG B (F x::Sep.stars (A.map F)::Γ) k:=by
 refine zF7 (A:=A) (C:=[]) ?_ |> fun h=>by rw [List.append_nil] at h; exact h
 exact h
theorem zOy {a b:List UInt8} {q:ByteArray→K} (hl:a.length + b.length ≤ 1000000) (h:HG B Γ (q (bs (a++b)))):HG B Γ (Cat (bs a) (bs b) q):=fun w hw=>⟨bs (a++b),by
 have h1:(bs a).size = a.length:=rfl
 have h2:(bs b).size = b.length:=rfl
 omega,(zRx a b).symm,h w hw⟩
theorem zU3 {g:Int} {M:List (Int×Option Addr)} {ep:Nat} {v:Bool} {q:Int→K} (hg0:0 ≤ g) (hg3:g ≤ 3) (hD:OkD D) (hload:(uG (yQ g) 40960).load D = (D1,W,0)) (hL:zYc W L)
  (h:∀ gb,OkD D1→HG B (KpR kp d ep v mb::qM (Value.int .i64) Value.pointer mb (qR g (some ⟨gb,0,none⟩) M)::zQv gb d W (zE8 L:Nat)::zJ d D1::Γ) (q 0)) :
  HG B (KpR kp d ep v mb::qM (Value.int .i64) Value.pointer mb M::zJ d D::Γ) (qK.call (some ⟨kp,0,none⟩) g q):=by
 refine fun w hw=>zCD _ _ _ _ ?_
 refine hg hw ?_
 clear hw w
 unfold qK
 refine xM ?_
 refine yE (b:=kp) (l:=kpL d ep v mb) (x:=some ⟨d,0,none⟩) ?_
 refine vI (show IntKind.wrap .i64 (48 + g) = ((48 + g.toNat:Nat):Int) by rw [wrap64 (by omega) (by omega)]; omega) ?_
 have h32:IntKind.wrap .i32 ((48 + g.toNat:Nat):Int) = ((48 + g.toNat:Nat):Int):=by
  have:g.toNat = 0∨g.toNat = 1∨g.toNat = 2∨g.toNat = 3:=by omega
  rcases this with e | e | e | e <;> rw [e] <;> rfl
 refine vI h32 ?_
 refine fun w hw=>zQj (c:=48 + g.toNat) (by omega) ?_
 refine hg hw ?_
 clear hw w
 refine zOy (a:=[103]) (b:=[u8 (48 + g.toNat)]) (by simp) ?_
 show HG B _ (zAN.call (some ⟨d,0,none⟩) (bs (yQ g)) 40960 _)
 refine jF (zJ d D) ?_
 refine fun w hw=>zGh (name:=yQ g) (size:=40960) (by unfold yQ; simp) (by omega) hD hw (fun _ l w hD1 hw=>?_) fun hne=>?_
 rotate_left
 ·rw [hload] at hne; exact absurd rfl hne
 rw [hload] at hw hD1
 simp only at hw hD1
 refine hg hw ?_
 clear hw w
 refine s_f ?_ (by rfl)
 refine zSq fun vb=>?_
 refine ql fun gb=>?_
 refine jF (uU l d W) ?_
 have hsm:∀ r ∈ W.recs,r.length ≤ 1000000:=fun r hr=>by
  rw [hL.recs] at hr
  obtain ⟨x,hx,rfl⟩:=List.mem_map.1 hr
  have:=xO 9 x (by have:=hL.lt x hx; omega)
  unfold zAH; simp; omega
 refine fun w hw=>zEV hL.ok hsm hw fun s w hw=>?_
 refine hg hw ?_
 clear hw w
 refine zU2 fun rs hrs=>?_
 rw [hL.recs] at hrs
 have hlen:rs.length = L.length:=by have:=congrArg List.length hrs; simpa using this
 have hrl:=hL.ok.few
 rw [hL.recs,List.length_map] at hrl
 refine vw s fun c1 c2 c3 c4=>?_
 rw [List.length_map,Nat.mul_one] at c1
 refine zI (Δ:=zIz vb 0::SlC zL 1 s (rs.map uM)::Sep.stars (rs.map vk)::blk gb (.cells (zBR l vb).toArray yL (0,0))::uU l d W::KpR kp d ep v mb::qM (Value.int .i64) Value.pointer mb M::zJ d D1::Γ) ?_
 refine jm (α:=Int) (ι:=Nat) (fun y i=>y = (i:Int)∧i ≤ L.length) (fun y i=>zIz vb ((zE8 (L.take i):Nat):Int)::SlC zL 1 s (rs.map uM)::Sep.stars (rs.map vk)::blk gb (.cells (zBR l vb).toArray yL (0,0))::uU l d W::KpR kp d ep v mb::qM (Value.int .i64) Value.pointer mb M::zJ d D1::Γ) (fun y i=>L.length - i) 0 ⟨rfl,Nat.zero_le _⟩ ?_ (by simp [zE8])
 rintro k' _ i ⟨rfl,hi⟩ hk'
 unfold qK.b1
 refine yA (fun hb=>?_) fun hb=>?_
 ·have hil:i < L.length:=by simp only [decide_eq_true_eq] at hb; omega
  have hgr:rs[i]? = some rs[i]:=List.getElem?_eq_getElem (by omega)
  have hmr:rs[i] ∈ rs:=List.getElem_mem (by omega)
  have hrec:(rs[i]).2 = zAH L[i]:=by
   have:=congrArg (·[i]?) hrs
   simp only [List.getElem?_map,hgr,List.getElem?_eq_getElem hil,Option.map_some,Option.some.injEq] at this
   exact this
  have htk:L.take (i + 1) = L.take i++[L[i]]:=List.take_succ_eq_append_getElem hil
  have hlt:=hL.lt L[i] (List.getElem_mem hil)
  have hle:zE8 (L.take i) ≤ L[i]:=zU1 fun y hy=>by
   have h1:=hL.srt
   rw [← List.take_append_drop i L,List.pairwise_append] at h1
   exact h1.2.2 y hy L[i] (by rw [List.drop_eq_getElem_cons hil]; exact List.mem_cons_self)
  generalize rs[i] = r at hgr hmr hrec
  refine jZ (c:=Sl.val) (L:=rs.map Prod.fst) (j:=i) (x:=r.1) (fun w hw=>by rw [List.map_map]; exact (uL (s:=s) hw).1) (by rw [List.getElem?_map,hgr]; rfl) ?_
  refine yE (b:=gb) (off:=1) (l:=zBR l vb) (x:=some ⟨vb,0,none⟩) ?_
  refine zQm (n:=L[i]) hlt (by omega) (fun w hw=>?_) ?_
  ·obtain ⟨Δ,hd⟩:=zEv (Γ:=[]) (F:=vk) hmr (hw.drops (Δ:=[Sep.stars (rs.map vk)]))
   rw [← hrec]
   exact Bytes.rd hd List.mem_cons_self
  refine s_f ?_ (by rfl)
  refine zAn ?_
  have:=hk' ((i:Int) + 1) (i + 1) ⟨by simp,hil⟩ (by omega)
  rw [htk,zLE] at this
  exact this
 ·have hil:i = L.length:=by simp only [decide_eq_false_iff_not] at hb; omega
  rw [hil,List.take_length]
  refine yE (b:=kp) (off:=3) (l:=kpL d ep v mb) (x:=some mb) ?_
  refine zO9 (b:=mb) (m:=M) (a:=g) (cV:=Value.pointer) (enc:=Value.int .i64) (v:=some ⟨gb,0,none⟩) (cG:=Value.pointer) rfl zPb (zAr .i64) ?_
  refine zI (Δ:=zWZ gb d l vb W ((zE8 L:Nat):Int) (KpR kp d ep v mb::qM (Value.int .i64) Value.pointer mb (qR g (some ⟨gb,0,none⟩) M)::zJ d D1::Γ)) ?_
  refine zWa ?_
  exact zI (h gb hD1)
abbrev zPc (d:Nat) (Wf:Int→q8) (Lf:Int→List Nat) (G:List (Int×Nat)):zB:=Sep.stars (G.map fun p=>zQv p.2 d (Wf p.1) ((zE8 (Lf p.1):Nat):Int))
abbrev zPd (G:List (Int×Nat)):List (Int×Option Addr):=G.map fun p=>(p.1,some ⟨p.2,0,none⟩)
theorem zU4 {G:List (Int×Nat)} {g:Int} (h:g ∉ G.map Prod.fst):zO g (zPd G) = none:=by
 induction G with
 | nil=>rfl
 | cons p G ih=>
  simp only [List.map_cons,List.mem_cons,not_or] at h
  simp only [zPd,List.map_cons,zO]
  rw [if_neg h.1]
  exact ih h.2
theorem zWb {gs:List Int} {s:Sl} {clock ep:Nat} {v:Bool} {Wf:Int→q8} {Lf:Int→List Nat} {q:Option Addr→Int→K}
  (hgs:∀ g ∈ gs,0 ≤ g∧g ≤ 3) (hnd:gs.Nodup) (hl:gs.length ≤ 2) (hr:∀ w,Holds B Γ w→RdC w s 1 (gs.map (Value.int .i64))) (hD:OkD D) (hlife:zLB D ep v) (hm:max ep clock < 18446744073709551615)
  (hload:(D.save uD (xg (max ep clock + 1) v)).2 = 0→∀ g ∈ gs,(uG (yQ g) 40960).load (D.save uD (xg (max ep clock + 1) v)).1 = ((D.save uD (xg (max ep clock + 1) v)).1,Wf g,0)∧zYc (Wf g) (Lf g))
  (hbad:(D.save uD (xg (max ep clock + 1) v)).2 ≠ 0→OkD (D.save uD (xg (max ep clock + 1) v)).1→HG B (zJ d (D.save uD (xg (max ep clock + 1) v)).1::Γ) (q none (D.save uD (xg (max ep clock + 1) v)).2))
  (hok:∀ kp mb G,(D.save uD (xg (max ep clock + 1) v)).2 = 0→OkD (D.save uD (xg (max ep clock + 1) v)).1→G.map Prod.fst = gs →
   HG B (KpR kp d (max ep clock + 1) v mb::qM (Value.int .i64) Value.pointer mb (zPd G)::zPc d Wf Lf G::zJ d (D.save uD (xg (max ep clock + 1) v)).1::Γ) (q (some ⟨kp,0,none⟩) 0)) :
  HG B (zJ d D::Γ) (yR.call (some ⟨d,0,none⟩) s (clock:Int) q):=fun w hw=>by
 refine zE7 _ _ _ _ _ ?_
 have hsn:s.n = gs.length:=by have:=(hr w hw.tail).len; rw [List.length_map] at this; omega
 refine hg hw ?_
 clear hw w
 unfold yR
 refine zKB (enc:=Value.int .i64) (cV:=Value.int .i64) fun sb=>?_
 refine jm (α:=Int) (ι:=Nat×List (Int×Int)) (fun y i=>y = (i.1:Int)∧i.1 ≤ gs.length∧∀ g,zO g i.2 = if g ∈ gs.take i.1 then some 1 else none) (fun y i=>qM (Value.int .i64) (Value.int .i64) sb i.2::zJ d D::Γ) (fun y i=>gs.length - i.1) (0,[]) ⟨rfl,Nat.zero_le _,fun g=>by simp [zO]⟩ ?_
 rintro k' _ ⟨i,M⟩ ⟨rfl,hi,hM⟩ hk'
 simp only at hi hM hk' ⊢
 unfold yR.b1
 refine yA (fun hb=>?_) fun hb=>?_
 ·have hil:i < gs.length:=by simp only [decide_eq_true_eq] at hb; omega
  have hge:gs[i]? = some gs[i]:=List.getElem?_eq_getElem hil
  have htk:gs.take (i + 1) = gs.take i++[gs[i]]:=List.take_succ_eq_append_getElem hil
  have hno:gs[i] ∉ gs.take i:=fun hm=>by
   have h1:=hnd
   rw [← List.take_append_drop i gs] at h1
   exact (List.nodup_append.1 h1).2.2 _ hm _ (by rw [List.drop_eq_getElem_cons hil]; exact List.mem_cons_self) rfl
  obtain ⟨g0,g3⟩:=hgs _ (List.getElem_mem hil)
  generalize gs[i] = g at hge htk hno g0 g3
  refine jZ (L:=gs) (c:=Value.int .i64) (j:=i) (x:=g) (fun w hw=>hr w (hw.drops (Δ:=Γ))) hge ?_
  refine zDj (b:=sb) (m:=M) (a:=g) (cV:=Value.int .i64) (cG:=Value.int .i64) (g:=id) (z:=(0:Int)) (enc:=Value.int .i64) (fun _=>rfl) zJT (zAr .i64) zBz ?_
  rw [hM g,if_neg hno,Option.getD_none]
  refine vI (show IntKind.wrap .i64 (id (0:Int) + 1) = 1 by rfl) ?_
  refine zO9 (b:=sb) (m:=M) (a:=g) (cV:=Value.int .i64) (enc:=Value.int .i64) (v:=(1:Int)) (cG:=Value.int .i64) rfl zJT (zAr .i64) ?_
  refine s_f ?_ (by simp; omega)
  refine s_f ?_ (by simp; omega)
  refine zDj (b:=sb) (m:=qR g 1 M) (a:=g) (cV:=Value.int .i64) (cG:=Value.int .i64) (g:=id) (z:=(0:Int)) (enc:=Value.int .i64) (fun _=>rfl) zJT (zAr .i64) zBz ?_
  rw [xK,if_pos rfl,Option.getD_some]
  refine s_f ?_ (by rfl)
  rw [show decide ((2:Int) < (s.n:Int)) = false by simp; omega]
  unfold yR.s2
  refine s_f ?_ (by rfl)
  refine zAn ?_
  refine hk' ((i:Int) + 1) (i + 1,qR g 1 M) ⟨by simp,hil,fun x=>?_⟩ (by simp only; omega)
  simp only
  rw [xK,htk]
  by_cases e:x = g
  ·rw [if_pos e,if_pos (by simp [e])]
  ·rw [if_neg e,hM x]
   simp [e]
 refine zI (Δ:=zJ d D::Γ) ?_
 refine zKB (enc:=Value.int .i64) (cV:=Value.pointer) fun mb=>?_
 refine ql fun kp=>?_
 refine zI (Δ:=KpR kp d 0 false mb::zJ d D::qM (Value.int .i64) Value.pointer mb ([]:List (Int×Option Addr))::Γ) ?_
 refine zUz hD hlife hm fun ho=>?_
 generalize hS:D.save uD (xg (max ep clock + 1) v) = S at hload hbad hok ho ⊢
 obtain ⟨D1,e⟩:=S
 simp only at hload hbad hok ho ⊢
 by_cases he:e = 0
 rotate_left
 ·refine s_t ?_ (by simpa using he)
  exact zI (hbad he ho)
 subst he
 refine s_f ?_ (by rfl)
 have hload:=hload rfl
 refine fun w hw=>hg (show Holds B (zPc d Wf Lf []::_) w from hw.zA6) ?_
 clear hw w
 refine zI (Δ:=KpR kp d (max ep clock + 1) v mb::qM (Value.int .i64) Value.pointer mb ([]:List (Int×Option Addr))::zJ d D1::zPc d Wf Lf []::Γ) ?_
 refine jm (α:=Int) (ι:=Nat×List (Int×Nat)) (fun y i=>y = (i.1:Int)∧i.1 ≤ gs.length∧i.2.map Prod.fst = gs.take i.1) (fun y i=>KpR kp d (max ep clock + 1) v mb::qM (Value.int .i64) Value.pointer mb (zPd i.2)::zJ d D1::zPc d Wf Lf i.2::Γ) (fun y i=>gs.length - i.1) (0,[]) ⟨rfl,Nat.zero_le _,rfl⟩ ?_
 rintro k2 _ ⟨i2,G⟩ ⟨rfl,hi2,hG⟩ hk2
 simp only at hi2 hG hk2 ⊢
 unfold yR.b3
 refine yA (fun hb2=>?_) fun hb2=>?_
 ·have hil:i2 < gs.length:=by simp only [decide_eq_true_eq] at hb2; omega
  have hge:gs[i2]? = some gs[i2]:=List.getElem?_eq_getElem hil
  have hmem:gs[i2] ∈ gs:=List.getElem_mem hil
  have htk:gs.take (i2 + 1) = gs.take i2++[gs[i2]]:=List.take_succ_eq_append_getElem hil
  have hno:gs[i2] ∉ gs.take i2:=fun hm=>by
   have h1:=hnd
   rw [← List.take_append_drop i2 gs] at h1
   exact (List.nodup_append.1 h1).2.2 _ hm _ (by rw [List.drop_eq_getElem_cons hil]; exact List.mem_cons_self) rfl
  obtain ⟨g0,g3⟩:=hgs _ hmem
  obtain ⟨ld1,ld2⟩:=hload _ hmem
  generalize gs[i2] = g at hge htk hno g0 g3 ld1 ld2
  refine jZ (L:=gs) (c:=Value.int .i64) (j:=i2) (x:=g) (fun w hw=>hr w (hw.drops (Δ:=Γ))) hge ?_
  refine zU3 (D1:=D1) (W:=Wf g) (L:=Lf g) g0 g3 ho ld1 ld2 fun gb _=>?_
  refine s_f ?_ (by rfl)
  refine zAn ?_
  rw [zAV (zU4 (by rw [hG]; exact hno))]
  refine zI (Δ:=zQv gb d (Wf g) ((zE8 (Lf g):Nat):Int)::zPc d Wf Lf G::KpR kp d (max ep clock + 1) v mb::qM (Value.int .i64) Value.pointer mb (zPd G++[(g,some ⟨gb,0,none⟩)])::zJ d D1::Γ) ?_
  have:=hk2 ((i2:Int) + 1) (i2 + 1,G++[(g,gb)]) ⟨by simp,hil,by rw [List.map_append,hG,htk]; rfl⟩ (by simp only; omega)
  refine zN5 (F:=fun p:Int×Nat=>zQv p.2 d (Wf p.1) ((zE8 (Lf p.1):Nat):Int)) (A:=G) (x:=(g,gb)) ?_
  rw [show zPd G++[(g,some ⟨gb,0,none⟩)] = zPd (G++[(g,gb)]) by simp [zPd]]
  exact zI this
 ·have hil:i2 = gs.length:=by simp only [decide_eq_false_iff_not] at hb2; omega
  rw [hil,List.take_length] at hG
  exact zI (hok kp mb G rfl ho hG)
end
end
section
open Go Go.Sep
structure RF where
 f:vK
 s:Sl
abbrev RFs:=List (List UInt8×RF)
abbrev rfF (x:List UInt8×RF):List Value:=[zAR x.1,x.2.s.val,.int .i64 (x.2.f.last:Int)]
abbrev rfA (x:List UInt8×RF):Array Value:=#[zAR x.1,x.2.s.val,.int .i64 (x.2.f.last:Int)]
theorem zDr (x:List UInt8×RF):(rfF x).length = 3:=rfl
abbrev xH (fs:RFs):Files:=fs.map fun p=>(p.1,p.2.f)
abbrev zDs:=List (Sl×List UInt8)
abbrev vX (p:Sl×List UInt8):zB:=Bytes zF p.1 p.2
def Cov (L:zDs) (s:Sl) (x:List UInt8):Prop:=(s = ⟨none,0,0⟩∧x = [])∨∃ p ∈ L,∃ n c,n ≤ p.1.n∧n ≤ c∧s = ⟨p.1.a,n,c⟩∧x = p.2.take n
abbrev zEw (L:zDs) (fs:RFs):Prop:=∀ p ∈ fs,Cov L p.2.s p.2.f.data
abbrev mA (a:DkA) (s:Sl):Array Value:=#[.int .i64 a.room,s.val,.int .i64 a.left,.bool a.down]
theorem zBj:∀ (x y:List UInt8),Op.bytesLess x y = decide (x < y)
 | [],[]=>by simp [Op.bytesLess]
 | _::_,[]=>by simp [Op.bytesLess]
 | [],_::_=>by simp [Op.bytesLess]
 | a::x,b::y=>by
  rw [Op.bytesLess,zBj x y]
  simp only [List.cons_lt_cons_iff]
  by_cases h1:a < b <;> by_cases h2:a = b <;> by_cases h3:x < y <;> simp [h1,h2,h3]
theorem zUQ (x y:List UInt8):(!(Op.bytesLess x y || x == y)) = decide (y < x):=by
 rw [zBj]
 by_cases h1:x < y
 ·have:¬ y < x:=fun h=>List.lt_irrefl x (List.lt_trans h1 h)
  simp [h1,this]
 ·by_cases h2:x = y
  ·subst h2; simp [h1]
  ·have h3:y < x:=by
    have h4:y ≤ x:=by rw [← List.not_lt]; exact h1
    rcases List.le_iff_lt_or_eq.1 h4 with h5 | h5
    ·exact h5
    ·exact absurd h5.symm h2
   simp [h1,h2,h3]
section
variable {B w:World} {Γ:List zB} {m:Nat} {a:DkA} {s:Sl} {fs:RFs} {L:zDs} {n:List UInt8}
theorem zR5 (fs:RFs):∀ v ∈ fs.flatMap rfF,qC v = true:=fun v hv=>by
 obtain ⟨x,_,hx⟩:=List.mem_flatMap.1 hv
 simp only [rfF,List.mem_cons,List.not_mem_nil,or_false] at hx
 rcases hx with rfl | rfl | rfl <;> rfl
theorem zPe {A:zB} (h:Holds B (A::SlC zD 3 s (fs.flatMap rfF)::Γ) w):fs.length = s.n:=by
 have:=h.tail.zAm.1
 rw [yu rfF 3 zDr] at this
 omega
theorem zBv {j:Nat} {x:List UInt8×RF} {k:Addr→K} (hr:RdC w s 3 (fs.flatMap rfF)) (hx:fs[j]? = some x)
  (hk:∀ t,w.cell? t = some (zAR x.1)→w.cell? (t.add 1) = some x.2.s.val→w.cell? (t.add 2) = some (.int .i64 (x.2.f.last:Int))→RdN w t (rfA x)→k t w):Idx s (j:Int) 3 k w:=by
 refine zUE rfF zDr (by decide) hr hx fun t ht=>?_
 have h:=ht w hr
 exact hk t (h 0 (show 0 < 3 by decide)) (h 1 (show 1 < 3 by decide)) (h 2 (show 2 < 3 by decide)) h
theorem zEx {x:List UInt8} (i:Nat) (h:Holds B Γ w) (hi:Γ[i]? = some (stars (L.map vX))) (hc:Cov L s x):RdB w s x∧x.length = s.n∧s.n ≤ s.c∧∀ a,s.a = some a→a.spot = none:=by
 rcases hc with ⟨rfl,rfl⟩ | ⟨p,hp,n,c,h1,h2,rfl,rfl⟩
 ·exact ⟨RdC.none',rfl,Nat.le_refl _,fun a ha=>by cases ha⟩
 ·have h3:RdB w p.1 p.2:=zOw (f:=vX) i h hi hp rfl
  obtain ⟨l1,l2,rfl⟩:=List.append_of_mem hp
  have h4:=h.pick i hi
  rw [List.map_append,List.map_cons] at h4
  have h5:=(zDB.1 h4).tail
  have h6:Holds B (vX p::stars (l2.map vX)::Γ.eraseIdx i) w:=zDL.1 h5
  have h7:=Bytes.len h6
  have h8:=h6.zAm.2.2.1
  exact ⟨zKq h3 h1,by rw [List.length_take]; show min n p.2.length = n; omega,h2,h8⟩
theorem Cov.grow {x:List UInt8} {p:Sl×List UInt8} (h:Cov L s x):Cov (p::L) s x:=by
 rcases h with h | ⟨q,hq,h⟩
 ·exact .inl h
 ·exact .inr ⟨q,List.mem_cons_of_mem _ hq,h⟩
theorem Cov.here {x:List UInt8} (hn:x.length = s.n) (hc:s.n ≤ s.c):Cov ((s,x)::L) s x :=
 .inr ⟨(s,x),List.mem_cons_self,s.n,s.c,Nat.le_refl _,hc,rfl,by show x = x.take s.n; rw [← hn,List.take_length]⟩
theorem zBC:∀ {fs:RFs},(∀ p ∈ fs,p.1 ≠ n)→zO n (xH fs) = none
 | [],_=>rfl
 | p::fs,hb=>by
  show (if n = p.1 then _ else _) = none
  rw [if_neg (fun e=>hb p List.mem_cons_self e.symm)]
  exact zBC fun q hq=>hb q (List.mem_cons_of_mem _ hq)
theorem zC7 {x:RF} {l1 l2:RFs} (he:fs = l1++(n,x)::l2) (hb:∀ p ∈ l1,p.1 ≠ n):zO n (xH fs) = some x.f:=by
 subst he
 induction l1 with
 | nil=>exact if_pos rfl
 | cons p l1 ih=>
  show (if n = p.1 then _ else _) = _
  rw [if_neg (fun e=>hb p List.mem_cons_self e.symm)]
  exact ih fun q hq=>hb q (List.mem_cons_of_mem _ hq)
theorem zN6 {room:Int} {k:Option Addr→K} (h:Holds B Γ w) (hk:∀ m w,Holds B (blk m (.cells (mA (⟨room,-1,false⟩:DkA) (⟨none,0,0⟩:Sl)) zK (0,0))::SlC zD 3 (⟨none,0,0⟩:Sl) (List.flatMap rfF ([]:RFs))::stars (List.map vX ([]:zDs))::Γ) w→k (some ⟨m,0,none⟩) w):zCU.call room k w:=by
 refine zNy _ _ _ ?_
 unfold zCU
 refine xE h ?_
 clear h
 intro m w h
 try simp only [zR,Nat.zero_add,Nat.reduceAdd]
 replace h:=(h.zA6).zAv zD 3
 replace h:=P1 h
 replace h:=P1 h
 replace h:=P2 h
 try simp only [N1,N2,N3,N4,N5,N6,N7] at h
 exact hk m w h
theorem zLF {c:Int} {k:K} (h:Holds B (blk m (.cells (mA a s) zK (0,0))::SlC zD 3 s (List.flatMap rfF fs)::stars (List.map vX L)::Γ) w) (hk:∀ w,Holds B (blk m (.cells (mA { a with left:=if -1 > c then -1 else c } s) zK (0,0))::SlC zD 3 s (List.flatMap rfF fs)::stars (List.map vX L)::Γ) w→k w):uJ.call (some ⟨m,0,none⟩) c k w:=by
 refine zGW _ _ _ _ ?_
 unfold uJ
 refine zAZ rfl ?_
 try simp only [zR,Nat.zero_add,Nat.reduceAdd]
 first | refine S0 h rfl ?_ rfl ?_ | refine S1 h rfl ?_ rfl ?_ | refine S2 h rfl ?_ rfl ?_ | refine S3 h rfl ?_ rfl ?_ | refine S4 h rfl ?_ rfl ?_ | refine S5 h rfl ?_ rfl ?_ | refine S6 h rfl ?_ rfl ?_ | refine S7 h rfl ?_ rfl ?_ | refine S8 h rfl ?_ rfl ?_
 ·first | exact Nat.lt_of_ble_eq_true rfl | (simp; done) | (simp; omega)
 clear h
 intro w h
 try simp only [N1,N2,N3,N4,N5,N6,N7] at h
 refine yJ (fun hc=>?_) (fun hc=>?_)
 ·simp only [decide_eq_true_eq] at hc
  first | refine S0 h rfl ?_ rfl ?_ | refine S1 h rfl ?_ rfl ?_ | refine S2 h rfl ?_ rfl ?_ | refine S3 h rfl ?_ rfl ?_ | refine S4 h rfl ?_ rfl ?_ | refine S5 h rfl ?_ rfl ?_ | refine S6 h rfl ?_ rfl ?_ | refine S7 h rfl ?_ rfl ?_ | refine S8 h rfl ?_ rfl ?_
  ·first | exact Nat.lt_of_ble_eq_true rfl | (simp; done) | (simp; omega)
  clear h
  intro w h
  try simp only [N1,N2,N3,N4,N5,N6,N7] at h
  refine hk _ ?_
  have e:(if -1 > c then -1 else c) = -1:=by split <;> omega
  rw [e]
  exact h
 ·simp only [decide_eq_false_iff_not] at hc
  refine hk _ ?_
  rw [if_neg (by omega)]
  exact h
theorem zCG {k:Bool→K} (ha:okA a) (h:Holds B (blk m (.cells (mA a s) zK (0,0))::SlC zD 3 s (List.flatMap rfF fs)::stars (List.map vX L)::Γ) w) (hk:∀ w,Holds B (blk m (.cells (mA (chg a).1 s) zK (0,0))::SlC zD 3 s (List.flatMap rfF fs)::stars (List.map vX L)::Γ) w→k (decide ((chg a).2 = 0)) w):qz.call (some ⟨m,0,none⟩) k w:=by
 obtain ⟨ha1,ha2⟩:=ha
 refine zH5 _ _ _ ?_
 unfold qz
 refine zAZ rfl ?_
 try simp only [zR,Nat.zero_add,Nat.reduceAdd]
 refine xQ (x:=a.left) h rfl (by first | with_reducible exact M0 | with_reducible exact M1 | with_reducible exact M2 | with_reducible exact M3 | with_reducible exact M4 | with_reducible exact M5 | with_reducible exact M6 | with_reducible exact M7 | with_reducible exact M8 | with_reducible exact M9 | with_reducible exact M10 | with_reducible exact M11 | with_reducible exact M12) ?_ ?_
 ·exact rfl
 refine yJ (fun hc=>?_) (fun hc=>?_)
 ·simp only [decide_eq_true_eq] at hc
  first | refine S0 h rfl ?_ rfl ?_ | refine S1 h rfl ?_ rfl ?_ | refine S2 h rfl ?_ rfl ?_ | refine S3 h rfl ?_ rfl ?_ | refine S4 h rfl ?_ rfl ?_ | refine S5 h rfl ?_ rfl ?_ | refine S6 h rfl ?_ rfl ?_ | refine S7 h rfl ?_ rfl ?_ | refine S8 h rfl ?_ rfl ?_
  ·first | exact Nat.lt_of_ble_eq_true rfl | (simp; done) | (simp; omega)
  clear h
  intro w h
  try simp only [N1,N2,N3,N4,N5,N6,N7] at h
  have e:chg a = ({ a with down:=true },3):=by unfold chg; rw [if_pos hc]
  rw [e] at hk
  exact hk _ h
 ·simp only [decide_eq_false_iff_not] at hc
  refine xQ (x:=a.left) h rfl (by first | with_reducible exact M0 | with_reducible exact M1 | with_reducible exact M2 | with_reducible exact M3 | with_reducible exact M4 | with_reducible exact M5 | with_reducible exact M6 | with_reducible exact M7 | with_reducible exact M8 | with_reducible exact M9 | with_reducible exact M10 | with_reducible exact M11 | with_reducible exact M12) ?_ ?_
  ·exact rfl
  refine yJ (fun hc2=>?_) (fun hc2=>?_)
  ·simp only [decide_eq_true_eq] at hc2
   refine xQ (x:=a.left) h rfl (by first | with_reducible exact M0 | with_reducible exact M1 | with_reducible exact M2 | with_reducible exact M3 | with_reducible exact M4 | with_reducible exact M5 | with_reducible exact M6 | with_reducible exact M7 | with_reducible exact M8 | with_reducible exact M9 | with_reducible exact M10 | with_reducible exact M11 | with_reducible exact M12) ?_ ?_
   ·exact rfl
   refine xq (by omega) (by omega) ?_
   first | refine S0 h rfl ?_ rfl ?_ | refine S1 h rfl ?_ rfl ?_ | refine S2 h rfl ?_ rfl ?_ | refine S3 h rfl ?_ rfl ?_ | refine S4 h rfl ?_ rfl ?_ | refine S5 h rfl ?_ rfl ?_ | refine S6 h rfl ?_ rfl ?_ | refine S7 h rfl ?_ rfl ?_ | refine S8 h rfl ?_ rfl ?_
   ·first | exact Nat.lt_of_ble_eq_true rfl | (simp; done) | (simp; omega)
   clear h
   intro w h
   try simp only [N1,N2,N3,N4,N5,N6,N7] at h
   unfold qz.s1
   have e:chg a = ({ a with left:=a.left - 1 },0):=by unfold chg; rw [if_neg hc,if_pos hc2]
   rw [e] at hk
   exact hk _ h
  ·simp only [decide_eq_false_iff_not] at hc2
   unfold qz.s1
   have e:chg a = (a,0):=by unfold chg; rw [if_neg hc,if_neg hc2]
   rw [e] at hk
   exact hk _ h
theorem zCo {k:Int→K} (hl:fs.length ≤ 1000) (h:Holds B (blk m (.cells (mA a s) zK (0,0))::SlC zD 3 s (List.flatMap rfF fs)::stars (List.map vX L)::Γ) w) (hno:(∀ p ∈ fs,p.1 ≠ n)→k (-1) w)
  (hyes:∀ l1 x l2,fs = l1++(n,x)::l2→(∀ p ∈ l1,p.1 ≠ n)→k (l1.length:Int) w):xX.call (some ⟨m,0,none⟩) (bs n) k w:=by
 have hn:=zPe h
 refine zIy _ _ _ _ ?_
 unfold xX
 refine yM.of (fun t w1=>∃ j:Nat,t = (j:Int)∧j ≤ fs.length∧(∀ p ∈ fs.take j,p.1 ≠ n)∧w1 = w) (fun t _=>((s.n:Int) - t).toNat) ⟨0,rfl,by omega,by simp,rfl⟩ ?_
 rintro t w1 ⟨j,rfl,hj,hb,rfl⟩
 unfold xX.b1
 refine zAZ rfl ?_
 try simp only [zR,Nat.zero_add,Nat.reduceAdd]
 refine xQ (x:=s) h rfl (by first | with_reducible exact M0 | with_reducible exact M1 | with_reducible exact M2 | with_reducible exact M3 | with_reducible exact M4 | with_reducible exact M5 | with_reducible exact M6 | with_reducible exact M7 | with_reducible exact M8 | with_reducible exact M9 | with_reducible exact M10 | with_reducible exact M11 | with_reducible exact M12) ?_ ?_
 ·exact rfl
 refine yJ (fun hlt=>?_) (fun hge=>?_)
 ·simp only [decide_eq_true_eq] at hlt
  have hjl:j < fs.length:=by omega
  have hx:fs[j]? = some fs[j]:=List.getElem?_eq_getElem hjl
  generalize hxe:fs[j] = x at hx
  refine xQ (x:=s) h rfl (by first | with_reducible exact M0 | with_reducible exact M1 | with_reducible exact M2 | with_reducible exact M3 | with_reducible exact M4 | with_reducible exact M5 | with_reducible exact M6 | with_reducible exact M7 | with_reducible exact M8 | with_reducible exact M9 | with_reducible exact M10 | with_reducible exact M11 | with_reducible exact M12) ?_ ?_
  ·exact rfl
  refine zBv (h.rdC (by first | with_reducible exact M0 | with_reducible exact M1 | with_reducible exact M2 | with_reducible exact M3 | with_reducible exact M4 | with_reducible exact M5 | with_reducible exact M6 | with_reducible exact M7 | with_reducible exact M8 | with_reducible exact M9 | with_reducible exact M10 | with_reducible exact M11 | with_reducible exact M12)) hx fun t h0 h1 h2 h3=>?_
  refine zCb (x:=bs x.1) h0 ?_
  rw [uT,uT]
  refine yJ (fun he=>?_) (fun he=>?_)
  ·have he':x.1 = n:=by simpa using he
   have h4:fs = fs.take j++x::fs.drop (j + 1):=by
    rw [← hxe,← List.drop_eq_getElem_cons hjl,List.take_append_drop]
   have h5:=hyes (fs.take j) x.2 (fs.drop (j + 1)) (by rw [← he']; exact h4) hb
   have h6:(fs.take j).length = j:=by rw [List.length_take]; omega
   rw [h6] at h5
   exact h5
  ·have he':x.1 ≠ n:=by simpa using he
   refine xq (by omega) (by omega) ?_
   refine ⟨⟨j + 1,by omega,by omega,fun p hp=>?_,rfl⟩,by omega⟩
   rw [List.take_succ_eq_append_getElem hjl,hxe] at hp
   rcases List.mem_append.1 hp with hp | hp
   ·exact hb p hp
   ·simp only [List.mem_singleton] at hp
    subst hp
    exact he'
 ·simp only [decide_eq_false_iff_not] at hge
  have:j = fs.length:=by omega
  subst this
  rw [List.take_length] at hb
  exact hno hb
theorem zBo {k:Int→Int→K} (hl:fs.length ≤ 1000) (h:Holds B (blk m (.cells (mA a s) zK (0,0))::SlC zD 3 s (List.flatMap rfF fs)::stars (List.map vX L)::Γ) w) (hd:a.down = true→k (-1) 3 w) (hno:a.down = false→(∀ p ∈ fs,p.1 ≠ n)→k (-1) 60 w)
  (hyes:a.down = false→∀ l1 x l2,fs = l1++(n,x)::l2→(∀ p ∈ l1,p.1 ≠ n)→k (l1.length:Int) 0 w):uF.call (some ⟨m,0,none⟩) (bs n) k w:=by
 refine zHA _ _ _ _ ?_
 unfold uF
 refine zAZ rfl ?_
 try simp only [zR,Nat.zero_add,Nat.reduceAdd]
 refine xQ (x:=a.down) h rfl (by first | with_reducible exact M0 | with_reducible exact M1 | with_reducible exact M2 | with_reducible exact M3 | with_reducible exact M4 | with_reducible exact M5 | with_reducible exact M6 | with_reducible exact M7 | with_reducible exact M8 | with_reducible exact M9 | with_reducible exact M10 | with_reducible exact M11 | with_reducible exact M12) ?_ ?_
 ·exact rfl
 refine yJ (fun hc=>hd hc) (fun hc=>?_)
 refine zCo hl h (fun hb=>?_) (fun l1 x l2 he hb=>?_)
 ·exact qO rfl (hno hc hb)
 ·refine yH (by simp) (hyes hc l1 x l2 he hb)
theorem zLx {k:Int→K} (hl:fs.length ≤ 1000) (hu:yc (xH fs) ≤ 100000000) (hc:zEw L fs) (h:Holds B (blk m (.cells (mA a s) zK (0,0))::SlC zD 3 s (List.flatMap rfF fs)::stars (List.map vX L)::Γ) w) (hk:k (yc (xH fs):Int) w):xw.call (some ⟨m,0,none⟩) k w:=by
 have hn:=zPe h
 refine zHC _ _ _ ?_
 unfold xw
 refine yM.of (fun t w1=>∃ j:Nat,t.2 = (j:Int)∧j ≤ fs.length∧t.1 = (yc (xH (fs.take j)):Int)∧w1 = w) (fun t _=>((s.n:Int) - t.2).toNat) ⟨0,rfl,by omega,rfl,rfl⟩ ?_
 rintro ⟨t1,t2⟩ w1 ⟨j,h1,hj,h2,rfl⟩
 simp only at h1 h2
 subst h1; subst h2
 unfold xw.b1
 refine zAZ rfl ?_
 try simp only [zR,Nat.zero_add,Nat.reduceAdd]
 refine xQ (x:=s) h rfl (by first | with_reducible exact M0 | with_reducible exact M1 | with_reducible exact M2 | with_reducible exact M3 | with_reducible exact M4 | with_reducible exact M5 | with_reducible exact M6 | with_reducible exact M7 | with_reducible exact M8 | with_reducible exact M9 | with_reducible exact M10 | with_reducible exact M11 | with_reducible exact M12) ?_ ?_
 ·exact rfl
 refine yJ (fun hlt=>?_) (fun hge=>?_)
 ·simp only [decide_eq_true_eq] at hlt
  have hjl:j < fs.length:=by omega
  have hx:fs[j]? = some fs[j]:=List.getElem?_eq_getElem hjl
  generalize hxe:fs[j] = x at hx
  refine xQ (x:=s) h rfl (by first | with_reducible exact M0 | with_reducible exact M1 | with_reducible exact M2 | with_reducible exact M3 | with_reducible exact M4 | with_reducible exact M5 | with_reducible exact M6 | with_reducible exact M7 | with_reducible exact M8 | with_reducible exact M9 | with_reducible exact M10 | with_reducible exact M11 | with_reducible exact M12) ?_ ?_
  ·exact rfl
  refine zBv (h.rdC (by first | with_reducible exact M0 | with_reducible exact M1 | with_reducible exact M2 | with_reducible exact M3 | with_reducible exact M4 | with_reducible exact M5 | with_reducible exact M6 | with_reducible exact M7 | with_reducible exact M8 | with_reducible exact M9 | with_reducible exact M10 | with_reducible exact M11 | with_reducible exact M12)) hx fun t h0 h1 h2 h3=>?_
  refine zCb (x:=x.2.s) h1 ?_
  obtain ⟨g1,g2,_⟩:=zEx 2 h at2 (hc x (List.mem_of_getElem? hx))
  have h4:fs = fs.take j++x::fs.drop (j + 1):=by
   rw [← hxe,← List.drop_eq_getElem_cons hjl,List.take_append_drop]
  have h5:yc (xH (fs.take (j + 1))) = yc (xH (fs.take j)) + x.2.f.data.length:=by
   rw [List.take_succ_eq_append_getElem hjl,hxe,xH,List.map_append,zAW]
   simp [yc]
  have h6:yc (xH (fs.take (j + 1))) ≤ yc (xH fs):=by
   conv=>rhs; rw [← List.take_append_drop (j + 1) fs]
   rw [xH,xH,List.map_append,zAW]
   omega
  refine xq (by omega) (by omega) ?_
  refine xq (by omega) (by omega) ?_
  exact ⟨⟨j + 1,by simp,by omega,by omega,rfl⟩,by omega⟩
 ·simp only [decide_eq_false_iff_not] at hge
  have:j = fs.length:=by omega
  subst this
  rw [List.take_length]
  exact hk
theorem zEA {k:Sl→Int→K} (hl:fs.length ≤ 1000) (hu:yc (xH fs) ≤ 100000000) (hc:zEw L fs) (h:Holds B (blk m (.cells (mA a s) zK (0,0))::SlC zD 3 s (List.flatMap rfF fs)::stars (List.map vX L)::Γ) w)
  (hk:∀ s' w,Holds B (Bytes zF s' ((⟨a,xH fs⟩:zC).read n).1::(blk m (.cells (mA a s) zK (0,0))::SlC zD 3 s (List.flatMap rfF fs)::stars (List.map vX L)::Γ)) w→k s' ((⟨a,xH fs⟩:zC).read n).2 w):uw.call (some ⟨m,0,none⟩) (bs n) k w:=by
 have hn:=zPe h
 refine zG8 _ _ _ _ ?_
 unfold uw
 have hd0:a.down = true→(⟨a,xH fs⟩:zC).read n = ([],3):=fun hd=>by unfold zC.read; rw [if_pos hd]
 refine zBo hl h (fun hd=>?_) (fun hd hb=>?_) (fun hd l1 x l2 he hb=>?_)
 ·refine qO rfl ?_
  rw [hd0 hd] at hk
  refine xE h ?_
  clear h
  intro t16 w h
  try simp only [zR,Nat.zero_add,Nat.reduceAdd]
  exact hk _ _ (vL rfl rfl h)
 ·refine qO rfl ?_
  have e:(⟨a,xH fs⟩:zC).read n = ([],60):=by
   unfold zC.read
   rw [if_neg (by rw [hd]; decide),zBC hb]
  rw [e] at hk
  refine xE h ?_
  clear h
  intro t16 w h
  try simp only [zR,Nat.zero_add,Nat.reduceAdd]
  exact hk _ _ (vL rfl rfl h)
 ·refine yH rfl ?_
  have e:(⟨a,xH fs⟩:zC).read n = (x.f.data,0):=by
   unfold zC.read
   rw [if_neg (by rw [hd]; decide),zC7 he hb]
  rw [e] at hk
  have hx:fs[l1.length]? = some (n,x):=by rw [he]; simp
  have hxm:(n,x) ∈ fs:=List.mem_of_getElem? hx
  have hxu:x.f.data.length ≤ yc (xH fs):=zEQ (p:=(n,x.f)) (List.mem_map_of_mem (f:=fun p:List UInt8×RF=>(p.1,p.2.f)) hxm)
  refine xE h ?_
  clear h
  intro t18 w h
  try simp only [zR,Nat.zero_add,Nat.reduceAdd]
  refine zAZ rfl ?_
  try simp only [zR,Nat.zero_add,Nat.reduceAdd]
  refine xQ (x:=s) h rfl (by first | with_reducible exact M0 | with_reducible exact M1 | with_reducible exact M2 | with_reducible exact M3 | with_reducible exact M4 | with_reducible exact M5 | with_reducible exact M6 | with_reducible exact M7 | with_reducible exact M8 | with_reducible exact M9 | with_reducible exact M10 | with_reducible exact M11 | with_reducible exact M12) ?_ ?_
  ·exact rfl
  refine zBv (h.rdC (by first | with_reducible exact M0 | with_reducible exact M1 | with_reducible exact M2 | with_reducible exact M3 | with_reducible exact M4 | with_reducible exact M5 | with_reducible exact M6 | with_reducible exact M7 | with_reducible exact M8 | with_reducible exact M9 | with_reducible exact M10 | with_reducible exact M11 | with_reducible exact M12)) hx fun t h0 h1 h2 h3=>?_
  refine zCb (x:=x.s) h1 ?_
  obtain ⟨g1,g2,_⟩:=zEx 3 h at3 (hc _ hxm)
  have g2':x.f.data.length = x.s.n:=g2
  refine zA7 (vs:=[]) (h.imp (zA0 rfl rfl)) (by kernel_rfl) (by kernel_rfl) (by':=1) (by kernel_rfl) zBh rfl g1 (zCX _) (by simp only; omega) (by decide) fun e2 w h he2 _=>?_
  simp only [List.nil_append] at h
  exact hk _ _ h
end
end
section
open Go Go.Sep
def zA5 (y:List UInt8×RF):RFs→RFs
 | []=>[y]
 | p::l=>if y.1 < p.1 then y::p::l else p::zA5 y l
section
variable {B w:World} {Γ:List zB} {m:Nat} {a:DkA} {s:Sl} {fs:RFs} {L:zDs} {n:List UInt8}
theorem zN7 {T:Nat} {e:Sl} {o:RFs} {x:List UInt8×RF} {k:Sl→K} (hT:sliceT Tryz.prog T zD 3 = true) (hU:zMJ Tryz.prog T = true) (ho:o.length ≤ 10000) (h:Holds B (SlC zD 3 e (o.flatMap rfF)::Γ) w)
  (hk:∀ e' w,Holds B (SlC zD 3 e' ((o++[x]).flatMap rfF)::Γ) w→k e' w) :
  Bld #[(.string ⟨#[]⟩),(Sl.val ⟨none,0,0⟩),(.int .i64 0)] (fun i=>some (i * 3,3)) [(0,(.agg (rfA x)))] (fun ct=>
   New zD ct fun t=>Do Tryz.prog (Builtin.append_ #[T,T] T #[(Sl.val e),(Sl.val (Sl.mk (some t) 1 1))]) Sl.val k) w:=by
 have hn:o.length = e.n:=by
  have:=h.zAm.1
  rw [yu rfF 3 zDr] at this
  omega
 refine zQO rfl rfl ?_
 refine xE h ?_
 clear h
 intro t w h
 try simp only [zR,Nat.zero_add,Nat.reduceAdd]
 have hx:=RdC.zD2 (n:=1) (esz:=3) h List.mem_cons_self (vs:=rfF x) rfl rfl 1
 refine zA7 (h.pick 1 at1) hT hU (by':=48) (by kernel_rfl) zBi rfl hx (fun v hv=>zR5 [x] v (by simpa using hv)) (by simp only; omega) (by decide) fun e' w h _ _=>?_
 try simp only [N1,N2,N3,N4,N5,N6,N7] at h
 have e1:o.flatMap rfF++rfF x = (o++[x]).flatMap rfF:=by simp
 rw [e1] at h
 exact hk _ _ (h.del 1 at1)
abbrev zC8 (n:List UInt8) (p:List UInt8×RF):Bool:=!(p.1 == n)
theorem zEB {k:K} (hl:fs.length ≤ 1000) (h:Holds B (blk m (.cells (mA a s) zK (0,0))::SlC zD 3 s (List.flatMap rfF fs)::stars (List.map vX L)::Γ) w) (hk:∀ s' w,Holds B (blk m (.cells (mA a s') zK (0,0))::SlC zD 3 s' (List.flatMap rfF (fs.filter (zC8 n)))::stars (List.map vX L)::Γ) w→k w):qG.call (some ⟨m,0,none⟩) (bs n) k w:=by
 have hn:=zPe h
 refine zHB _ _ _ _ ?_
 unfold qG
 refine xE h ?_
 clear h
 intro t6 w h
 try simp only [zR,Nat.zero_add,Nat.reduceAdd]
 refine yM.of (fun t w1=>∃ j:Nat,t.2 = (j:Int)∧j ≤ fs.length∧Holds B (SlC zD 3 t.1 (((fs.take j).filter (zC8 n)).flatMap rfF)::(blk m (.cells (mA a s) zK (0,0))::SlC zD 3 s (List.flatMap rfF fs)::stars (List.map vX L)::Γ)) w1) (fun t _=>((s.n:Int) - t.2).toNat) ⟨0,rfl,by omega,h.imp (zA0 rfl rfl)⟩ ?_
 clear h
 rintro ⟨e,t2⟩ w ⟨j,h2,hj,h⟩
 simp only at h2 h
 subst h2
 unfold qG.b1
 refine zAZ rfl ?_
 try simp only [zR,Nat.zero_add,Nat.reduceAdd]
 refine xQ (x:=s) h rfl (by first | with_reducible exact M0 | with_reducible exact M1 | with_reducible exact M2 | with_reducible exact M3 | with_reducible exact M4 | with_reducible exact M5 | with_reducible exact M6 | with_reducible exact M7 | with_reducible exact M8 | with_reducible exact M9 | with_reducible exact M10 | with_reducible exact M11 | with_reducible exact M12) ?_ ?_
 ·exact rfl
 refine yJ (fun hlt=>?_) (fun hge=>?_)
 ·simp only [decide_eq_true_eq] at hlt
  have hjl:j < fs.length:=by omega
  have hx:fs[j]? = some fs[j]:=List.getElem?_eq_getElem hjl
  have hte:(fs.take (j + 1)).filter (zC8 n) = (fs.take j).filter (zC8 n)++[fs[j]].filter (zC8 n):=by
   rw [List.take_succ_eq_append_getElem hjl,List.filter_append]
  generalize fs[j] = x at hx hte
  have htl:((fs.take j).filter (zC8 n)).length ≤ 10000:=by
   have h1:=List.length_filter_le (zC8 n) (fs.take j)
   have h2:=List.length_take_le j fs
   omega
  refine xQ (x:=s) h rfl (by first | with_reducible exact M0 | with_reducible exact M1 | with_reducible exact M2 | with_reducible exact M3 | with_reducible exact M4 | with_reducible exact M5 | with_reducible exact M6 | with_reducible exact M7 | with_reducible exact M8 | with_reducible exact M9 | with_reducible exact M10 | with_reducible exact M11 | with_reducible exact M12) ?_ ?_
  ·exact rfl
  refine zBv (h.rdC (by first | with_reducible exact M0 | with_reducible exact M1 | with_reducible exact M2 | with_reducible exact M3 | with_reducible exact M4 | with_reducible exact M5 | with_reducible exact M6 | with_reducible exact M7 | with_reducible exact M8 | with_reducible exact M9 | with_reducible exact M10 | with_reducible exact M11 | with_reducible exact M12)) hx fun t h0 h1 h2 h3=>?_
  refine zCb (x:=bs x.1) h0 ?_
  rw [uT,uT]
  refine yJ (fun he=>?_) (fun he=>?_)
  ·have hte2:[x].filter (zC8 n) = [x]:=by simp only [List.filter_cons,zC8,he,if_true,List.filter_nil]
   refine xQ (x:=s) h rfl (by first | with_reducible exact M0 | with_reducible exact M1 | with_reducible exact M2 | with_reducible exact M3 | with_reducible exact M4 | with_reducible exact M5 | with_reducible exact M6 | with_reducible exact M7 | with_reducible exact M8 | with_reducible exact M9 | with_reducible exact M10 | with_reducible exact M11 | with_reducible exact M12) ?_ ?_
   ·exact rfl
   refine zBv (h.rdC (by first | with_reducible exact M0 | with_reducible exact M1 | with_reducible exact M2 | with_reducible exact M3 | with_reducible exact M4 | with_reducible exact M5 | with_reducible exact M6 | with_reducible exact M7 | with_reducible exact M8 | with_reducible exact M9 | with_reducible exact M10 | with_reducible exact M11 | with_reducible exact M12)) hx fun t h0 h1 h2 h3=>?_
   refine zCe (cs:=rfA x) rfl h3 ?_
   refine zN7 (by kernel_rfl) (by kernel_rfl) htl h fun e' w h=>?_
   unfold qG.s2
   refine xq (by omega) (by omega) ?_
   exact ⟨⟨j + 1,by simp,by omega,by rw [hte,hte2]; exact h⟩,by omega⟩
  ·have hte2:[x].filter (zC8 n) = []:=by simp only [List.filter_cons,zC8,he,List.filter_nil]; rfl
   unfold qG.s2
   refine xq (by omega) (by omega) ?_
   exact ⟨⟨j + 1,by simp,by omega,by rw [hte,hte2,List.append_nil]; exact h⟩,by omega⟩
 ·simp only [decide_eq_false_iff_not] at hge
  have:j = fs.length:=by omega
  subst this
  rw [List.take_length] at h
  first | refine S0 h rfl ?_ rfl ?_ | refine S1 h rfl ?_ rfl ?_ | refine S2 h rfl ?_ rfl ?_ | refine S3 h rfl ?_ rfl ?_ | refine S4 h rfl ?_ rfl ?_ | refine S5 h rfl ?_ rfl ?_ | refine S6 h rfl ?_ rfl ?_ | refine S7 h rfl ?_ rfl ?_ | refine S8 h rfl ?_ rfl ?_
  ·first | exact Nat.lt_of_ble_eq_true rfl | (simp; done) | (simp; omega)
  clear h
  intro w h
  try simp only [N1,N2,N3,N4,N5,N6,N7] at h
  replace h:=P3 h
  replace h:=P1 h
  replace h:=P2 h
  replace h:=D3 h
  try simp only [N1,N2,N3,N4,N5,N6,N7] at h
  exact hk _ _ h
theorem zSw {y x:List UInt8×RF} {l1 l2:RFs} (h1:zA5 y fs = l1++zA5 y (x::l2)) (h2:¬ y.1 < x.1):zA5 y fs = (l1++[x])++zA5 y l2:=by
 rw [h1,zA5,if_neg h2]; simp
theorem zU5 {y x:List UInt8×RF} {l1 l2:RFs} (h1:zA5 y fs = l1++zA5 y (x::l2)) (h2:y.1 < x.1):zA5 y fs = (l1++[y])++x::l2:=by
 rw [h1,zA5,if_pos h2]; simp
theorem zIC {k:K} {y:List UInt8×RF} (hl:fs.length ≤ 1000) (h:Holds B (blk m (.cells (mA a s) zK (0,0))::SlC zD 3 s (List.flatMap rfF fs)::stars (List.map vX L)::Γ) w) (hk:∀ s' w,Holds B (blk m (.cells (mA a s') zK (0,0))::SlC zD 3 s' (List.flatMap rfF (zA5 y fs))::stars (List.map vX L)::Γ) w→k w):yG.call (some ⟨m,0,none⟩) (rfA y) k w:=by
 have hn:=zPe h
 refine zH6 _ _ _ _ ?_
 unfold yG
 refine xE h ?_
 clear h
 intro f3 w h
 try simp only [zR,Nat.zero_add,Nat.reduceAdd]
 refine xE h ?_
 clear h
 intro t7 w h
 try simp only [zR,Nat.zero_add,Nat.reduceAdd]
 refine yM.of (fun t w1=>∃ (j:Nat) (o:RFs),t.2.2 = (j:Int)∧j ≤ fs.length∧o.length ≤ j + 1∧(t.2.1 = false→o = fs.take j∧zA5 y fs = o++zA5 y (fs.drop j))∧(t.2.1 = true→zA5 y fs = o++fs.drop j) ∧
  Holds B (SlC zD 3 t.1 (o.flatMap rfF)::blk f3 (.cells (rfA y) zD (0,0))::(blk m (.cells (mA a s) zK (0,0))::SlC zD 3 s (List.flatMap rfF fs)::stars (List.map vX L)::Γ)) w1) (fun t _=>((s.n:Int) - t.2.2).toNat) ⟨0,[],rfl,by omega,by simp,(fun _=>⟨rfl,rfl⟩),(fun hf=>by cases hf),h.imp (zA0 rfl rfl)⟩ ?_
 clear h
 rintro ⟨e,dn,t2⟩ w ⟨j,o,h2,hj,hol,hdf,hdt,h⟩
 simp only at h2 h hdf hdt
 subst h2
 unfold yG.b1
 refine zAZ rfl ?_
 try simp only [zR,Nat.zero_add,Nat.reduceAdd]
 refine xQ (x:=s) h rfl (by first | with_reducible exact M0 | with_reducible exact M1 | with_reducible exact M2 | with_reducible exact M3 | with_reducible exact M4 | with_reducible exact M5 | with_reducible exact M6 | with_reducible exact M7 | with_reducible exact M8 | with_reducible exact M9 | with_reducible exact M10 | with_reducible exact M11 | with_reducible exact M12) ?_ ?_
 ·exact rfl
 refine yJ (fun hlt=>?_) (fun hge=>?_)
 ·simp only [decide_eq_true_eq] at hlt
  have hjl:j < fs.length:=by omega
  have hx:fs[j]? = some fs[j]:=List.getElem?_eq_getElem hjl
  have hdr:fs.drop j = fs[j]::fs.drop (j + 1):=List.drop_eq_getElem_cons hjl
  have htk:fs.take (j + 1) = fs.take j++[fs[j]]:=List.take_succ_eq_append_getElem hjl
  generalize fs[j] = x at hx hdr htk
  refine zB8 h ?_
  clear h
  intro w h
  have s2:∀ (e:Sl) (o:RFs) (dn:Bool) (w:World),o.length ≤ j + 1→(dn = false→o++[x] = fs.take (j + 1)∧zA5 y fs = (o++[x])++zA5 y (fs.drop (j + 1)))→(dn = true→zA5 y fs = (o++[x])++fs.drop (j + 1)) →
    Holds B (SlC zD 3 e (o.flatMap rfF)::blk f3 (.cells (rfA y) zD (0,0))::(blk m (.cells (mA a s) zK (0,0))::SlC zD 3 s (List.flatMap rfF fs)::stars (List.map vX L)::Γ)) w →
    yG.s2 k (fun a1 a2 a3 w'=>(∃ (j':Nat) (o:RFs),a3 = (j':Int)∧j' ≤ fs.length∧o.length ≤ j' + 1∧(a2 = false→o = fs.take j'∧zA5 y fs = o++zA5 y (fs.drop j'))∧(a2 = true→zA5 y fs = o++fs.drop j') ∧
     Holds B (SlC zD 3 a1 (o.flatMap rfF)::blk f3 (.cells (rfA y) zD (0,0))::(blk m (.cells (mA a s) zK (0,0))::SlC zD 3 s (List.flatMap rfF fs)::stars (List.map vX L)::Γ)) w')∧((s.n:Int) - a3).toNat < ((s.n:Int) - (j:Int)).toNat) ⟨m,0,none⟩ ⟨f3,0,none⟩ e dn (j:Int) w:=by
   clear h hol hdf hdt
   intro e o dn w hol hdf hdt h
   unfold yG.s2
   try simp only [zR,Nat.zero_add,Nat.reduceAdd]
   refine xQ (x:=s) h rfl (by first | with_reducible exact M0 | with_reducible exact M1 | with_reducible exact M2 | with_reducible exact M3 | with_reducible exact M4 | with_reducible exact M5 | with_reducible exact M6 | with_reducible exact M7 | with_reducible exact M8 | with_reducible exact M9 | with_reducible exact M10 | with_reducible exact M11 | with_reducible exact M12) ?_ ?_
   ·exact rfl
   refine zBv (h.rdC (by first | with_reducible exact M0 | with_reducible exact M1 | with_reducible exact M2 | with_reducible exact M3 | with_reducible exact M4 | with_reducible exact M5 | with_reducible exact M6 | with_reducible exact M7 | with_reducible exact M8 | with_reducible exact M9 | with_reducible exact M10 | with_reducible exact M11 | with_reducible exact M12)) hx fun t h0 h1 h2 h3=>?_
   refine zCe (cs:=rfA x) rfl h3 ?_
   refine zN7 (by kernel_rfl) (by kernel_rfl) (by omega) h fun e' w h=>?_
   refine xq (by omega) (by omega) ?_
   exact ⟨⟨j + 1,o++[x],by simp,by omega,by simp; omega,hdf,hdt,h⟩,by omega⟩
  have s3t:y.1 < x.1→dn = false→yG.s3 k (fun a1 a2 a3 w'=>(∃ (j':Nat) (o:RFs),a3 = (j':Int)∧j' ≤ fs.length∧o.length ≤ j' + 1∧(a2 = false→o = fs.take j'∧zA5 y fs = o++zA5 y (fs.drop j'))∧(a2 = true→zA5 y fs = o++fs.drop j') ∧
     Holds B (SlC zD 3 a1 (o.flatMap rfF)::blk f3 (.cells (rfA y) zD (0,0))::(blk m (.cells (mA a s) zK (0,0))::SlC zD 3 s (List.flatMap rfF fs)::stars (List.map vX L)::Γ)) w')∧((s.n:Int) - a3).toNat < ((s.n:Int) - (j:Int)).toNat) ⟨m,0,none⟩ ⟨f3,0,none⟩ e dn (j:Int) true w:=by
   intro hlt2 hdn
   obtain ⟨hd1,hd2⟩:=hdf hdn
   unfold yG.s3
   refine qO rfl ?_
   refine zCe (cs:=rfA y) rfl (zFy (h.zFx (by first | with_reducible exact M0 | with_reducible exact M1 | with_reducible exact M2 | with_reducible exact M3 | with_reducible exact M4 | with_reducible exact M5 | with_reducible exact M6 | with_reducible exact M7 | with_reducible exact M8 | with_reducible exact M9 | with_reducible exact M10 | with_reducible exact M11 | with_reducible exact M12)) (by
     intro i hi
     match i,hi with
     | 0,_=>rfl
     | 1,_=>rfl
     | 2,_=>rfl)) ?_
   refine zN7 (by kernel_rfl) (by kernel_rfl) (by omega) h fun e' w h=>?_
   refine s2 _ _ _ _ (by rw [List.length_append,hd1,List.length_take]; simp; omega) (fun hf=>by cases hf) (fun _=>?_) h
   rw [hdr] at hd2
   rw [zU5 hd2 hlt2]
   simp
  refine yJ (fun hdn=>?_) (fun hdn=>?_)
  ·have hdn':dn = false:=by simpa using hdn
   obtain ⟨hd1,hd2⟩:=hdf hdn'
   refine xQ (x:=s) h rfl (by first | with_reducible exact M0 | with_reducible exact M1 | with_reducible exact M2 | with_reducible exact M3 | with_reducible exact M4 | with_reducible exact M5 | with_reducible exact M6 | with_reducible exact M7 | with_reducible exact M8 | with_reducible exact M9 | with_reducible exact M10 | with_reducible exact M11 | with_reducible exact M12) ?_ ?_
   ·exact rfl
   refine zBv (h.rdC (by first | with_reducible exact M0 | with_reducible exact M1 | with_reducible exact M2 | with_reducible exact M3 | with_reducible exact M4 | with_reducible exact M5 | with_reducible exact M6 | with_reducible exact M7 | with_reducible exact M8 | with_reducible exact M9 | with_reducible exact M10 | with_reducible exact M11 | with_reducible exact M12)) hx fun t h0 h1 h2 h3=>?_
   refine zCb (x:=bs x.1) h0 ?_
   refine xQ (x:=(bs y.1)) h rfl (by first | with_reducible exact M0 | with_reducible exact M1 | with_reducible exact M2 | with_reducible exact M3 | with_reducible exact M4 | with_reducible exact M5 | with_reducible exact M6 | with_reducible exact M7 | with_reducible exact M8 | with_reducible exact M9 | with_reducible exact M10 | with_reducible exact M11 | with_reducible exact M12) ?_ ?_
   ·exact rfl
   rw [uT,uT,zUQ]
   by_cases hc:y.1 < x.1
   ·rw [decide_eq_true hc]
    exact s3t hc hdn'
   ·rw [decide_eq_false hc]
    unfold yG.s3
    refine yH rfl ?_
    rw [hdr] at hd2
    exact s2 _ _ _ _ (by omega) (fun _=>⟨by rw [htk,hd1],zSw hd2 hc⟩) (fun hf=>by rw [hdn'] at hf; cases hf) h
  ·have hdn':dn = true:=by simpa using hdn
   unfold yG.s3
   refine yH rfl ?_
   refine s2 _ _ _ _ (by omega) (fun hf=>by rw [hdn'] at hf; cases hf) (fun _=>?_) h
   rw [hdt hdn',hdr]
   simp
 ·simp only [decide_eq_false_iff_not] at hge
  have:j = fs.length:=by omega
  subst this
  refine yJ (fun hdn=>?_) (fun hdn=>?_)
  ·have hdn':dn = false:=by simpa using hdn
   obtain ⟨hd1,hd2⟩:=hdf hdn'
   rw [List.drop_length,zA5] at hd2
   refine zCe (cs:=rfA y) rfl (zFy (h.zFx (by first | with_reducible exact M0 | with_reducible exact M1 | with_reducible exact M2 | with_reducible exact M3 | with_reducible exact M4 | with_reducible exact M5 | with_reducible exact M6 | with_reducible exact M7 | with_reducible exact M8 | with_reducible exact M9 | with_reducible exact M10 | with_reducible exact M11 | with_reducible exact M12)) (by
     intro i hi
     match i,hi with
     | 0,_=>rfl
     | 1,_=>rfl
     | 2,_=>rfl)) ?_
   refine zN7 (by kernel_rfl) (by kernel_rfl) (by omega) h fun e' w h=>?_
   rw [← hd2] at h
   unfold yG.s4
   try simp only [zR,Nat.zero_add,Nat.reduceAdd]
   first | refine S0 h rfl ?_ rfl ?_ | refine S1 h rfl ?_ rfl ?_ | refine S2 h rfl ?_ rfl ?_ | refine S3 h rfl ?_ rfl ?_ | refine S4 h rfl ?_ rfl ?_ | refine S5 h rfl ?_ rfl ?_ | refine S6 h rfl ?_ rfl ?_ | refine S7 h rfl ?_ rfl ?_ | refine S8 h rfl ?_ rfl ?_
   ·first | exact Nat.lt_of_ble_eq_true rfl | (simp; done) | (simp; omega)
   clear h
   intro w h
   try simp only [N1,N2,N3,N4,N5,N6,N7] at h
   replace h:=P4 h
   replace h:=P1 h
   replace h:=P3 h
   replace h:=D3 h
   replace h:=D3 h
   try simp only [N1,N2,N3,N4,N5,N6,N7] at h
   exact hk _ _ h
  ·have hdn':dn = true:=by simpa using hdn
   have hd2:=hdt hdn'
   rw [List.drop_length,List.append_nil] at hd2
   rw [← hd2] at h
   unfold yG.s4
   try simp only [zR,Nat.zero_add,Nat.reduceAdd]
   first | refine S0 h rfl ?_ rfl ?_ | refine S1 h rfl ?_ rfl ?_ | refine S2 h rfl ?_ rfl ?_ | refine S3 h rfl ?_ rfl ?_ | refine S4 h rfl ?_ rfl ?_ | refine S5 h rfl ?_ rfl ?_ | refine S6 h rfl ?_ rfl ?_ | refine S7 h rfl ?_ rfl ?_ | refine S8 h rfl ?_ rfl ?_
   ·first | exact Nat.lt_of_ble_eq_true rfl | (simp; done) | (simp; omega)
   clear h
   intro w h
   try simp only [N1,N2,N3,N4,N5,N6,N7] at h
   replace h:=P4 h
   replace h:=P1 h
   replace h:=P3 h
   replace h:=D3 h
   replace h:=D3 h
   try simp only [N1,N2,N3,N4,N5,N6,N7] at h
   exact hk _ _ h
end
end
section
open Go Go.Sep
def zk (m:Nat) (M:zC):zB:=ex fun s:Sl=>ex fun fs:RFs=>ex fun L:zDs=>stars [pur (xH fs = M.files∧zEw L fs),stars (blk m (.cells (mA M.a s) zK (0,0))::SlC zD 3 s (List.flatMap rfF fs)::stars (List.map vX L)::(List.nil:List zB))]
def zGY (n:List UInt8) (f:vK):Files→Files
 | []=>[(n,f)]
 | p::l=>if n < p.1 then (n,f)::p::l else p::zGY n f l
theorem zHD (n:List UInt8) (y:RF):∀ fs:RFs,xH (zA5 (n,y) fs) = zGY n y.f (xH fs)
 | []=>rfl
 | p::fs=>by
  have ih:=zHD n y fs
  show xH (if n < p.1 then (n,y)::p::fs else p::zA5 (n,y) fs) = if n < p.1 then (n,y.f)::(p.1,p.2.f)::xH fs else (p.1,p.2.f)::zGY n y.f (xH fs)
  split
  ·rfl
  ·rw [← ih]; rfl
def zC.zCH (D:zC) (n m:List UInt8):zC×Int:=if D.a.down = true then (D,3) else match zO n D.files with
 | none=>(D,60)
 | some f=>if named m = false then (D,1) else (⟨(chg D.a).1,if (chg D.a).2 = 0 then zGY m f (vJ m (vJ n D.files)) else D.files⟩,(chg D.a).2)
def zC.zMn (D:zC) (n:List UInt8):Files:=if zO n D.files = none then zGY n ⟨[],0⟩ D.files else D.files
def zC.zCI (D:zC) (n:List UInt8) (x:List UInt8):zC×Int:=if D.a.down = true then (D,3) else if named n = false then (D,1)
 else if (zO n D.files = none∧32 ≤ D.files.length)∨D.a.room - yc D.files < x.length then (D,2)
 else (⟨(chg D.a).1,qR n ⟨((zO n D.files).getD ⟨[],0⟩).data++x,((zO n D.files).getD ⟨[],0⟩).last⟩ (D.zMn n)⟩,(chg D.a).2)
section
variable {B w:World} {Γ:List zB} {m:Nat} {a:DkA} {s:Sl} {fs:RFs} {L:zDs} {n:List UInt8} {M:zC}
theorem zPf {a:DkA} (h:(chg a).2 ≠ 0):(chg a).2 = 3:=by
 unfold chg at *
 split
 ·rfl
 ·rename_i h1
  rw [if_neg h1] at h
  split at h <;> exact absurd rfl h
theorem zk.opens (h:Holds B (zk m M::Γ) w):∃ s fs L,xH fs = M.files∧zEw L fs∧Holds B (blk m (.cells (mA M.a s) zK (0,0))::SlC zD 3 s (List.flatMap rfF fs)::stars (List.map vX L)::Γ) w:=by
 obtain ⟨s,h⟩:=Holds.ex.1 h
 obtain ⟨fs,h⟩:=Holds.ex.1 h
 obtain ⟨L,h⟩:=Holds.ex.1 h
 have h1:=Holds.flat.1 h
 obtain ⟨⟨h2,h3⟩,h4⟩:=Holds.pur.1 h1
 exact ⟨s,fs,L,h2,h3,Holds.flat.1 h4⟩
theorem zk.shuts (ha:a = M.a) (hp:xH fs = M.files) (hc:zEw L fs) (h:Holds B (blk m (.cells (mA a s) zK (0,0))::SlC zD 3 s (List.flatMap rfF fs)::stars (List.map vX L)::Γ) w):Holds B (zk m M::Γ) w:=by
 subst ha
 exact Holds.ex.2 ⟨s,Holds.ex.2 ⟨fs,Holds.ex.2 ⟨L,Holds.flat.2 (Holds.pur.2 ⟨⟨hp,hc⟩,Holds.flat.2 h⟩)⟩⟩⟩
theorem zKH {x:RF} {l1 l2:RFs} (hb:∀ p ∈ l1,p.1 ≠ n) (f':vK) (s':Sl):qR n f' (xH (l1++(n,x)::l2)) = xH (l1++(n,(⟨f',s'⟩:RF))::l2):=by
 induction l1 with
 | nil=>exact if_pos rfl
 | cons p l1 ih=>
  show (if n = p.1 then _ else _) = _
  rw [if_neg (fun e=>hb p List.mem_cons_self e.symm)]
  exact congrArg ((p.1,p.2.f)::·) (ih fun q hq=>hb q (List.mem_cons_of_mem _ hq))
theorem zDt:∀ {fs:RFs},((xH fs).map Prod.fst).Nodup→xH (fs.filter (zC8 n)) = vJ n (xH fs)
 | [],_=>rfl
 | p::fs,hnd=>by
  have hnd2:(p.1::(xH fs).map Prod.fst).Nodup:=hnd
  obtain ⟨h1,h2⟩:=List.nodup_cons.1 hnd2
  by_cases hp:p.1 = n
  ·have e1:(p::fs).filter (zC8 n) = fs.filter (zC8 n):=List.filter_cons_of_neg (by simp [zC8,hp])
   have e2:fs.filter (zC8 n) = fs:=List.filter_eq_self.2 fun q hq=>by
    have:q.1 ≠ n:=fun e=>h1 (by
     rw [hp,← e]
     exact List.mem_map.2 ⟨(q.1,q.2.f),List.mem_map_of_mem (f:=fun p:List UInt8×RF=>(p.1,p.2.f)) hq,rfl⟩)
    simp [zC8,this]
   rw [e1,e2]
   exact (if_pos hp.symm).symm
  ·have e1:(p::fs).filter (zC8 n) = p::fs.filter (zC8 n):=List.filter_cons_of_pos (by simp [zC8,hp])
   rw [e1]
   have ih:=zDt h2
   show (p.1,p.2.f)::xH (fs.filter (zC8 n)) = if n = p.1 then _ else _
   rw [if_neg (fun e=>hp e.symm),ih]
theorem zDV:∀ {fs:Files},(fs.map Prod.fst).Nodup→((vJ n fs).map Prod.fst).Nodup
 | [],h=>h
 | p::fs,h=>by
  have h2:(p.1::fs.map Prod.fst).Nodup:=h
  obtain ⟨h3,h4⟩:=List.nodup_cons.1 h2
  unfold vJ
  split
  ·exact h4
  ·refine List.nodup_cons.2 ⟨fun hm=>?_,zDV h4⟩
   obtain ⟨q,hq,e⟩:=List.mem_map.1 hm
   refine h3 (List.mem_map.2 ⟨q,?_,e⟩)
   clear h h2 h3 h4 hm e
   induction fs with
   | nil=>exact hq
   | cons r fs ih=>
    unfold vJ at hq
    split at hq
    ·exact List.mem_cons_of_mem _ hq
    ·rcases List.mem_cons.1 hq with rfl | hq
     ·exact List.mem_cons_self
     ·exact List.mem_cons_of_mem _ (ih hq)
theorem zFt (P:List UInt8×RF→Bool) (hc:zEw L fs):zEw L (fs.filter P):=fun p hp=>hc p (List.mem_filter.1 hp).1
theorem zPg {y p:List UInt8×RF}:∀ {fs:RFs},p ∈ zA5 y fs→p = y∨p ∈ fs
 | [],h=>by simpa [zA5] using h
 | q::fs,h=>by
  unfold zA5 at h
  split at h
  ·rcases List.mem_cons.1 h with h | h
   ·exact .inl h
   ·exact .inr h
  ·rcases List.mem_cons.1 h with h | h
   ·exact .inr (h ▸ List.mem_cons_self)
   ·rcases zPg h with h | h
    ·exact .inl h
    ·exact .inr (List.mem_cons_of_mem _ h)
theorem zPh {y:List UInt8×RF} (hc:zEw L fs) (hy:Cov L y.2.s y.2.f.data):zEw L (zA5 y fs):=fun p hp=>by
 rcases zPg hp with rfl | hp
 ·exact hy
 ·exact hc p hp
theorem zLG {x x':RF} {l1 l2:RFs} {L':zDs} (hc:zEw L (l1++(n,x)::l2)) (hg:∀ s x,Cov L s x→Cov L' s x) (hy:Cov L' x'.s x'.f.data):zEw L' (l1++(n,x')::l2):=fun p hp=>by
 rcases List.mem_append.1 hp with hp | hp
 ·exact hg _ _ (hc p (List.mem_append_left _ hp))
 ·rcases List.mem_cons.1 hp with rfl | hp
  ·exact hy
  ·exact hg _ _ (hc p (List.mem_append_right _ (List.mem_cons_of_mem _ hp)))
theorem zN8 {x x':RF} {l1 l2:RFs} {o:Nat} {v:Value} {k:K} (h:Holds B (SlC zD 3 s ((l1++(n,x)::l2).flatMap rfF)::Γ) w) (ho:o < 3) (hx:(rfF (n,x)).set o v = rfF (n,x')) (hv:qC v = true)
  (hk:∀ w,Holds B (SlC zD 3 s ((l1++(n,x')::l2).flatMap rfF)::Γ) w→k w):Idx s (l1.length:Int) 3 (fun t=>St (t.add o) v k) w:=by
 have hs:=h.zAm
 have hn:(l1++(n,x)::l2).length = s.n:=by
  have:=hs.1
  rw [yu rfF 3 zDr] at this
  omega
 simp only [List.length_append,List.length_cons] at hn
 cases ha:s.a with
 | none=>have:=hs.2.2.2 ha; omega
 | some b=>
  refine ⟨b,_,ha,by omega,by omega,rfl,?_⟩
  simp only [Int.toNat_natCast]
  rw [zOv]
  refine zUF h ha (by rw [yu rfF 3 zDr,List.length_append,List.length_cons]; omega) hv fun w h=>hk w ?_
  have e:((l1++(n,x)::l2).flatMap rfF).set (l1.length * 3 + o) v = (l1++(n,x')::l2).flatMap rfF:=by
   rw [List.flatMap_append,List.flatMap_append,List.flatMap_cons,List.flatMap_cons]
   have e1:(l1.flatMap rfF).length = l1.length * 3:=yu rfF 3 zDr l1
   rw [List.set_append_right _ _ (by omega),e1,show l1.length * 3 + o - l1.length * 3 = o by omega,List.set_append_left _ _ (by simpa using ho),hx]
  rw [e] at h
  exact h
theorem zMo {t:Sl} {x:List UInt8} (h:Holds B (Bytes zF t x::(blk m (.cells (mA a s) zK (0,0))::SlC zD 3 s (List.flatMap rfF fs)::stars (List.map vX L)::Γ)) w):Holds B (blk m (.cells (mA a s) zK (0,0))::SlC zD 3 s (List.flatMap rfF fs)::stars (List.map vX ((t,x)::L))::Γ) w:=by
 replace h:=P2 h
 replace h:=P2 h
 replace h:=P3 h
 replace h:=P3 h
 try simp only [N1,N2,N3,N4,N5,N6,N7] at h
 have h1:Holds B (stars (vX (t,x)::L.map vX)::_) w:=zDL.2 h
 replace h:=h1
 clear h1
 replace h:=P2 h
 replace h:=P2 h
 try simp only [N1,N2,N3,N4,N5,N6,N7] at h
 exact h
theorem zGj {k:Int→K} (hM:OkD M) (h:Holds B (zk m M::Γ) w) (hk:∀ w,Holds B (zk m (M.sync n).1::Γ) w→k (M.sync n).2 w):jQ.call (some ⟨m,0,none⟩) (bs n) k w:=by
 obtain ⟨s,fs,L,hp,hc,h⟩:=zk.opens h
 have hfl:fs.length = M.files.length:=by rw [← hp]; simp
 have hfew:=hM.few
 have hu:=hM.used
 have hro:=hM.roomN
 refine zG9 _ _ _ _ ?_
 unfold jQ
 refine zBo (by omega) h (fun hd=>?_) (fun hd hb=>?_) (fun hd l1 x l2 he hb=>?_)
 ·refine qO rfl ?_
  have e:M.sync n = (M,3):=by unfold zC.sync; rw [if_pos hd]
  rw [e] at hk
  exact hk _ (zk.shuts rfl hp hc h)
 ·refine qO rfl ?_
  have e:M.sync n = (M,60):=by
   unfold zC.sync
   rw [if_neg (by rw [hd]; decide),← hp,zBC hb]
  rw [e] at hk
  exact hk _ (zk.shuts rfl hp hc h)
 ·refine yH rfl ?_
  have e:M.sync n = (⟨(chg M.a).1,if (chg M.a).2 = 0 then qR n ⟨x.f.data,x.f.data.length⟩ M.files else M.files⟩,(chg M.a).2):=by
   unfold zC.sync
   rw [if_neg (by rw [hd]; decide),← hp,zC7 he hb]
  rw [e] at hk
  refine zCG hM.left h fun w h=>?_
  refine yJ (fun hz=>?_) (fun hz=>?_)
  ·have hz':(chg M.a).2 ≠ 0:=by simpa using hz
   rw [if_neg hz',zPf hz'] at hk
   exact hk _ (zk.shuts rfl hp hc h)
  ·have hz':(chg M.a).2 = 0:=by simpa using hz
   rw [if_pos hz',hz'] at hk
   subst he
   have hx:(l1++(n,x)::l2)[l1.length]? = some (n,x):=by simp
   obtain ⟨g1,g2,_⟩:=zEx 2 h at2 (hc _ (List.mem_of_getElem? hx))
   have g2':x.f.data.length = x.s.n:=g2
   refine zB8 h ?_
   clear h
   intro w h
   refine zAZ rfl ?_
   try simp only [zR,Nat.zero_add,Nat.reduceAdd]
   refine xQ (x:=s) h rfl (by first | with_reducible exact M0 | with_reducible exact M1 | with_reducible exact M2 | with_reducible exact M3 | with_reducible exact M4 | with_reducible exact M5 | with_reducible exact M6 | with_reducible exact M7 | with_reducible exact M8 | with_reducible exact M9 | with_reducible exact M10 | with_reducible exact M11 | with_reducible exact M12) ?_ ?_
   ·exact rfl
   refine xQ (x:=s) h rfl (by first | with_reducible exact M0 | with_reducible exact M1 | with_reducible exact M2 | with_reducible exact M3 | with_reducible exact M4 | with_reducible exact M5 | with_reducible exact M6 | with_reducible exact M7 | with_reducible exact M8 | with_reducible exact M9 | with_reducible exact M10 | with_reducible exact M11 | with_reducible exact M12) ?_ ?_
   ·exact rfl
   refine zBv (h.rdC (by first | with_reducible exact M0 | with_reducible exact M1 | with_reducible exact M2 | with_reducible exact M3 | with_reducible exact M4 | with_reducible exact M5 | with_reducible exact M6 | with_reducible exact M7 | with_reducible exact M8 | with_reducible exact M9 | with_reducible exact M10 | with_reducible exact M11 | with_reducible exact M12)) hx fun t h0 h1 h2 h3=>?_
   refine zCb (x:=x.s) h1 ?_
   replace h:=P2 h
   replace h:=P1 h
   replace h:=P2 h
   try simp only [N1,N2,N3,N4,N5,N6,N7] at h
   refine zN8 (x':=⟨⟨x.f.data,x.f.data.length⟩,x.s⟩) h (by decide) (by show [zAR n,x.s.val,Value.int .i64 (x.s.n:Int)] = _; rw [← g2']) rfl fun w h=>?_
   replace h:=P2 h
   replace h:=P1 h
   replace h:=P2 h
   try simp only [N1,N2,N3,N4,N5,N6,N7] at h
   refine hk _ (zk.shuts rfl ?_ ?_ h)
   ·show _ = qR n _ M.files
    rw [← hp,zKH hb]
   ·exact zLG hc (fun _ _ h=>h) (hc _ (List.mem_of_getElem? hx))
theorem zE9 {k:Int→K} (hM:OkD M) (h:Holds B (zk m M::Γ) w) (hk:∀ w,Holds B (zk m (M.remove n).1::Γ) w→k (M.remove n).2 w):uW.call (some ⟨m,0,none⟩) (bs n) k w:=by
 obtain ⟨s,fs,L,hp,hc,h⟩:=zk.opens h
 have hfl:fs.length = M.files.length:=by rw [← hp]; simp
 have hfew:=hM.few
 refine zFm _ _ _ _ ?_
 unfold uW
 refine zBo (by omega) h (fun hd=>?_) (fun hd hb=>?_) (fun hd l1 x l2 he hb=>?_)
 ·refine qO rfl ?_
  have e:M.remove n = (M,3):=by unfold zC.remove; rw [if_pos hd]
  rw [e] at hk
  exact hk _ (zk.shuts rfl hp hc h)
 ·refine qO rfl ?_
  have e:M.remove n = (M,60):=by
   unfold zC.remove
   rw [if_neg (by rw [hd]; decide),← hp,zBC hb]
  rw [e] at hk
  exact hk _ (zk.shuts rfl hp hc h)
 ·refine yH rfl ?_
  have e:M.remove n = (⟨(chg M.a).1,if (chg M.a).2 = 0 then vJ n M.files else M.files⟩,(chg M.a).2):=by
   unfold zC.remove
   rw [if_neg (by rw [hd]; decide),← hp,zC7 he hb]
  rw [e] at hk
  refine zCG hM.left h fun w h=>?_
  refine yJ (fun hz=>?_) (fun hz=>?_)
  ·have hz':(chg M.a).2 ≠ 0:=by simpa using hz
   rw [if_neg hz',zPf hz'] at hk
   exact hk _ (zk.shuts rfl hp hc h)
  ·have hz':(chg M.a).2 = 0:=by simpa using hz
   rw [if_pos hz',hz'] at hk
   refine zEB (by omega) h fun s' w h=>?_
   refine hk _ (zk.shuts rfl ?_ (zFt _ hc) h)
   show _ = vJ n M.files
   rw [← hp]
   exact zDt (by rw [hp]; exact hM.nodup)
theorem zJo {k:Int→K} {n':List UInt8} (hM:OkD M) (h:Holds B (zk m M::Γ) w) (hk:∀ w,Holds B (zk m (M.zCH n n').1::Γ) w→k (M.zCH n n').2 w):xD.call (some ⟨m,0,none⟩) (bs n) (bs n') k w:=by
 obtain ⟨s,fs,L,hp,hc,h⟩:=zk.opens h
 have hfl:fs.length = M.files.length:=by rw [← hp]; simp
 have hfew:=hM.few
 refine zFo _ _ _ _ _ ?_
 unfold xD
 refine zBo (by omega) h (fun hd=>?_) (fun hd hb=>?_) (fun hd l1 x l2 he hb=>?_)
 ·refine qO rfl ?_
  have e:M.zCH n n' = (M,3):=by unfold zC.zCH; rw [if_pos hd]
  rw [e] at hk
  exact hk _ (zk.shuts rfl hp hc h)
 ·refine qO rfl ?_
  have e:M.zCH n n' = (M,60):=by
   unfold zC.zCH
   rw [if_neg (by rw [hd]; decide),← hp,zBC hb]
  rw [e] at hk
  exact hk _ (zk.shuts rfl hp hc h)
 ·refine yH rfl ?_
  have e:M.zCH n n' = if named n' = false then (M,1) else (⟨(chg M.a).1,if (chg M.a).2 = 0 then zGY n' x.f (vJ n' (vJ n M.files)) else M.files⟩,(chg M.a).2):=by
   unfold zC.zCH
   rw [if_neg (by rw [hd]; decide),← hp,zC7 he hb]
  rw [e] at hk
  have s1:∀ t,t = (!named n')→xD.s1 k (some ⟨m,0,none⟩) (bs n) (bs n') (l1.length:Int) t w:=by
   rintro t rfl
   unfold xD.s1
   refine yJ (fun ht=>?_) (fun ht=>?_)
   ·rw [if_pos (by simpa using ht)] at hk
    exact hk _ (zk.shuts rfl hp hc h)
   ·rw [if_neg (by simp at ht; simp [ht])] at hk
    refine zCG hM.left h fun w h=>?_
    refine yJ (fun hz=>?_) (fun hz=>?_)
    ·have hz':(chg M.a).2 ≠ 0:=by simpa using hz
     rw [if_neg hz',zPf hz'] at hk
     exact hk _ (zk.shuts rfl hp hc h)
    ·have hz':(chg M.a).2 = 0:=by simpa using hz
     rw [if_pos hz',hz'] at hk
     have hx:fs[l1.length]? = some (n,x):=by rw [he]; simp
     refine zAZ rfl ?_
     try simp only [zR,Nat.zero_add,Nat.reduceAdd]
     refine xQ (x:=s) h rfl (by first | with_reducible exact M0 | with_reducible exact M1 | with_reducible exact M2 | with_reducible exact M3 | with_reducible exact M4 | with_reducible exact M5 | with_reducible exact M6 | with_reducible exact M7 | with_reducible exact M8 | with_reducible exact M9 | with_reducible exact M10 | with_reducible exact M11 | with_reducible exact M12) ?_ ?_
     ·exact rfl
     refine zBv (h.rdC (by first | with_reducible exact M0 | with_reducible exact M1 | with_reducible exact M2 | with_reducible exact M3 | with_reducible exact M4 | with_reducible exact M5 | with_reducible exact M6 | with_reducible exact M7 | with_reducible exact M8 | with_reducible exact M9 | with_reducible exact M10 | with_reducible exact M11 | with_reducible exact M12)) hx fun t h0 h1 h2 h3=>?_
     refine zCe (cs:=rfA (n,x)) rfl h3 ?_
     refine xE h ?_
     clear h
     intro f9 w h
     try simp only [zR,Nat.zero_add,Nat.reduceAdd]
     first | refine T0 h rfl ?_ ?_ ?_ ?_ | refine T1 h rfl ?_ ?_ ?_ ?_ | refine T2 h rfl ?_ ?_ ?_ ?_ | refine T3 h rfl ?_ ?_ ?_ ?_ | refine T4 h rfl ?_ ?_ ?_ ?_ | refine T5 h rfl ?_ ?_ ?_ ?_ | refine T6 h rfl ?_ ?_ ?_ ?_ | refine T7 h rfl ?_ ?_ ?_ ?_ | refine T8 h rfl ?_ ?_ ?_ ?_
     ·rfl
     ·rfl
     ·simp [qC]
     clear h
     intro w h
     try simp only [N1,N2,N3,N4,N5,N6,N7] at h
     replace h:=P3 h
     replace h:=P3 h
     replace h:=P3 h
     try simp only [N1,N2,N3,N4,N5,N6,N7] at h
     refine zEB (by omega) h fun s1 w h=>?_
     have hl1:=List.length_filter_le (zC8 n) fs
     refine zEB (by omega) h fun s2 w h=>?_
     have hl2:=List.length_filter_le (zC8 n') (fs.filter (zC8 n))
     first | refine S0 h rfl ?_ rfl ?_ | refine S1 h rfl ?_ rfl ?_ | refine S2 h rfl ?_ rfl ?_ | refine S3 h rfl ?_ rfl ?_ | refine S4 h rfl ?_ rfl ?_ | refine S5 h rfl ?_ rfl ?_ | refine S6 h rfl ?_ rfl ?_ | refine S7 h rfl ?_ rfl ?_ | refine S8 h rfl ?_ rfl ?_
     ·first | exact Nat.lt_of_ble_eq_true rfl | (simp; done) | (simp; omega)
     clear h
     intro w h
     try simp only [N1,N2,N3,N4,N5,N6,N7] at h
     refine zCe (cs:=rfA (n',x)) rfl (zFy (h.zFx (by first | with_reducible exact M0 | with_reducible exact M1 | with_reducible exact M2 | with_reducible exact M3 | with_reducible exact M4 | with_reducible exact M5 | with_reducible exact M6 | with_reducible exact M7 | with_reducible exact M8 | with_reducible exact M9 | with_reducible exact M10 | with_reducible exact M11 | with_reducible exact M12)) (by
      intro i hi
      match i,hi with
      | 0,_=>rfl
      | 1,_=>rfl
      | 2,_=>rfl)) ?_
     refine zIC (by omega) h fun s3 w h=>?_
     replace h:=P2 h
     replace h:=P2 h
     replace h:=P2 h
     replace h:=D3 h
     try simp only [N1,N2,N3,N4,N5,N6,N7] at h
     refine hk _ (zk.shuts rfl ?_ (zPh (y:=(n',x)) (zFt _ (zFt _ hc)) (hc (n,x) (List.mem_of_getElem? hx))) h)
     show _ = zGY n' x.f (vJ n' (vJ n M.files))
     rw [zHD]
     have hnd:((xH fs).map Prod.fst).Nodup:=by rw [hp]; exact hM.nodup
     have e3:=zDt (n:=n) hnd
     rw [zDt (by rw [e3]; exact zDV hnd),e3,hp]
  have hsz:=zRw n'
  refine yJ (fun hq=>?_) (fun hq=>?_)
  ·simp only [decide_eq_true_eq] at hq
   refine s1 _ ?_
   have:n' = []:=List.length_eq_zero_iff.1 (by omega)
   unfold named
   simp [this]
  ·simp only [decide_eq_false_iff_not] at hq
   refine s1 _ ?_
   have:n' ≠ []:=by
    intro e
    have:n'.length = 0:=by rw [e]; rfl
    omega
   unfold named
   rw [hsz]
   by_cases h16:n'.length ≤ 16
   ·simp [this,h16]; omega
   ·simp [this,h16]; omega
end
end
section
open Go Go.Sep
section
variable {B w:World} {Γ:List zB} {m:Nat} {a:DkA} {s:Sl} {fs:RFs} {L:zDs} {n:List UInt8} {M:zC}
theorem Cov.cut {x:List UInt8} {c:Nat} (hc:Cov L s x) (hn:c ≤ s.n) (hcc:s.n ≤ s.c):Cov L ⟨s.a,c,s.c⟩ (x.take c):=by
 rcases hc with ⟨rfl,rfl⟩ | ⟨p,hp,n,d,h1,h2,rfl,rfl⟩
 ·have hc0:c = 0:=by simpa using hn
  subst hc0
  exact .inl ⟨rfl,rfl⟩
 ·exact .inr ⟨p,hp,c,d,by simp only at hn; omega,by simp only at hn hcc; omega,rfl,by
   simp only at hn
   rw [List.take_take,Nat.min_eq_left hn]⟩
theorem zN9 {k:Int→K} {c:Int} (hM:OkD M) (h:Holds B (zk m M::Γ) w) (hk:∀ w,Holds B (zk m (M.cut n c).1::Γ) w→k (M.cut n c).2 w):qY.call (some ⟨m,0,none⟩) (bs n) c k w:=by
 obtain ⟨s,fs,L,hp,hc,h⟩:=zk.opens h
 have hfl:fs.length = M.files.length:=by rw [← hp]; simp
 have hfew:=hM.few
 refine zH4 _ _ _ _ _ ?_
 unfold qY
 refine zBo (by omega) h (fun hd=>?_) (fun hd hb=>?_) (fun hd l1 x l2 he hb=>?_)
 ·refine qO rfl ?_
  have e:M.cut n c = (M,3):=by unfold zC.cut; rw [if_pos hd]
  rw [e] at hk
  exact hk _ (zk.shuts rfl hp hc h)
 ·refine qO rfl ?_
  have e:M.cut n c = (M,60):=by
   unfold zC.cut
   rw [if_neg (by rw [hd]; decide),← hp,zBC hb]
  rw [e] at hk
  exact hk _ (zk.shuts rfl hp hc h)
 ·refine yH rfl ?_
  have hm:zO n M.files = some x.f:=by rw [← hp,zC7 he hb]
  have e:M.cut n c = if c < 0∨(x.f.data.length:Int) < c then (M,1) else (⟨(chg M.a).1,if (chg M.a).2 = 0 then qR n ⟨x.f.data.take c.toNat,min x.f.last c.toNat⟩ M.files else M.files⟩,(chg M.a).2):=by
   unfold zC.cut
   rw [if_neg (by rw [hd]; decide),hm]
  rw [e] at hk
  subst he
  have hx:(l1++(n,x)::l2)[l1.length]? = some (n,x):=by simp
  obtain ⟨g1,g2,g3,g4⟩:=zEx 2 h at2 (hc _ (List.mem_of_getElem? hx))
  simp only at g2 g3 g4
  have hdl:=zA4 hM hm
  have s1:∀ t,t = decide (c < 0∨(x.f.data.length:Int) < c)→qY.s1 k (some ⟨m,0,none⟩) c (l1.length:Int) t w:=by
   rintro t rfl
   unfold qY.s1
   refine yJ (fun ht=>?_) (fun ht=>?_)
   ·rw [if_pos (by simpa using ht)] at hk
    exact hk _ (zk.shuts rfl hp hc h)
   ·simp only [decide_eq_false_iff_not] at ht
    rw [if_neg ht] at hk
    obtain ⟨c',hc'⟩:=Int.eq_ofNat_of_zero_le (show 0 ≤ c by omega)
    subst hc'
    simp only [Int.toNat_natCast] at hk
    refine zCG hM.left h fun w h=>?_
    refine yJ (fun hz=>?_) (fun hz=>?_)
    ·have hz':(chg M.a).2 ≠ 0:=by simpa using hz
     rw [if_neg hz',zPf hz'] at hk
     exact hk _ (zk.shuts rfl hp hc h)
    ·have hz':(chg M.a).2 = 0:=by simpa using hz
     rw [if_pos hz',hz'] at hk
     refine zB8 h ?_
     clear h
     intro w h
     refine zAZ rfl ?_
     try simp only [zR,Nat.zero_add,Nat.reduceAdd]
     refine xQ (x:=s) h rfl (by first | with_reducible exact M0 | with_reducible exact M1 | with_reducible exact M2 | with_reducible exact M3 | with_reducible exact M4 | with_reducible exact M5 | with_reducible exact M6 | with_reducible exact M7 | with_reducible exact M8 | with_reducible exact M9 | with_reducible exact M10 | with_reducible exact M11 | with_reducible exact M12) ?_ ?_
     ·exact rfl
     refine xQ (x:=s) h rfl (by first | with_reducible exact M0 | with_reducible exact M1 | with_reducible exact M2 | with_reducible exact M3 | with_reducible exact M4 | with_reducible exact M5 | with_reducible exact M6 | with_reducible exact M7 | with_reducible exact M8 | with_reducible exact M9 | with_reducible exact M10 | with_reducible exact M11 | with_reducible exact M12) ?_ ?_
     ·exact rfl
     refine zBv (h.rdC (by first | with_reducible exact M0 | with_reducible exact M1 | with_reducible exact M2 | with_reducible exact M3 | with_reducible exact M4 | with_reducible exact M5 | with_reducible exact M6 | with_reducible exact M7 | with_reducible exact M8 | with_reducible exact M9 | with_reducible exact M10 | with_reducible exact M11 | with_reducible exact M12)) hx fun t h0 h1 h2 h3=>?_
     refine zCb (x:=x.s) h1 ?_
     refine ⟨_,by omega,by omega,by omega,by omega,rfl,?_⟩
     simp only [Int.toNat_natCast,show (0:Int).toNat = 0 from rfl,zKc g4,Nat.sub_zero]
     replace h:=P2 h
     replace h:=P1 h
     replace h:=P2 h
     try simp only [N1,N2,N3,N4,N5,N6,N7] at h
     refine zN8 (x':=⟨⟨x.f.data.take c',x.f.last⟩,⟨x.s.a,c',x.s.c⟩⟩) h (by decide) rfl rfl fun w h=>?_
     have hx2:(l1++(n,(⟨⟨x.f.data.take c',x.f.last⟩,⟨x.s.a,c',x.s.c⟩⟩:RF))::l2)[l1.length]? = some (n,⟨⟨x.f.data.take c',x.f.last⟩,⟨x.s.a,c',x.s.c⟩⟩):=by simp
     refine xQ (x:=s) h rfl (by first | with_reducible exact M0 | with_reducible exact M1 | with_reducible exact M2 | with_reducible exact M3 | with_reducible exact M4 | with_reducible exact M5 | with_reducible exact M6 | with_reducible exact M7 | with_reducible exact M8 | with_reducible exact M9 | with_reducible exact M10 | with_reducible exact M11 | with_reducible exact M12) ?_ ?_
     ·exact rfl
     refine zBv (h.rdC (by first | with_reducible exact M0 | with_reducible exact M1 | with_reducible exact M2 | with_reducible exact M3 | with_reducible exact M4 | with_reducible exact M5 | with_reducible exact M6 | with_reducible exact M7 | with_reducible exact M8 | with_reducible exact M9 | with_reducible exact M10 | with_reducible exact M11 | with_reducible exact M12)) hx2 fun t h0 h1 h2 h3=>?_
     refine zCb (x:=(x.f.last:Int)) h2 ?_
     unfold qY.s2
     have hcv:Cov L ⟨x.s.a,c',x.s.c⟩ (x.f.data.take c'):=Cov.cut (hc (n,x) (List.mem_of_getElem? hx)) (by omega) g3
     have fin:∀ w,Holds B (SlC zD 3 s ((l1++(n,(⟨⟨x.f.data.take c',min x.f.last c'⟩,⟨x.s.a,c',x.s.c⟩⟩:RF))::l2).flatMap rfF)::blk m (.cells (mA (chg M.a).1 s) zK (0,0))::stars (L.map vX)::Γ) w→k 0 w:=by
      intro w h
      replace h:=P2 h
      replace h:=P1 h
      replace h:=P2 h
      try simp only [N1,N2,N3,N4,N5,N6,N7] at h
      refine hk _ (zk.shuts rfl ?_ ?_ h)
      ·show _ = qR n _ M.files
       rw [← hp,zKH hb]
      ·exact zLG hc (fun _ _ h=>h) hcv
     refine yJ (fun hq=>?_) (fun hq=>?_)
     ·simp only [decide_eq_true_eq] at hq
      refine xQ (x:=s) h rfl (by first | with_reducible exact M0 | with_reducible exact M1 | with_reducible exact M2 | with_reducible exact M3 | with_reducible exact M4 | with_reducible exact M5 | with_reducible exact M6 | with_reducible exact M7 | with_reducible exact M8 | with_reducible exact M9 | with_reducible exact M10 | with_reducible exact M11 | with_reducible exact M12) ?_ ?_
      ·exact rfl
      refine zN8 (x':=⟨⟨x.f.data.take c',min x.f.last c'⟩,⟨x.s.a,c',x.s.c⟩⟩) h (by decide) ?_ rfl fin
      rw [Nat.min_eq_right (by omega)]
      rfl
     ·simp only [decide_eq_false_iff_not] at hq
      rw [Nat.min_eq_left (by omega)] at fin
      exact fin _ h
  refine yJ (fun hq=>?_) (fun hq=>?_)
  ·simp only [decide_eq_true_eq] at hq
   exact s1 _ (decide_eq_true (.inl hq)).symm
  ·simp only [decide_eq_false_iff_not] at hq
   refine zAZ rfl ?_
   try simp only [zR,Nat.zero_add,Nat.reduceAdd]
   refine xQ (x:=s) h rfl (by first | with_reducible exact M0 | with_reducible exact M1 | with_reducible exact M2 | with_reducible exact M3 | with_reducible exact M4 | with_reducible exact M5 | with_reducible exact M6 | with_reducible exact M7 | with_reducible exact M8 | with_reducible exact M9 | with_reducible exact M10 | with_reducible exact M11 | with_reducible exact M12) ?_ ?_
   ·exact rfl
   refine zBv (h.rdC (by first | with_reducible exact M0 | with_reducible exact M1 | with_reducible exact M2 | with_reducible exact M3 | with_reducible exact M4 | with_reducible exact M5 | with_reducible exact M6 | with_reducible exact M7 | with_reducible exact M8 | with_reducible exact M9 | with_reducible exact M10 | with_reducible exact M11 | with_reducible exact M12)) hx fun t h0 h1 h2 h3=>?_
   refine zCb (x:=x.s) h1 ?_
   refine s1 _ ?_
   rw [← g2]
   by_cases hq2:(x.f.data.length:Int) < c
   ·simp [hq2]
   ·simp [hq2,hq]
theorem zGk {k:Int→K} {x:RF} {l1 l2:RFs} {data:Sl} {d:List UInt8} (ha:okA a) (hlen:(x.f.data++d).length ≤ 100000000) (hc:zEw L (l1++(n,x)::l2)) (hr:∀ w,Holds B Γ w→RdB w data d)
  (h:Holds B (blk m (.cells (mA a s) zK (0,0))::SlC zD 3 s (List.flatMap rfF (l1++(n,x)::l2))::stars (List.map vX L)::Γ) w)
  (hk:∀ x' L' w,x'.f = ⟨x.f.data++d,x.f.last⟩→zEw L' (l1++(n,x')::l2)→Holds B (blk m (.cells (mA (chg a).1 s) zK (0,0))::SlC zD 3 s (List.flatMap rfF (l1++(n,x')::l2))::stars (List.map vX L')::Γ) w→k (chg a).2 w):zq.s3 k ⟨m,0,none⟩ data (l1.length:Int) w:=by
 have hx:(l1++(n,x)::l2)[l1.length]? = some (n,x):=by simp
 have hxm:=List.mem_of_getElem? hx
 obtain ⟨g1,g2,g3,g4⟩:=zEx 2 h at2 (hc _ hxm)
 simp only at g2 g3 g4
 have hdn:d.length = data.n:=by have:=(hr w h.tail.tail.tail).len; simpa using this
 have hlen':=hlen
 rw [List.length_append] at hlen'
 unfold zq.s3
 refine zB8 h ?_
 clear h
 intro w h
 refine zBq h ?_
 try simp only [zR,Nat.zero_add,Nat.reduceAdd]
 refine zCf (x:=s) rfl (by first | with_reducible exact M0 | with_reducible exact M1 | with_reducible exact M2 | with_reducible exact M3 | with_reducible exact M4 | with_reducible exact M5 | with_reducible exact M6 | with_reducible exact M7 | with_reducible exact M8 | with_reducible exact M9 | with_reducible exact M10 | with_reducible exact M11 | with_reducible exact M12) ?_ ?_
 ·exact rfl
 refine zCf (x:=s) rfl (by first | with_reducible exact M0 | with_reducible exact M1 | with_reducible exact M2 | with_reducible exact M3 | with_reducible exact M4 | with_reducible exact M5 | with_reducible exact M6 | with_reducible exact M7 | with_reducible exact M8 | with_reducible exact M9 | with_reducible exact M10 | with_reducible exact M11 | with_reducible exact M12) ?_ ?_
 ·exact rfl
 refine zUE rfF zDr (by decide) (h.rdC (by first | with_reducible exact M0 | with_reducible exact M1 | with_reducible exact M2 | with_reducible exact M3 | with_reducible exact M4 | with_reducible exact M5 | with_reducible exact M6 | with_reducible exact M7 | with_reducible exact M8 | with_reducible exact M9 | with_reducible exact M10 | with_reducible exact M11 | with_reducible exact M12)) hx fun t ht=>?_
 refine zTV (x:=x.s) (fun w h=>ht w (h.rdC (by first | with_reducible exact M0 | with_reducible exact M1 | with_reducible exact M2 | with_reducible exact M3 | with_reducible exact M4 | with_reducible exact M5 | with_reducible exact M6 | with_reducible exact M7 | with_reducible exact M8 | with_reducible exact M9 | with_reducible exact M10 | with_reducible exact M11 | with_reducible exact M12)) 1 (show 1 < 3 by decide)) ?_
 refine xE h ?_
 clear h
 intro t59 w h
 try simp only [zR,Nat.zero_add,Nat.reduceAdd]
 refine zFS h.tail ?_
 obtain ⟨g1,_⟩:=zEx 3 h at3 (hc _ hxm)
 refine zA7 (vs:=[]) (h.imp (zA0 rfl rfl)) (by kernel_rfl) (by kernel_rfl) (by':=1) (by kernel_rfl) zBh rfl g1 (zCX _) (by simp only; omega) (by decide) fun e w h he _=>?_
 simp only [List.nil_append] at h
 have hen:e.n = x.s.n:=by simp only at he; omega
 refine zFS h.tail ?_
 refine zA7 h (by kernel_rfl) (by kernel_rfl) (by':=1) (by kernel_rfl) zBh rfl (hr _ h.tail.tail.tail.tail) (zCX _) (by omega) (by decide) fun e2 w h he2 _=>?_
 rw [← List.map_append] at h
 have he2n:e2.n = (x.f.data++d).length:=by rw [List.length_append]; omega
 have hcap:=h.zAm.2.1
 refine zFS h.tail ?_
 replace h:=zMo h
 replace h:=P2 h
 replace h:=P1 h
 replace h:=P2 h
 try simp only [N1,N2,N3,N4,N5,N6,N7] at h
 refine zN8 (x':=⟨⟨x.f.data++d,x.f.last⟩,e2⟩) h (by decide) rfl rfl fun w h=>?_
 replace h:=P2 h
 replace h:=P1 h
 replace h:=P2 h
 try simp only [N1,N2,N3,N4,N5,N6,N7] at h
 refine zCG ha h fun w h=>?_
 have hcv:zEw ((e2,x.f.data++d)::L) (l1++(n,(⟨⟨x.f.data++d,x.f.last⟩,e2⟩:RF))::l2):=zLG hc (fun _ _ h=>Cov.grow h) (Cov.here he2n.symm hcap)
 refine yJ (fun hz=>?_) (fun hz=>?_)
 ·have hz':(chg a).2 ≠ 0:=by simpa using hz
  have:=hk _ _ _ rfl hcv h
  rw [zPf hz'] at this
  exact this
 ·have hz':(chg a).2 = 0:=by simpa using hz
  have:=hk _ _ _ rfl hcv h
  rw [hz'] at this
  exact this
theorem zLH {y:List UInt8×RF}:∀ {fs:RFs},(∀ p ∈ fs,p.1 ≠ y.1)→∀ {l1 l2:RFs} {x:RF},zA5 y fs = l1++(y.1,x)::l2→(∀ p ∈ l1,p.1 ≠ y.1)→x = y.2
 | [],_,l1,l2,x,he,hb=>by
  cases l1 with
  | nil=>simp only [zA5,List.nil_append,List.cons.injEq] at he; exact (congrArg Prod.snd he.1).symm
  | cons q l1=>simp [zA5] at he
 | q::fs,hn,l1,l2,x,he,hb=>by
  unfold zA5 at he
  split at he
  ·cases l1 with
   | nil=>simp only [List.nil_append,List.cons.injEq] at he; exact (congrArg Prod.snd he.1).symm
   | cons r l1=>
    simp only [List.cons_append,List.cons.injEq] at he
    exact absurd (congrArg Prod.fst he.1).symm (hb r List.mem_cons_self)
  ·cases l1 with
   | nil=>
    simp only [List.nil_append,List.cons.injEq] at he
    exact absurd (congrArg Prod.fst he.1) (hn q List.mem_cons_self)
   | cons r l1=>
    simp only [List.cons_append,List.cons.injEq] at he
    exact zLH (fun p hp=>hn p (List.mem_cons_of_mem _ hp)) he.2 (fun p hp=>hb p (List.mem_cons_of_mem _ hp))
theorem zPi {y:List UInt8×RF}:∀ fs:RFs,y ∈ zA5 y fs
 | []=>List.mem_cons_self
 | q::fs=>by
  unfold zA5
  split
  ·exact List.mem_cons_self
  ·exact List.mem_cons_of_mem _ (zPi fs)
theorem zPj {y:List UInt8×RF}:∀ fs:RFs,(zA5 y fs).length = fs.length + 1
 | []=>rfl
 | q::fs=>by
  unfold zA5
  split
  ·rfl
  ·simp [zPj fs]
theorem zFA {k:Int→K} {data:Sl} {d:List UInt8} (hM:OkD M) (hxl:d.length ≤ 90000000) (h:Holds B (zk m M::Γ) w) (hr:∀ w,Holds B Γ w→RdB w data d)
  (hk:∀ w,Holds B (zk m (M.zCI n d).1::Γ) w→k (M.zCI n d).2 w):zq.call (some ⟨m,0,none⟩) (bs n) data k w:=by
 have hdn:d.length = data.n:=by have:=(hr w h.tail).len; simpa using this
 obtain ⟨s,fs,L,hp,hc,h⟩:=zk.opens h
 have hfl:fs.length = M.files.length:=by rw [← hp]; simp
 have hfew:=hM.few
 have hu:=hM.used
 have hro:=hM.roomN
 have hro1:=hM.room1
 refine zFn _ _ _ _ _ ?_
 unfold zq
 unfold zC.zCI at hk
 refine zAZ rfl ?_
 try simp only [zR,Nat.zero_add,Nat.reduceAdd]
 refine xQ (x:=M.a.down) h rfl (by first | with_reducible exact M0 | with_reducible exact M1 | with_reducible exact M2 | with_reducible exact M3 | with_reducible exact M4 | with_reducible exact M5 | with_reducible exact M6 | with_reducible exact M7 | with_reducible exact M8 | with_reducible exact M9 | with_reducible exact M10 | with_reducible exact M11 | with_reducible exact M12) ?_ ?_
 ·exact rfl
 refine yJ (fun hb=>?_) (fun hb=>?_)
 ·rw [if_pos hb] at hk
  exact hk _ (zk.shuts rfl hp hc h)
 rw [if_neg (by rw [hb]; simp)] at hk
 have s1:∀ t,t = (!named n)→zq.s1 k ⟨m,0,none⟩ (bs n) data t w:=by
  rintro t rfl
  unfold zq.s1
  refine yJ (fun ht=>?_) (fun ht=>?_)
  ·rw [if_pos (by simpa using ht)] at hk
   exact hk _ (zk.shuts rfl hp hc h)
  rw [if_neg (by simp at ht; simp [ht])] at hk
  have s2:∀ (t:Bool) (i:Int) w,t = decide ((zO n M.files = none∧32 ≤ M.files.length)∨M.a.room - yc M.files < d.length) →
    ((∀ p ∈ fs,p.1 ≠ n)∧i = -1∨∃ l1 x l2,fs = l1++(n,x)::l2∧(∀ p ∈ l1,p.1 ≠ n)∧i = (l1.length:Int)) →
    Holds B (blk m (.cells (mA M.a s) zK (0,0))::SlC zD 3 s (List.flatMap rfF fs)::stars (List.map vX L)::Γ) w→zq.s2 k ⟨m,0,none⟩ (bs n) data i t w:=by
   clear h
   rintro t i w rfl hi h
   unfold zq.s2
   refine yJ (fun hq=>?_) (fun hq=>?_)
   ·rw [if_pos (by simpa using hq)] at hk
    exact hk _ (zk.shuts rfl hp hc h)
   simp only [decide_eq_false_iff_not] at hq
   rw [if_neg hq] at hk
   rcases hi with ⟨hb,rfl⟩ | ⟨l1,x,l2,he,hb,rfl⟩
   ·have hm:zO n M.files = none:=by rw [← hp]; exact zBC hb
    refine qO rfl ?_
    have hcp:zEw L (zA5 (n,(⟨⟨[],0⟩,⟨none,0,0⟩⟩:RF)) fs):=zPh hc (.inl ⟨rfl,rfl⟩)
    refine zIC (y:=(n,(⟨⟨[],0⟩,⟨none,0,0⟩⟩:RF))) (by omega) h fun s' w h=>?_
    have hpl:=zPj (y:=(n,(⟨⟨[],0⟩,⟨none,0,0⟩⟩:RF))) fs
    refine zCo (by omega) h (fun hno=>?_) (fun l1 x l2 he hb2=>?_)
    ·exact absurd rfl (hno _ (zPi fs))
    ·have hx:=zLH hb he hb2
     subst hx
     have hpp:=zHD n (⟨⟨[],0⟩,⟨none,0,0⟩⟩:RF) fs
     rw [he] at h hcp hpp
     refine zGk hM.left (by simp only [List.nil_append]; omega) hcp hr h fun x' L' w hx' hc' h=>?_
     rw [hm] at hk
     simp only [Option.getD_none,List.nil_append] at hk hx'
     refine hk _ (zk.shuts rfl ?_ hc' h)
     show _ = qR n ⟨d,0⟩ (M.zMn n)
     unfold zC.zMn
     rw [if_pos hm,← hp,← hpp,zKH hb2 _ x'.s,← hx']
   ·have hm:zO n M.files = some x.f:=by rw [← hp,zC7 he hb]
    have hdl:=zA4 hM hm
    refine yH (by simp) ?_
    subst he
    refine zGk hM.left (by rw [List.length_append]; omega) hc hr h fun x' L' w hx' hc' h=>?_
    rw [hm] at hk
    simp only [Option.getD_some] at hk
    refine hk _ (zk.shuts rfl ?_ hc' h)
    show _ = qR n ⟨x.f.data++d,x.f.last⟩ (M.zMn n)
    unfold zC.zMn
    rw [if_neg (by rw [hm]; simp),← hp,zKH hb _ x'.s,← hx']
  have room:∀ (i:Int) w,¬ (zO n M.files = none∧32 ≤ M.files.length)→((∀ p ∈ fs,p.1 ≠ n)∧i = -1∨∃ l1 x l2,fs = l1++(n,x)::l2∧(∀ p ∈ l1,p.1 ≠ n)∧i = (l1.length:Int))→Holds B (blk m (.cells (mA M.a s) zK (0,0))::SlC zD 3 s (List.flatMap rfF fs)::stars (List.map vX L)::Γ) w →
    LdS (Holds B (blk m (.cells (mA M.a s) zK (0,0))::SlC zD 3 s (List.flatMap rfF fs)::stars (List.map vX L)::Γ)) ⟨m,0,none⟩ (Value.int .i64) (fun t39=>xw.call (some ⟨m,0,none⟩) fun t41=>Sv (Holds B (blk m (.cells (mA M.a s) zK (0,0))::SlC zD 3 s (List.flatMap rfF fs)::stars (List.map vX L)::Γ)) <| Ar (IntKind.wrap .i64 (t39 - t41)) fun t42=>zq.s2 k ⟨m,0,none⟩ (bs n) data i (decide (t42 < (data.n:Int)))) w:=by
   clear h
   intro i w hnf hi h
   refine zCf (x:=M.a.room) rfl (by first | with_reducible exact M0 | with_reducible exact M1 | with_reducible exact M2 | with_reducible exact M3 | with_reducible exact M4 | with_reducible exact M5 | with_reducible exact M6 | with_reducible exact M7 | with_reducible exact M8 | with_reducible exact M9 | with_reducible exact M10 | with_reducible exact M11 | with_reducible exact M12) ?_ ?_
   ·exact rfl
   refine zLx (by omega) (by rw [hp]; omega) hc h ?_
   refine zFS h ?_
   rw [hp]
   refine qP (e':=M.a.room - yc M.files) (wrap64 (by omega) (by omega)) ?_
   refine s2 _ _ _ ?_ hi h
   rw [← hdn]
   by_cases hq:M.a.room - (yc M.files:Int) < (d.length:Int)
   ·rw [decide_eq_true hq,decide_eq_true (.inr hq)]
   ·rw [decide_eq_false hq,decide_eq_false (by rintro (hh | hh); exact hnf hh; exact hq hh)]
  refine zCo (by omega) h (fun hno=>?_) (fun l1 x l2 he hb2=>?_)
  ·refine zB8 h ?_
   clear h
   intro w h
   refine zBq h ?_
   refine qO rfl ?_
   try simp only [zR,Nat.zero_add,Nat.reduceAdd]
   refine zCf (x:=s) rfl (by first | with_reducible exact M0 | with_reducible exact M1 | with_reducible exact M2 | with_reducible exact M3 | with_reducible exact M4 | with_reducible exact M5 | with_reducible exact M6 | with_reducible exact M7 | with_reducible exact M8 | with_reducible exact M9 | with_reducible exact M10 | with_reducible exact M11 | with_reducible exact M12) ?_ ?_
   ·exact rfl
   have hn:=zPe h
   have hm:zO n M.files = none:=by rw [← hp]; exact zBC hno
   refine yJ (fun hq=>?_) (fun hq=>?_)
   ·simp only [decide_eq_true_eq] at hq
    exact s2 _ _ _ (decide_eq_true (.inl ⟨hm,by omega⟩)).symm (.inl ⟨hno,rfl⟩) h
   ·simp only [decide_eq_false_iff_not] at hq
    exact room _ _ (fun hh=>by omega) (.inl ⟨hno,rfl⟩) h
  ·refine zB8 h ?_
   clear h
   intro w h
   refine zBq h ?_
   refine yH (by simp) ?_
   have hm:zO n M.files = some x.f:=by rw [← hp,zC7 he hb2]
   exact room _ _ (fun hh=>by rw [hm] at hh; cases hh.1) (.inr ⟨l1,x,l2,he,hb2,rfl⟩) h
 have hsz:=zRw n
 refine yJ (fun hq=>?_) (fun hq=>?_)
 ·simp only [decide_eq_true_eq] at hq
  refine s1 _ ?_
  have:n = []:=List.length_eq_zero_iff.1 (by omega)
  unfold named
  simp [this]
 ·simp only [decide_eq_false_iff_not] at hq
  refine s1 _ ?_
  have:n ≠ []:=by
   intro e
   have:n.length = 0:=by rw [e]; rfl
   omega
  unfold named
  rw [hsz]
  by_cases h16:n.length ≤ 16
  ·simp [this,h16]; omega
  ·simp [this,h16]; omega
theorem zJp {c:Int} {k:K} (h:Holds B (zk m M::Γ) w) (hk:∀ w,Holds B (zk m { M with a:={ M.a with left:=if -1 > c then -1 else c } }::Γ) w→k w):uJ.call (some ⟨m,0,none⟩) c k w:=by
 obtain ⟨s,fs,L,hp,hc,h⟩:=zk.opens h
 exact zLF h fun w h=>hk w (zk.shuts rfl hp hc h)
theorem zLy {room:Int} {k:Option Addr→K} (h:Holds B Γ w) (hk:∀ m w,Holds B (zk m (zC.new room)::Γ) w→k (some ⟨m,0,none⟩) w):zCU.call room k w :=
 zN6 h fun m w h=>hk m w (zk.shuts (M:=zC.new room) (fs:=[]) rfl rfl (fun _ hp=>by cases hp) h)
end
end
section
open Go Go.Sep
def zCJ (ks:List Int) (fs:Files):Files:=fs.zipIdx.map fun p=>(p.1.1,jU ks p.2 p.1.2)
theorem zPk (ks:List Int) (fs:Files) (p:List UInt8×vK):zCJ ks (fs++[p]) = zCJ ks fs++[(p.1,jU ks fs.length p.2)]:=by
 unfold zCJ
 rw [List.zipIdx_append]
 simp
abbrev oA (room:Int):DkA:=⟨room,-1,false⟩
section
variable {B w:World} {Γ:List zB} {m:Nat} {a:DkA} {s:Sl} {fs:RFs} {L:zDs} {n:List UInt8} {M:zC}
theorem zLI {keeps:Sl} {ks:List Int} {k:Option Addr→K} (hM:OkD M) (h:Holds B (zk m M::Γ) w) (hr:∀ w,Holds B Γ w→RdC w keeps 1 (ks.map (Value.int .i64)))
  (hk:∀ o w,Holds B (zk o ⟨oA M.a.room,zCJ ks M.files⟩::zk m M::Γ) w→k (some ⟨o,0,none⟩) w):y7.call (some ⟨m,0,none⟩) keeps k w:=by
 have hkn:ks.length = keeps.n:=by have:=(hr w h.tail).len; simpa using this
 obtain ⟨s,fs,L,hp,hc,h⟩:=zk.opens h
 have hfl:fs.length = M.files.length:=by rw [← hp]; simp
 have hfew:=hM.few
 have hn:=zPe h
 refine zGX _ _ _ _ ?_
 unfold y7
 refine zAZ rfl ?_
 try simp only [zR,Nat.zero_add,Nat.reduceAdd]
 refine xQ (x:=M.a.room) h rfl (by first | with_reducible exact M0 | with_reducible exact M1 | with_reducible exact M2 | with_reducible exact M3 | with_reducible exact M4 | with_reducible exact M5 | with_reducible exact M6 | with_reducible exact M7 | with_reducible exact M8 | with_reducible exact M9 | with_reducible exact M10 | with_reducible exact M11 | with_reducible exact M12) ?_ ?_
 ·exact rfl
 refine xE h ?_
 clear h
 intro o w h
 try simp only [zR,Nat.zero_add,Nat.reduceAdd]
 have h0:Holds B (blk o (.cells (mA (oA M.a.room) (⟨none,0,0⟩:Sl)) zK (0,0))::SlC zD 3 (⟨none,0,0⟩:Sl) (List.flatMap rfF ([]:RFs))::stars (List.map vX ([]:zDs))::(blk m (.cells (mA M.a s) zK (0,0))::SlC zD 3 s (List.flatMap rfF fs)::stars (List.map vX L)::Γ)) w:=by
  replace h:=(h.zA6).zAv zD 3
  replace h:=P5 h
  replace h:=P5 h
  replace h:=P5 h
  replace h:=P4 h
  replace h:=P4 h
  replace h:=P5 h
  try simp only [N1,N2,N3,N4,N5,N6,N7] at h
  exact h
 clear h
 refine yM.of (fun t w=>∃ (i:Nat) (so:Sl) (fo:RFs) (Lo:zDs),t = (i:Int)∧i ≤ fs.length∧xH fo = zCJ ks (xH (fs.take i))∧zEw Lo fo∧Holds B (blk o (.cells (mA (oA M.a.room) so) zK (0,0))::SlC zD 3 so (List.flatMap rfF fo)::stars (List.map vX Lo)::(blk m (.cells (mA M.a s) zK (0,0))::SlC zD 3 s (List.flatMap rfF fs)::stars (List.map vX L)::Γ)) w) (fun t _=>((s.n:Int) - t).toNat) ⟨0,_,_,_,rfl,by omega,rfl,(fun _ hp=>by cases hp),h0⟩ ?_
 clear h0
 rintro t w ⟨i,so,fo,Lo,rfl,hi,hpo,hco,h⟩
 unfold y7.b1
 try simp only [zR,Nat.zero_add,Nat.reduceAdd]
 refine xQ (x:=s) h rfl (by first | with_reducible exact M0 | with_reducible exact M1 | with_reducible exact M2 | with_reducible exact M3 | with_reducible exact M4 | with_reducible exact M5 | with_reducible exact M6 | with_reducible exact M7 | with_reducible exact M8 | with_reducible exact M9 | with_reducible exact M10 | with_reducible exact M11 | with_reducible exact M12) ?_ ?_
 ·exact rfl
 refine yJ (fun hb=>?_) (fun hb=>?_)
 ·simp only [decide_eq_true_eq] at hb
  have hil:i < fs.length:=by omega
  have hx:fs[i]? = some fs[i]:=List.getElem?_eq_getElem hil
  have htk:fs.take (i + 1) = fs.take i++[fs[i]]:=List.take_succ_eq_append_getElem hil
  generalize fs[i] = x at hx htk
  refine xQ (x:=s) h rfl (by first | with_reducible exact M0 | with_reducible exact M1 | with_reducible exact M2 | with_reducible exact M3 | with_reducible exact M4 | with_reducible exact M5 | with_reducible exact M6 | with_reducible exact M7 | with_reducible exact M8 | with_reducible exact M9 | with_reducible exact M10 | with_reducible exact M11 | with_reducible exact M12) ?_ ?_
  ·exact rfl
  refine zBv (s:=s) (fs:=fs) (h.rdC (by first | with_reducible exact M0 | with_reducible exact M1 | with_reducible exact M2 | with_reducible exact M3 | with_reducible exact M4 | with_reducible exact M5 | with_reducible exact M6 | with_reducible exact M7 | with_reducible exact M8 | with_reducible exact M9 | with_reducible exact M10 | with_reducible exact M11 | with_reducible exact M12)) hx fun t h0 h1 h2 h3=>?_
  refine zCe (cs:=rfA x) rfl h3 ?_
  refine xE h ?_
  clear h
  intro f7 w h
  try simp only [zR,Nat.zero_add,Nat.reduceAdd]
  first | refine T0 h rfl ?_ ?_ ?_ ?_ | refine T1 h rfl ?_ ?_ ?_ ?_ | refine T2 h rfl ?_ ?_ ?_ ?_ | refine T3 h rfl ?_ ?_ ?_ ?_ | refine T4 h rfl ?_ ?_ ?_ ?_ | refine T5 h rfl ?_ ?_ ?_ ?_ | refine T6 h rfl ?_ ?_ ?_ ?_ | refine T7 h rfl ?_ ?_ ?_ ?_ | refine T8 h rfl ?_ ?_ ?_ ?_
  ·rfl
  ·rfl
  ·simp [qC]
  clear h
  intro w h
  try simp only [N1,N2,N3,N4,N5,N6,N7] at h
  obtain ⟨g1,g2,g3,g4⟩:=zEx 6 h at6 (hc _ (List.mem_of_getElem? hx))
  have hxm:(x.1,x.2.f) ∈ M.files:=by rw [← hp]; exact List.mem_map_of_mem (f:=fun p:List UInt8×RF=>(p.1,p.2.f)) (List.mem_of_getElem? hx)
  have hxl:=hM.last _ hxm
  have hxu:=zEQ hxm
  have hu:=hM.used
  have hro:=hM.roomN
  simp only at hxl hxu
  have hkl:=zER ks i x.2.f
  have hki:(kinds x.2.f:Int) = x.2.f.data.length - x.2.f.last + 1:=by unfold kinds; omega
  have hpn:(xH fo).length = i:=by rw [hpo]; unfold zCJ; simp; omega
  have hfon:fo.length = i:=by simpa using hpn
  have main:∀ w,Holds B (blk f7 (.cells (rfA x) zD (0,0))::(blk o (.cells (mA (oA M.a.room) so) zK (0,0))::SlC zD 3 so (List.flatMap rfF fo)::stars (List.map vX Lo)::(blk m (.cells (mA M.a s) zK (0,0))::SlC zD 3 s (List.flatMap rfF fs)::stars (List.map vX L)::Γ))) w→y7.s2 k (fun t w'=>(∃ (i:Nat) (so:Sl) (fo:RFs) (Lo:zDs),t = (i:Int)∧i ≤ fs.length∧xH fo = zCJ ks (xH (fs.take i))∧zEw Lo fo∧Holds B (blk o (.cells (mA (oA M.a.room) so) zK (0,0))::SlC zD 3 so (List.flatMap rfF fo)::stars (List.map vX Lo)::(blk m (.cells (mA M.a s) zK (0,0))::SlC zD 3 s (List.flatMap rfF fs)::stars (List.map vX L)::Γ)) w')∧((s.n:Int) - t).toNat < ((s.n:Int) - (i:Int)).toNat) ⟨m,0,none⟩ keeps ⟨o,0,none⟩ (i:Int) ⟨f7,0,none⟩ (zAG ks i x.2.f:Int) w:=by
   clear h
   intro w h
   unfold y7.s2
   try simp only [zR,Nat.zero_add,Nat.reduceAdd]
   refine xQ (x:=(x.2.f.last:Int)) h rfl (by first | with_reducible exact M0 | with_reducible exact M1 | with_reducible exact M2 | with_reducible exact M3 | with_reducible exact M4 | with_reducible exact M5 | with_reducible exact M6 | with_reducible exact M7 | with_reducible exact M8 | with_reducible exact M9 | with_reducible exact M10 | with_reducible exact M11 | with_reducible exact M12) ?_ ?_
   ·exact rfl
   refine qP (e':=((x.2.f.last + zAG ks i x.2.f:Nat):Int)) (by rw [wrap64 (by omega) (by omega)]; omega) ?_
   refine zB8 h ?_
   clear h
   intro w h
   refine zBq h ?_
   refine zCf (x:=so) rfl (by first | with_reducible exact M0 | with_reducible exact M1 | with_reducible exact M2 | with_reducible exact M3 | with_reducible exact M4 | with_reducible exact M5 | with_reducible exact M6 | with_reducible exact M7 | with_reducible exact M8 | with_reducible exact M9 | with_reducible exact M10 | with_reducible exact M11 | with_reducible exact M12) ?_ ?_
   ·exact rfl
   refine zCf (x:=(bs x.1)) rfl (by first | with_reducible exact M0 | with_reducible exact M1 | with_reducible exact M2 | with_reducible exact M3 | with_reducible exact M4 | with_reducible exact M5 | with_reducible exact M6 | with_reducible exact M7 | with_reducible exact M8 | with_reducible exact M9 | with_reducible exact M10 | with_reducible exact M11 | with_reducible exact M12) ?_ ?_
   ·exact rfl
   refine zCf (x:=x.2.s) rfl (by first | with_reducible exact M0 | with_reducible exact M1 | with_reducible exact M2 | with_reducible exact M3 | with_reducible exact M4 | with_reducible exact M5 | with_reducible exact M6 | with_reducible exact M7 | with_reducible exact M8 | with_reducible exact M9 | with_reducible exact M10 | with_reducible exact M11 | with_reducible exact M12) ?_ ?_
   ·exact rfl
   refine ⟨_,by omega,by omega,by omega,by omega,rfl,?_⟩
   simp only [Int.toNat_natCast,show (0:Int).toNat = 0 from rfl,zKc g4,Nat.sub_zero]
   refine xE h ?_
   clear h
   intro t66 w h
   try simp only [zR,Nat.zero_add,Nat.reduceAdd]
   refine zFS h.tail ?_
   obtain ⟨g1,_⟩:=zEx 7 h at7 (hc _ (List.mem_of_getElem? hx))
   refine zA7 (vs:=[]) (h.imp (zA0 rfl rfl)) (by kernel_rfl) (by kernel_rfl) (by':=1) (by kernel_rfl) zBh rfl (zKq (n:=x.2.f.last + zAG ks i x.2.f) g1 (by omega)) (zCX _) (by simp only; omega) (by decide) fun e w h he _=>?_
   simp only [List.nil_append] at h
   have hen:e.n = x.2.f.last + zAG ks i x.2.f:=by simp only at he; omega
   have hcap:=h.zAm.2.1
   refine zFS h.tail ?_
   refine zQO rfl rfl ?_
   refine xE h ?_
   clear h
   intro t74 w h
   try simp only [zR,Nat.zero_add,Nat.reduceAdd]
   refine zFS h.tail.tail ?_
   have hsn:fo.length = so.n:=by
    have:=(h.pick 4 at4).zAm.1
    rw [yu rfF 3 zDr] at this
    omega
   have hxr:=RdC.zD2 (n:=1) (esz:=3) h List.mem_cons_self (vs:=rfF (x.1,(⟨jU ks i x.2.f,e⟩:RF))) rfl rfl 1
   refine zA7 (h.pick 4 at4) (by kernel_rfl) (by kernel_rfl) (by':=48) (by kernel_rfl) zBi rfl hxr (fun v hv=>zR5 [(x.1,(⟨jU ks i x.2.f,e⟩:RF))] v (by simpa using hv)) (by simp only; omega) (by decide) fun so' w h _ _=>?_
   try simp only [N1,N2,N3,N4,N5,N6,N7] at h
   have e1:fo.flatMap rfF++rfF (x.1,(⟨jU ks i x.2.f,e⟩:RF)) = (fo++[(x.1,(⟨jU ks i x.2.f,e⟩:RF))]).flatMap rfF:=by simp
   rw [e1] at h
   first | refine S0 h rfl ?_ rfl ?_ | refine S1 h rfl ?_ rfl ?_ | refine S2 h rfl ?_ rfl ?_ | refine S3 h rfl ?_ rfl ?_ | refine S4 h rfl ?_ rfl ?_ | refine S5 h rfl ?_ rfl ?_ | refine S6 h rfl ?_ rfl ?_ | refine S7 h rfl ?_ rfl ?_ | refine S8 h rfl ?_ rfl ?_
   ·first | exact Nat.lt_of_ble_eq_true rfl | (simp; done) | (simp; omega)
   clear h
   intro w h
   try simp only [N1,N2,N3,N4,N5,N6,N7] at h
   replace h:=P8 h
   replace h:=P8 h
   replace h:=P8 h
   replace h:=P8 h
   replace h:=P4 h
   replace h:=P8 h
   replace h:=P7 h
   replace h:=D7 h
   replace h:=D7 h
   try simp only [N1,N2,N3,N4,N5,N6,N7] at h
   replace h:=zMo (a:=oA M.a.room) h
   refine xq (by omega) (by omega) ?_
   refine ⟨⟨i + 1,so',_,_,by omega,by omega,?_,?_,h⟩,by omega⟩
   ·rw [htk]
    simp only [xH,List.map_append,List.map_cons,List.map_nil]
    rw [zPk]
    have:(fs.take i).length = i:=by rw [List.length_take]; omega
    rw [List.length_map,this]
    exact congrArg (·++_) hpo
   ·intro p hp
    rcases List.mem_append.1 hp with hp | hp
    ·exact Cov.grow (hco p hp)
    ·simp only [List.mem_singleton] at hp
     subst hp
     exact Cov.here (by show ((x.2.f.data.take _).length = e.n); rw [List.length_take,hen]; omega) hcap
  try simp only [zR,Nat.zero_add,Nat.reduceAdd]
  refine xQ (x:=x.2.s) h rfl (by first | with_reducible exact M0 | with_reducible exact M1 | with_reducible exact M2 | with_reducible exact M3 | with_reducible exact M4 | with_reducible exact M5 | with_reducible exact M6 | with_reducible exact M7 | with_reducible exact M8 | with_reducible exact M9 | with_reducible exact M10 | with_reducible exact M11 | with_reducible exact M12) ?_ ?_
  ·exact rfl
  refine xQ (x:=(x.2.f.last:Int)) h rfl (by first | with_reducible exact M0 | with_reducible exact M1 | with_reducible exact M2 | with_reducible exact M3 | with_reducible exact M4 | with_reducible exact M5 | with_reducible exact M6 | with_reducible exact M7 | with_reducible exact M8 | with_reducible exact M9 | with_reducible exact M10 | with_reducible exact M11 | with_reducible exact M12) ?_ ?_
  ·exact rfl
  refine qP (e':=(x.2.f.data.length:Int) - x.2.f.last) (by rw [wrap64 (by omega) (by omega)]; omega) ?_
  refine qP (e':=(kinds x.2.f:Int)) (by rw [wrap64 (by omega) (by omega)]; omega) ?_
  refine yJ (fun hb2=>?_) (fun hb2=>?_)
  ·simp only [decide_eq_true_eq] at hb2
   have hkx:ks[i]? = some ks[i]:=List.getElem?_eq_getElem (by omega)
   generalize ks[i] = kv at hkx
   refine zFZ (hr _ h.tail.tail.tail.tail.tail.tail.tail) hkx ?_
   have hkp:(0:Int) < kinds x.2.f:=by omega
   have hb1:=Int.tmod_lt_of_pos kv hkp
   have hb2:-(kinds x.2.f:Int) < kv.tmod (kinds x.2.f):=by
    have:=Int.tmod_lt_of_pos (-kv) hkp
    rw [Int.neg_tmod] at this
    omega
   refine zDz (by omega) ?_
   refine qP rfl ?_
   have hkeep:(zAG ks i x.2.f:Int) = (kv.tmod (kinds x.2.f) + kinds x.2.f).tmod (kinds x.2.f):=by
    have hnn:=Int.tmod_nonneg (kinds x.2.f:Int) (show 0 ≤ kv.tmod (kinds x.2.f) + kinds x.2.f by omega)
    unfold zAG
    rw [hkx]
    simp only
    omega
   have em:(kv.tmod (kinds x.2.f) + kinds x.2.f).tmod (kinds x.2.f) = (kv.tmod (kinds x.2.f) + kinds x.2.f).emod (kinds x.2.f):=by
    rw [Int.tmod_eq_emod_of_nonneg (by omega)]; rfl
   refine yJ (fun hq=>?_) (fun hq=>?_)
   ·simp only [decide_eq_true_eq] at hq
    refine qP (e':=(zAG ks i x.2.f:Int)) ?_ (main _ h)
    rw [wrap64 (by omega) (by omega),hkeep,em]
    exact (Int.emod_eq_of_lt (by omega) (by omega)).symm
   ·simp only [decide_eq_false_iff_not] at hq
    have e3:kv.tmod (kinds x.2.f) = (zAG ks i x.2.f:Int):=by
     rw [hkeep,em]
     have h9:(kv.tmod (kinds x.2.f) + kinds x.2.f).emod (kinds x.2.f) = (kv.tmod (kinds x.2.f)).emod (kinds x.2.f):=Int.add_emod_right _ _
     rw [h9]
     exact (Int.emod_eq_of_lt (by omega) hb1).symm
    rw [e3]
    exact main _ h
  ·simp only [decide_eq_false_iff_not] at hb2
   have hk0:zAG ks i x.2.f = 0:=by unfold zAG; rw [List.getElem?_eq_none (by omega)]
   rw [hk0] at main
   exact main _ h
 ·simp only [decide_eq_false_iff_not] at hb
  have:i = fs.length:=by omega
  subst this
  rw [List.take_length,hp] at hpo
  replace h:=P2 h
  replace h:=P2 h
  replace h:=P2 h
  replace h:=P5 h
  replace h:=P5 h
  replace h:=P5 h
  try simp only [N1,N2,N3,N4,N5,N6,N7] at h
  have h1:=zk.shuts (M:=M) rfl hp hc h
  replace h:=h1
  replace h:=P3 h
  replace h:=P3 h
  replace h:=P3 h
  try simp only [N1,N2,N3,N4,N5,N6,N7] at h
  exact hk o _ (zk.shuts (M:=⟨oA M.a.room,zCJ ks M.files⟩) rfl hpo hco h)
end
end
section
open Go Go.Sep
structure x9 (D M:zC):Prop where
 a:M.a = D.a
 perm:M.files.Perm D.files
 sort:(M.files.map Prod.fst).Pairwise (· < ·)
theorem zLJ {a b:Files} (h:a.Perm b):yc a = yc b:=by
 induction h with
 | nil=>rfl
 | cons x _ ih=>simp only [yc]; omega
 | swap x y l=>simp only [yc]; omega
 | trans _ _ h1 h2=>exact h1.trans h2
section
variable {D M:zC} {n:List UInt8}
theorem x9.ok (h:x9 D M) (hD:OkD D):OkD M where
 room1:=by rw [h.a]; exact hD.room1
 roomN:=by rw [h.a]; exact hD.roomN
 used:=by rw [h.a,zLJ h.perm]; exact hD.used
 few:=by rw [h.perm.length_eq]; exact hD.few
 left:=by rw [h.a]; exact hD.left
 last:=fun p hp=>hD.last p (h.perm.mem_iff.1 hp)
 nodup:=(h.perm.map Prod.fst).nodup_iff.2 hD.nodup
theorem x9.get (h:x9 D M) (hD:OkD D) (n:List UInt8):zO n M.files = zO n D.files:=by
 have hM:=h.ok hD
 cases hm:zO n D.files with
 | some f=>exact zB2 hM.nodup (h.perm.mem_iff.2 (zA9 hm))
 | none=>
  cases hm2:zO n M.files with
  | none=>rfl
  | some f=>exact absurd rfl (zAj hm _ (h.perm.mem_iff.1 (zA9 hm2)))
theorem zSx {fs:Files} {f g:vK} (hm:zO n fs = some f):(qR n g fs).map Prod.fst = fs.map Prod.fst:=by
 obtain ⟨l1,l2,h1,h2,_⟩:=qw hm
 rw [h2,h1]
 simp
theorem x9.set (h:x9 D M) (hD:OkD D) {f g:vK} {a:DkA} (hm:zO n D.files = some f):x9 ⟨a,qR n g D.files⟩ ⟨a,qR n g M.files⟩:=by
 have hm2:zO n M.files = some f:=by rw [h.get hD,hm]
 refine ⟨rfl,?_,?_⟩
 ·obtain ⟨l1,l2,h1,h2,_⟩:=qw hm
  obtain ⟨r1,r2,g1,g2,_⟩:=qw hm2
  show (qR n g M.files).Perm (qR n g D.files)
  rw [h2,g2]
  have hp:=h.perm
  rw [h1,g1] at hp
  have:=(List.perm_middle.symm.trans hp).trans List.perm_middle
  exact (List.perm_middle.trans ((List.perm_cons _).2 ((List.perm_cons _).1 this))).trans List.perm_middle.symm
 ·show ((qR n g M.files).map Prod.fst).Pairwise _
  rw [zSx hm2]
  exact h.sort
theorem zI0 {A C:Files} (hp:A.Perm C) (hA:(A.map Prod.fst).Nodup) (hC:(C.map Prod.fst).Nodup):(vJ n A).Perm (vJ n C):=by
 cases hm:zO n C with
 | none=>
  have hm2:zO n A = none:=by
   cases hm2:zO n A with
   | none=>rfl
   | some f=>exact absurd rfl (zAj hm _ (hp.mem_iff.1 (zA9 hm2)))
  have e1:vJ n C = C:=by
   rcases zJJ n C with ⟨_,_,h,_⟩ | ⟨j,x,_,_,_,h2,_⟩
   ·exact h
   ·rw [h2] at hm; cases hm
  have e2:vJ n A = A:=by
   rcases zJJ n A with ⟨_,_,h,_⟩ | ⟨j,x,_,_,_,h2,_⟩
   ·exact h
   ·rw [h2] at hm2; cases hm2
  rw [e1,e2]; exact hp
 | some f=>
  have hm2:zO n A = some f:=zB2 hA (hp.mem_iff.2 (zA9 hm))
  obtain ⟨l1,l2,h1,_,h3,_⟩:=qw hm
  obtain ⟨r1,r2,g1,_,g3,_⟩:=qw hm2
  rw [h3,g3]
  rw [h1,g1] at hp
  exact (List.perm_cons _).1 ((List.perm_middle.symm.trans hp).trans List.perm_middle)
theorem zID:∀ fs:Files,(vJ n fs).Sublist fs
 | []=>List.Sublist.refl _
 | p::fs=>by
  unfold vJ
  split
  ·exact List.sublist_cons_self _ _
  ·exact (zID fs).cons_cons _
theorem zPl:∀ {fs:Files},(fs.map Prod.fst).Nodup→∀ p ∈ vJ n fs,p.1 ≠ n
 | [],_,p,hp=>by cases hp
 | q::fs,h,p,hp=>by
  have h2:(q.1::fs.map Prod.fst).Nodup:=h
  obtain ⟨h3,h4⟩:=List.nodup_cons.1 h2
  unfold vJ at hp
  split at hp
  ·rename_i e
   intro e2
   exact h3 (by rw [← e,← e2]; exact List.mem_map_of_mem hp)
  ·rename_i e
   rcases List.mem_cons.1 hp with rfl | hp
   ·exact fun e2=>e e2.symm
   ·exact zPl h4 p hp
theorem zGF {f:vK}:∀ fs:Files,(zGY n f fs).Perm ((n,f)::fs)
 | []=>List.Perm.refl _
 | p::fs=>by
  unfold zGY
  split
  ·exact List.Perm.refl _
  ·exact ((List.perm_cons p).2 (zGF fs)).trans (List.Perm.swap _ _ _)
theorem zI1 {f:vK}:∀ {fs:Files},(fs.map Prod.fst).Pairwise (· < ·)→(∀ p ∈ fs,p.1 ≠ n)→((zGY n f fs).map Prod.fst).Pairwise (· < ·)
 | [],_,_=>List.pairwise_singleton _ _
 | p::fs,h,hn=>by
  have h2:(p.1::fs.map Prod.fst).Pairwise (· < ·):=h
  obtain ⟨h3,h4⟩:=List.pairwise_cons.1 h2
  unfold zGY
  split
  ·rename_i hlt
   refine List.pairwise_cons.2 ⟨fun x hx=>?_,h⟩
   rcases List.mem_cons.1 (show x ∈ p.1::fs.map Prod.fst from hx) with rfl | hx
   ·exact hlt
   ·exact List.lt_trans hlt (h3 x hx)
  ·rename_i hlt
   have ih:=zI1 h4 (f:=f) fun q hq=>hn q (List.mem_cons_of_mem _ hq)
   refine List.pairwise_cons.2 ⟨fun x hx=>?_,ih⟩
   have hx':=(((zGF (n:=n) (f:=f) fs).map Prod.fst).mem_iff).1 hx
   rcases List.mem_cons.1 (show x ∈ n::fs.map Prod.fst from hx') with rfl | hx'
   ·have h5:p.1 ≤ x:=by rw [← List.not_lt]; exact hlt
    rcases List.le_iff_lt_or_eq.1 h5 with h6 | h6
    ·exact h6
    ·exact absurd h6 (hn p List.mem_cons_self)
   ·exact h3 x hx'
theorem zSy {f:vK} (fs:Files):(qR n f fs).Perm ((n,f)::vJ n fs):=by
 cases hm:zO n fs with
 | none=>
  have e1:vJ n fs = fs:=by
   rcases zJJ n fs with ⟨_,_,h,_⟩ | ⟨j,x,_,_,_,h2,_⟩
   ·exact h
   ·rw [h2] at hm; cases hm
  rw [zAV hm,e1]
  exact List.perm_append_comm
 | some g=>
  obtain ⟨l1,l2,h1,h2,h3,_⟩:=qw hm
  rw [h2,h3]
  exact List.perm_middle
theorem zMp {e g:vK}:∀ {fs:Files},(∀ p ∈ fs,p.1 ≠ n)→qR n g (zGY n e fs) = zGY n g fs
 | [],_=>if_pos rfl
 | p::fs,hn=>by
  unfold zGY
  split
  ·exact if_pos rfl
  ·have:n ≠ p.1:=fun e=>hn p List.mem_cons_self e.symm
   show (if n = p.1 then _ else _) = _
   rw [if_neg this,zMp fun q hq=>hn q (List.mem_cons_of_mem _ hq)]
theorem x9.chg (h:x9 D M):x9 ⟨(chg D.a).1,D.files⟩ ⟨(chg M.a).1,M.files⟩:=⟨by rw [h.a],h.perm,h.sort⟩
theorem x9.del (h:x9 D M) (hD:OkD D) {a:DkA}:x9 ⟨a,vJ n D.files⟩ ⟨a,vJ n M.files⟩ :=
 ⟨rfl,zI0 h.perm (h.ok hD).nodup hD.nodup,h.sort.sublist ((zID M.files).map _)⟩
theorem zIE (h:x9 D M) (hD:OkD D):M.read n = D.read n:=by
 unfold zC.read
 rw [h.get hD,h.a]
theorem zPm (h:x9 D M) (hD:OkD D):x9 (D.sync n).1 (M.sync n).1∧(M.sync n).2 = (D.sync n).2:=by
 unfold zC.sync
 rw [h.get hD,h.a]
 split
 ·exact ⟨h,rfl⟩
 cases hm:zO n D.files with
 | none=>exact ⟨h,rfl⟩
 | some f=>
  simp only
  split
  ·exact ⟨h.set hD hm,by first | rfl | trivial⟩
  ·exact ⟨⟨rfl,h.perm,h.sort⟩,by first | rfl | trivial⟩
theorem zLK (h:x9 D M) (hD:OkD D):x9 (D.remove n).1 (M.remove n).1∧(M.remove n).2 = (D.remove n).2:=by
 unfold zC.remove
 rw [h.get hD,h.a]
 split
 ·exact ⟨h,rfl⟩
 cases hm:zO n D.files with
 | none=>exact ⟨h,rfl⟩
 | some f=>
  simp only
  split
  ·exact ⟨h.del hD,by first | rfl | trivial⟩
  ·exact ⟨⟨rfl,h.perm,h.sort⟩,by first | rfl | trivial⟩
theorem zWc {c:Int} (h:x9 D M) (hD:OkD D):x9 (D.cut n c).1 (M.cut n c).1∧(M.cut n c).2 = (D.cut n c).2:=by
 unfold zC.cut
 rw [h.get hD,h.a]
 split
 ·exact ⟨h,rfl⟩
 cases hm:zO n D.files with
 | none=>exact ⟨h,rfl⟩
 | some f=>
  simp only
  split
  ·exact ⟨h,rfl⟩
  ·simp only
   split
   ·exact ⟨h.set hD hm,by first | rfl | trivial⟩
   ·exact ⟨⟨rfl,h.perm,h.sort⟩,by first | rfl | trivial⟩
theorem zQw {n':List UInt8} (h:x9 D M) (hD:OkD D):x9 (D.rename n n').1 (M.zCH n n').1∧(M.zCH n n').2 = (D.rename n n').2:=by
 unfold zC.rename zC.zCH
 rw [h.get hD,h.a]
 split
 ·exact ⟨h,rfl⟩
 cases hm:zO n D.files with
 | none=>exact ⟨h,rfl⟩
 | some f=>
  simp only
  split
  ·exact ⟨h,rfl⟩
  ·simp only
   split
   ·refine ⟨⟨rfl,?_,?_⟩,by first | rfl | trivial⟩
    ·show (zGY n' f (vJ n' (vJ n M.files))).Perm (qR n' f (vJ n D.files))
     refine (zGF _).trans (((List.perm_cons _).2 ?_).trans (zSy _).symm)
     exact zI0 (zI0 h.perm (h.ok hD).nodup hD.nodup) (zDV (h.ok hD).nodup) (zDV hD.nodup)
    ·exact zI1 (h.sort.sublist (((zID _).trans (zID M.files)).map _)) (zPl (zDV (h.ok hD).nodup))
   ·exact ⟨⟨rfl,h.perm,h.sort⟩,by first | rfl | trivial⟩
theorem zLL {x:List UInt8} (h:x9 D M) (hD:OkD D):x9 (D.append n x).1 (M.zCI n x).1∧(M.zCI n x).2 = (D.append n x).2:=by
 unfold zC.append zC.zCI zC.zMn
 rw [h.get hD,h.a,h.perm.length_eq,zLJ h.perm]
 split
 ·exact ⟨h,rfl⟩
 split
 ·exact ⟨h,rfl⟩
 split
 ·exact ⟨h,rfl⟩
 ·cases hm:zO n D.files with
  | none=>
   have hm2:zO n M.files = none:=by rw [h.get hD,hm]
   simp only [if_true,Option.getD_none]
   rw [zMp (zAj hm2)]
   refine ⟨⟨rfl,?_,zI1 h.sort (zAj hm2)⟩,by first | rfl | trivial⟩
   show (zGY n _ M.files).Perm (qR n _ D.files)
   rw [zAV hm]
   exact ((zGF _).trans ((List.perm_cons _).2 h.perm)).trans (List.perm_append_comm (l₁:=[_]))
  | some f=>
   rw [if_neg (by simp)]
   exact ⟨h.set hD hm,by first | rfl | trivial⟩
theorem zI2 (h:x9 D M):D.names = M.files.map Prod.fst:=by
 unfold zC.names
 rw [← zKw (h.perm.map Prod.fst)]
 unfold zCR
 refine List.mergeSort_of_pairwise (h.sort.imp fun hlt=>?_)
 simp only [decide_eq_true_eq]
 exact List.le_of_lt hlt
theorem zSz (h:x9 D M) (hD:OkD D) (ks:List Int):x9 (D.crash ks) ⟨oA M.a.room,zCJ ks M.files⟩:=by
 have e:zCJ ks M.files = (D.crash ks).files:=by
  show _ = jc ks D.file D.names
  unfold zCJ jc
  rw [zI2 h,List.zipIdx_map,List.map_map]
  refine List.map_congr_left fun p hp=>?_
  have hp1:p.1 ∈ M.files:=by
   obtain ⟨⟨q1,q2⟩,i⟩:=p
   have:=List.mem_zipIdx hp
   rw [this.2.2]
   exact List.getElem_mem _
  have hf:D.file p.1.1 = p.1.2:=by
   unfold zC.file
   rw [zB2 hD.nodup (h.perm.mem_iff.1 hp1)]
   rfl
  show _ = (p.1.1,jU ks p.2 (D.file p.1.1))
  rw [hf]
 refine ⟨by show (⟨M.a.room,-1,false⟩:DkA) = ⟨D.a.room,-1,false⟩; rw [h.a],by rw [← e],?_⟩
 rw [show ((⟨oA M.a.room,zCJ ks M.files⟩:zC).files.map Prod.fst) = M.files.map Prod.fst by
  show (zCJ ks M.files).map Prod.fst = _
  rw [e]
  show (jc ks D.file D.names).map Prod.fst = _
  rw [zDO,zI2 h]]
 exact h.sort
theorem zR6 (room:Int):x9 (zC.new room) (zC.new room):=⟨rfl,List.Perm.refl _,List.Pairwise.nil⟩
theorem zS0 {c:Int} (h:x9 D M):x9 { D with a:={ D.a with left:=c } } { M with a:={ M.a with left:=c } }:=⟨by show ({ M.a with left:=c }:DkA) = _; rw [h.a],h.perm,h.sort⟩
end
end
section
open Go Go.Sep
def zLM (b:Bool):BitVec 32:=if b then 1#32 else 0#32
def zQx (r:BitVec 32) (b:Bool):BitVec 32:=zIi (r ^^^ zLM b)
theorem zU6 (s v:BitVec 32):zIi (s ^^^ v) = zIi (s ^^^ zLM (v.getLsbD 0)) ^^^ (v >>> 1):=by
 have hone:∀ x:BitVec 32,(x &&& 1 = 1) ↔ x.getLsbD 0 = true:=by
  intro x
  constructor
  ·intro h
   have:=congrArg (fun y=>BitVec.getLsbD y 0) h
   simpa using this
  ·intro h
   apply BitVec.eq_of_getLsbD_eq
   intro i hi
   rw [BitVec.getLsbD_and]
   by_cases h0:i = 0
   ·subst h0; rw [h]; rfl
   ·have:(1#32).getLsbD i = false:=by
     rw [BitVec.getLsbD_one]; simp [h0]
    show (x.getLsbD i && (1#32).getLsbD i) = (1#32).getLsbD i
    rw [this,Bool.and_false]
 have hb:(s ^^^ v).getLsbD 0 = (s ^^^ zLM (v.getLsbD 0)).getLsbD 0:=by
  rw [BitVec.getLsbD_xor,BitVec.getLsbD_xor]
  congr 1
  cases v.getLsbD 0 <;> rfl
 have hsh:(s ^^^ v) >>> 1 = ((s ^^^ zLM (v.getLsbD 0)) >>> 1) ^^^ (v >>> 1):=by
  apply BitVec.eq_of_getLsbD_eq
  intro i hi
  simp only [BitVec.getLsbD_ushiftRight,BitVec.getLsbD_xor]
  have:(zLM (v.getLsbD 0)).getLsbD (1 + i) = false:=by
   unfold zLM
   split
   ·rw [BitVec.getLsbD_one]; simp
   ·simp
  rw [this,Bool.xor_false]
 unfold zIi
 by_cases h:(s ^^^ v) &&& 1 = 1
 ·rw [if_pos h,if_pos ((hone _).2 (by rw [← hb]; exact (hone _).1 h)),hsh]
  rw [BitVec.xor_assoc,BitVec.xor_assoc]
  congr 1
  exact BitVec.xor_comm _ _
 ·rw [if_neg h,if_neg (fun h2=>h ((hone _).2 (by rw [hb]; exact (hone _).1 h2))),hsh]
def jw (r:BitVec 32) (f:Nat→Bool):Nat→BitVec 32
 | 0=>r
 | n + 1=>zQx (jw r f n) (f n)
theorem zGl (f:Nat→Bool):∀ (n:Nat) (r:BitVec 32),jw r f (n + 1) = jw (zQx r (f 0)) (fun i=>f (i + 1)) n
 | 0,r=>rfl
 | n + 1,r=>by
  rw [jw,zGl f n]
  rfl
theorem zMq:∀ (n:Nat) (r v:BitVec 32),v >>> n = 0#32→zIj n (r ^^^ v) = jw r (fun i=>v.getLsbD i) n
 | 0,r,v,h=>by
  have:v = 0#32:=by simpa using h
  rw [this]
  simp [zIj,jw]
 | n + 1,r,v,h=>by
  rw [zGl,zIj,zU6,zMq n _ (v >>> 1) (by rw [← h,← BitVec.shiftRight_add,Nat.add_comm])]
  congr 1
  funext i
  rw [BitVec.getLsbD_ushiftRight,Nat.add_comm]
theorem zOA (r:BitVec 32) (b:UInt8):zKC r b = jw r (fun i=>b.toNat.testBit i) 8:=by
 unfold zKC
 rw [zMq]
 ·congr 1
 ·apply BitVec.eq_of_toNat_eq
  rw [BitVec.toNat_ushiftRight,BitVec.toNat_setWidth]
  have:=b.toNat_lt
  have e:b.toBitVec.toNat = b.toNat:=rfl
  rw [e,Nat.mod_eq_of_lt (by omega),Nat.shiftRight_eq_div_pow]
  show b.toNat / 2 ^ 8 = 0
  omega
def msg (xs:List UInt8) (j:Nat):Bool:=((xs[j / 8]?).map fun b=>b.toNat.testBit (j % 8)).getD false
theorem zJU (r:BitVec 32) (f:Nat→Bool) (m:Nat):∀ n,jw r f (m + n) = jw (jw r f m) (fun i=>f (m + i)) n
 | 0=>rfl
 | n + 1=>by rw [← Nat.add_assoc,jw,zJU r f m n]; rfl
theorem zGm {r:BitVec 32} {f g:Nat→Bool}:∀ {n:Nat},(∀ i,i < n→f i = g i)→jw r f n = jw r g n
 | 0,_=>rfl
 | n + 1,h=>by rw [jw,jw,zGm (n:=n) (fun i hi=>h i (by omega)),h n (by omega)]
theorem zMr (xs:List UInt8):∀ n,n ≤ xs.length→zEn (xs.take n) = jw 4294967295#32 (msg xs) (8 * n)
 | 0,_=>rfl
 | n + 1,h=>by
  have ih:=zMr xs n (by omega)
  have hn:n < xs.length:=by omega
  have e:zEn (xs.take (n + 1)) = zKC (zEn (xs.take n)) xs[n]:=by
   rw [List.take_succ_eq_append_getElem hn]
   unfold zEn
   rw [List.foldl_append]
   rfl
  rw [e,ih,zOA,show 8 * (n + 1) = 8 * n + 8 by omega,zJU]
  refine zGm fun i hi=>?_
  unfold msg
  have h1:(8 * n + i) / 8 = n:=by omega
  have h2:(8 * n + i) % 8 = i:=by omega
  rw [h1,h2,List.getElem?_eq_getElem hn]
  rfl
def zIF:List Nat:=[32,28,27,26,25,23,22,20,19,18,14,13,11,10,9,8,6,0]
def rest (xs:List UInt8) (i j:Nat):Bool:=msg xs j ^^ (if j - i < 32 then (jw 4294967295#32 (msg xs) i).getLsbD (j - i) else false)
theorem zU7 (s:BitVec 32) (k:Nat) (hk:k < 32):(zIi s).getLsbD k = (s.getLsbD (k + 1) ^^ (s.getLsbD 0 && zIF.any (fun p=>p + k == 31))):=by
 have hpoly:∀ k,k < 32→(2197175160#32).getLsbD k = zIF.any (fun p=>p + k == 31):=by decide
 have hone:(s &&& 1 = 1) ↔ s.getLsbD 0 = true:=by
  constructor
  ·intro h
   have:=congrArg (fun y=>BitVec.getLsbD y 0) h
   simpa using this
  ·intro h
   apply BitVec.eq_of_getLsbD_eq
   intro i hi
   rw [BitVec.getLsbD_and]
   by_cases h0:i = 0
   ·subst h0; rw [h]; rfl
   ·have:(1#32).getLsbD i = false:=by
     rw [BitVec.getLsbD_one]; simp [h0]
    show (s.getLsbD i && (1#32).getLsbD i) = (1#32).getLsbD i
    rw [this,Bool.and_false]
 unfold zIi
 split
 ·rename_i h
  rw [hone.1 h,BitVec.getLsbD_xor,BitVec.getLsbD_ushiftRight,hpoly k hk,Bool.true_and,Nat.add_comm]
 ·rename_i h
  have:s.getLsbD 0 = false:=by
   cases hs:s.getLsbD 0 with
   | false=>rfl
   | true=>exact absurd (hone.2 hs) h
  rw [this,BitVec.getLsbD_ushiftRight,Bool.false_and,Bool.xor_false,Nat.add_comm]
theorem rest_step (xs:List UInt8) (i j:Nat) (hj:i + 1 ≤ j):rest xs (i + 1) j = (rest xs i j ^^ (rest xs i i && zIF.any (fun p=>j + p == i + 32))):=by
 have h0:rest xs i i = (msg xs i ^^ (jw 4294967295#32 (msg xs) i).getLsbD 0):=by unfold rest; simp
 have hb0:∀ r:BitVec 32,∀ b:Bool,(r ^^^ zLM b).getLsbD 0 = (b ^^ r.getLsbD 0):=by
  intro r b
  rw [BitVec.getLsbD_xor]
  cases b <;> simp [zLM]
 have hbk:∀ r:BitVec 32,∀ b:Bool,∀ k,(r ^^^ zLM b).getLsbD (k + 1) = r.getLsbD (k + 1):=by
  intro r b k
  rw [BitVec.getLsbD_xor]
  cases b
  ·simp [zLM]
  ·have:(zLM true).getLsbD (k + 1) = false:=by show (1#32).getLsbD (k + 1) = false; rw [BitVec.getLsbD_one]; simp
   rw [this,Bool.xor_false]
 rw [h0]
 unfold rest
 by_cases hk:j - (i + 1) < 32
 ·rw [if_pos hk,jw,zQx,zU7 _ _ hk,hbk,hb0]
  have e1:j - (i + 1) + 1 = j - i:=by omega
  have e2:(fun p=>p + (j - (i + 1)) == 31) = fun p=>j + p == i + 32:=by
   funext p
   by_cases h:p + (j - (i + 1)) = 31
   ·have:j + p = i + 32:=by omega
    rw [h,this]
    simp
   ·have:¬ j + p = i + 32:=by omega
    rw [beq_eq_false_iff_ne.2 h,beq_eq_false_iff_ne.2 this]
  rw [e1,e2]
  by_cases h32:j - i < 32
  ·rw [if_pos h32,Bool.xor_assoc]
  ·rw [if_neg h32]
   have:(jw 4294967295#32 (msg xs) i).getLsbD (j - i) = false:=BitVec.getLsbD_of_ge _ _ (by omega)
   rw [this,Bool.xor_false,Bool.false_xor]
 ·rw [if_neg hk,if_neg (by omega)]
  have:zIF.any (fun p=>j + p == i + 32) = false:=by
   rw [List.any_eq_false]
   intro p hp
   simp
   omega
  rw [this,Bool.and_false,Bool.xor_false,Bool.xor_false]
end
section
open Go Go.Sep
def zHE (b:Bool):Int:=if b then 1 else 0
def bV (b:Bool):Value:=.int .i64 (zHE b)
def bl (n:Nat) (f:Nat→Bool):List Value:=(List.range n).map fun j=>bV (f j)
theorem zU8 (n:Nat) (f:Nat→Bool):(bl n f).length = n:=by simp [bl]
theorem zWd (n:Nat) (f:Nat→Bool):bl n f++[bV (f n)] = bl (n + 1) f:=by simp [bl,List.range_succ]
theorem zU9 (n:Nat) (f:Nat→Bool) (j:Nat) (b:Bool):(bl n f).set j (bV b) = bl n (fun x=>if x = j then b else f x):=by
 apply List.ext_getElem?
 intro i
 unfold bl
 by_cases hij:j = i
 ·subst hij
  by_cases hl:j < n
  ·rw [List.getElem?_set_self (by simpa using hl)]
   simp [List.getElem?_map,List.getElem?_range hl]
  ·rw [List.getElem?_eq_none (by simp; omega),List.getElem?_eq_none (by simp; omega)]
 ·rw [List.getElem?_set_ne hij,List.getElem?_map,List.getElem?_map]
  cases hr:(List.range n)[i]? with
  | none=>rfl
  | some x=>
   have:x = i:=by
    have h1:=(List.getElem?_eq_some_iff.1 hr)
    obtain ⟨h1,h2⟩:=h1
    simpa using h2.symm
   subst this
   simp [Ne.symm hij]
theorem zLN {n:Nat} {f g:Nat→Bool} (h:∀ j,j < n→f j = g j):bl n f = bl n g:=by
 unfold bl
 exact List.map_congr_left fun j hj=>by rw [h j (List.mem_range.1 hj)]
section
variable {B w:World} {Γ:List zB}
theorem zR7 {s:Sl} {n:Nat} {f:Nat→Bool} {j:Nat} {k:Int→K} (hr:RdC w s 1 (bl n f)) (hj:j < n) (hk:k (zHE (f j)) w):Idx s (j:Int) 1 (fun t=>Ld t (Value.int .i64) k) w:=by
 have e:bl n f = ((List.range n).map fun j=>zHE (f j)).map (Value.int .i64):=by rw [List.map_map]; rfl
 have hr2:RdC w s 1 (((List.range n).map fun j=>zHE (f j)).map (Value.int .i64)):=by rw [← e]; exact hr
 exact zFZ hr2 (by rw [List.getElem?_map,List.getElem?_range hj]; rfl) hk
theorem zPn {g:Sl} {n t:Nat} {f:Nat→Bool} {k:Sl→K} (h:Holds B (SlC j3 1 g (bl n f)::blk t (.cells #[bV (f n)] j3 (0,0))::Γ) w) (hn:n ≤ 10000000)
  (hk:∀ s w,Holds B (SlC j3 1 s (bl (n + 1) f)::Γ) w→k s w):Do Tryz.prog (Builtin.append_ #[zKX,zKX] zKX #[g.val,(Sl.mk (some ⟨t,0,none⟩) 1 1).val]) Sl.val k w:=by
 have h1:=h.zAm.1
 rw [zU8] at h1
 have hr:RdC w ⟨some ⟨t,0,none⟩,1,1⟩ 1 [bV (f n)]:=RdC.zD2 (E:=j3) (b:=t) (n:=1) (vs:=[bV (f n)]) (cs:=#[bV (f n)]) h (List.mem_cons_of_mem _ List.mem_cons_self) rfl rfl 1
 refine zA7 h (by kernel_rfl) (by kernel_rfl) (by':=8) (by kernel_rfl) zBz rfl hr (by simp [qC,bV]) (by simp only; omega) (by decide) fun s' w h _ _=>?_
 rw [zWd] at h
 exact hk _ _ ((h.del 1 at1))
theorem zPo (b:Bool):1 - zHE b = zHE (!b):=by cases b <;> rfl
theorem zYd {xs:List UInt8} {i k:Nat} {x:UInt8} (hx:xs[i]? = some x) (hk:k < 8):msg xs (8 * i + k) = x.toNat.testBit k:=by
 unfold msg
 have h1:(8 * i + k) / 8 = i:=by omega
 have h2:(8 * i + k) % 8 = k:=by omega
 rw [h1,h2,hx]
 rfl
theorem zR8 {xs:List UInt8} {j:Nat} (hj:8 * xs.length ≤ j):msg xs j = false:=by
 unfold msg
 rw [List.getElem?_eq_none (by omega)]
 rfl
theorem zVA (x k:Nat):bitsOf .and .i64 ((x / 2 ^ k:Nat):Int) 1 = zHE (x.testBit k):=by
 have h0:x.testBit k = decide (x / 2 ^ k % 2 = 1):=Nat.testBit_eq_decide_div_mod_eq
 unfold bitsOf
 simp only
 have h1:(BitVec.ofInt (IntKind.bits .i64) ((x / 2 ^ k:Nat):Int) &&& BitVec.ofInt (IntKind.bits .i64) 1).toNat = x / 2 ^ k % 2:=by
  show (BitVec.ofInt 64 ((x / 2 ^ k:Nat):Int) &&& 1#64).toNat = _
  rw [BitVec.toNat_and,BitVec.ofInt_natCast,BitVec.toNat_ofNat]
  have:(1#64).toNat = 2 ^ 1 - 1:=rfl
  rw [this,Nat.and_two_pow_sub_one_eq_mod]
  omega
 rw [h1,wrap64 (by omega) (by omega),h0]
 unfold zHE
 by_cases h:x / 2 ^ k % 2 = 1
 ·rw [h]; simp
 ·have:x / 2 ^ k % 2 = 0:=by omega
  rw [this]; simp
theorem zZv (n:Nat) (k:Nat) (hk:k < 8):zBc .u8 (n:Int) (k:Int) = ((n / 2 ^ k:Nat):Int):=by
 unfold zBc
 have:min ((k:Int).toNat) (IntKind.bits .u8) = k:=by simp [IntKind.bits]; omega
 rw [this,Int.fdiv_eq_ediv_of_nonneg _ (Int.le_of_lt (Int.pow_pos (by decide))),Int.natCast_ediv,Int.natCast_pow]
 rfl
abbrev zQy:List Value:=zIF.map fun p:Nat=>Value.int .i64 (p:Int)
theorem zVB (w:World):(Instr.build zDA [(0,(.int .i64 32)),(1,(.int .i64 28)),(2,(.int .i64 27)),(3,(.int .i64 26)),(4,(.int .i64 25)),(5,(.int .i64 23)),(6,(.int .i64 22)),(7,(.int .i64 20)),(8,(.int .i64 19)),(9,(.int .i64 18)),(10,(.int .i64 14)),(11,(.int .i64 13)),(12,(.int .i64 11)),(13,(.int .i64 10)),(14,(.int .i64 9)),(15,(.int .i64 8)),(16,(.int .i64 6)),(17,(.int .i64 0))].toArray).run Tryz.prog w = .ok (.agg zQy.toArray) w:=by
 rfl
theorem zWe (r:BitVec 32):∀ k,k ≤ 32→(4294967295#32 ^^^ r).toNat % 2 ^ (k + 1) = (4294967295#32 ^^^ r).toNat % 2 ^ k + (if k < 32∧r.getLsbD k = false then 2 ^ k else 0):=by
 intro k hk
 rw [Nat.mod_pow_succ]
 have h1:(4294967295#32 ^^^ r).toNat.testBit k = (decide (k < 32) && !(r.getLsbD k)):=by
  have:(4294967295#32 ^^^ r).toNat.testBit k = (4294967295#32 ^^^ r).getLsbD k:=rfl
  rw [this,BitVec.getLsbD_xor]
  have h2:(4294967295#32).getLsbD k = decide (k < 32):=by
   have:(4294967295#32) = BitVec.allOnes 32:=rfl
   rw [this,BitVec.getLsbD_allOnes]
  rw [h2]
  by_cases h:k < 32
  ·simp [h]
  ·simp [h,BitVec.getLsbD_of_ge r k (by omega)]
 rw [Nat.testBit_eq_decide_div_mod_eq] at h1
 have h3:(4294967295#32 ^^^ r).toNat / 2 ^ k % 2 < 2:=Nat.mod_lt _ (by decide)
 generalize (4294967295#32 ^^^ r).toNat / 2 ^ k % 2 = y at h1 h3
 by_cases h:k < 32∧r.getLsbD k = false
 ·rw [if_pos h]
  have:y = 1:=by
   rw [decide_eq_true h.1,h.2] at h1
   exact of_decide_eq_true h1
  rw [this,Nat.mul_one]
 ·rw [if_neg h]
  have:y = 0:=by
   have h4:(decide (k < 32) && !(r.getLsbD k)) = false:=by
    by_cases hk2:k < 32
    ·cases hr:r.getLsbD k with
     | true=>simp
     | false=>exact absurd ⟨hk2,hr⟩ h
    ·simp [hk2]
   rw [h4] at h1
   have:¬ y = 1:=by simpa using h1
   omega
  rw [this,Nat.mul_zero]
theorem zLO {s:Sl} {xs:List UInt8} {k:Int→K} (hl:xs.length ≤ 100000) (h:Holds B Γ w) (hr:∀ w,Holds B Γ w→RdB w s xs) (hk:∀ w,Holds B Γ w→k ((zKr xs).toNat:Int) w):yS.call s k w:=by
 have hn:xs.length = s.n:=by have:=(hr w h).len; simpa using this
 refine zNx _ _ _ ?_
 unfold yS
 refine xE h ?_
 clear h
 intro t13 w h
 try simp only [zR,Nat.zero_add,Nat.reduceAdd]
 have h0:Holds B (SlC j3 1 ⟨some ⟨t13,0,none⟩,0,0⟩ (bl 0 (msg xs))::Γ) w:=h.imp (zA0 rfl rfl)
 clear h
 refine yM.of (fun t w=>∃ j:Nat,t.2 = (j:Int)∧j ≤ xs.length∧Holds B (SlC j3 1 t.1 (bl (8 * j) (msg xs))::Γ) w) (fun t _=>((s.n:Int) - t.2).toNat) ⟨0,rfl,by omega,h0⟩ ?_
 clear h0
 rintro ⟨g,t⟩ w ⟨j,ht,hj,h⟩
 simp only at ht h
 subst ht
 dsimp only
 unfold yS.b1
 refine yJ (fun hb=>?_) (fun hb=>?_)
 ·simp only [decide_eq_true_eq] at hb
  have hx:xs[j]? = some xs[j]:=List.getElem?_eq_getElem (by omega)
  generalize xs[j] = x at hx
  have hx8:=x.toNat_lt
  refine yM.of (fun t w=>∃ i:Nat,t.2 = (i:Int)∧i ≤ 8∧Holds B (SlC j3 1 t.1 (bl (8 * j + i) (msg xs))::Γ) w) (fun t _=>((8:Int) - t.2).toNat) ⟨0,rfl,by omega,h⟩ ?_
  clear h
  rintro ⟨g,t⟩ w ⟨i,ht,hi,h⟩
  simp only at ht h
  subst ht
  dsimp only
  unfold yS.b2
  refine yJ (fun hb2=>?_) (fun hb2=>?_)
  ·simp only [decide_eq_true_eq] at hb2
   refine zEm (hr w h.tail) hx ?_
   refine qP (xI (by omega) (by omega)) ?_
   refine zDz (by omega) ?_
   refine qP (zZv _ i (by omega)) ?_
   have hq:x.toNat / 2 ^ i ≤ x.toNat:=Nat.div_le_self _ _
   refine qP (wrap64 (Int.le_trans (by decide) (Int.natCast_nonneg _)) (Int.le_trans (Int.ofNat_le.2 hq) (by omega))) ?_
   refine qP (zVA _ _) ?_
   rw [← zYd hx (by omega)]
   refine xE h ?_
   clear h
   intro t34 w h
   try simp only [zR,Nat.zero_add,Nat.reduceAdd]
   refine zPn (f:=msg xs) h.swap (by omega) fun g' w h=>?_
   refine xq (by omega) (by omega) ?_
   exact ⟨⟨i + 1,by simp,by omega,h⟩,by omega⟩
  ·simp only [decide_eq_false_iff_not] at hb2
   have:i = 8:=by omega
   subst this
   refine xq (by omega) (by omega) ?_
   exact ⟨⟨j + 1,by simp,by omega,h⟩,by omega⟩
 simp only [decide_eq_false_iff_not] at hb
 have hjx:j = xs.length:=by omega
 subst hjx
 refine yM.of (fun t w=>∃ i:Nat,t.2 = (i:Int)∧i ≤ 32∧Holds B (SlC j3 1 t.1 (bl (8 * xs.length + i) (msg xs))::Γ) w) (fun t _=>((32:Int) - t.2).toNat) ⟨0,rfl,by omega,h⟩ ?_
 clear h
 rintro ⟨g,t⟩ w ⟨i,ht,hi,h⟩
 simp only at ht h
 subst ht
 dsimp only
 unfold yS.b3
 refine yJ (fun hb2=>?_) (fun hb2=>?_)
 ·simp only [decide_eq_true_eq] at hb2
  refine xE h ?_
  clear h
  intro t41 w h
  try simp only [zR,Nat.zero_add,Nat.reduceAdd]
  have e:(Value.int .i64 0) = bV (msg xs (8 * xs.length + i)):=by rw [zR8 (by omega)]; rfl
  rw [e] at h
  refine zPn (f:=msg xs) h.swap (by omega) fun g' w h=>?_
  refine xq (by omega) (by omega) ?_
  exact ⟨⟨i + 1,by simp,by omega,h⟩,by omega⟩
 simp only [decide_eq_false_iff_not] at hb2
 have hi32:i = 32:=by omega
 subst hi32
 clear hb2 hb hi hj
 obtain ⟨N,hN⟩:∃ N,N = 8 * xs.length + 32:=⟨_,rfl⟩
 rw [← hN] at h
 have hgn:g.n = N:=by have:=h.zAm.1; rw [zU8] at this; omega
 refine yM.of (fun t w=>∃ i:Nat,t = (i:Int)∧i ≤ 32∧Holds B (SlC j3 1 g (bl N (fun j=>msg xs j ^^ decide (j < i)))::Γ) w) (fun t _=>((32:Int) - t).toNat) ⟨0,rfl,by omega,by
  have e:bl N (fun j=>msg xs j ^^ decide (j < 0)) = bl N (msg xs):=zLN fun j _=>by simp
  rw [e]; exact h⟩ ?_
 clear h
 rintro t w ⟨i,rfl,hi,h⟩
 unfold yS.b4
 refine yJ (fun hb2=>?_) (fun hb2=>?_)
 ·simp only [decide_eq_true_eq] at hb2
  refine zR7 (h.rdC List.mem_cons_self) (by omega) ?_
  refine qP (e':=zHE (!(msg xs i ^^ decide (i < i)))) (by rw [← zPo]; exact wrap64 (by unfold zHE; split <;> omega) (by unfold zHE; split <;> omega)) ?_
  refine zRX h (by omega) rfl fun w h=>?_
  refine xq (by omega) (by omega) ?_
  refine ⟨⟨i + 1,by omega,by omega,?_⟩,by omega⟩
  have e:=zU9 N (fun j=>msg xs j ^^ decide (j < i)) i (!(msg xs i ^^ decide (i < i)))
  have e2:bl N (fun x=>if x = i then !(msg xs i ^^ decide (i < i)) else (msg xs x ^^ decide (x < i))) = bl N (fun j=>msg xs j ^^ decide (j < i + 1)):=zLN fun j _=>by
   by_cases hji:j = i
   ·subst hji; simp
   ·rw [if_neg hji]
    by_cases h1:j < i
    ·have:j < i + 1:=by omega
     simp [h1,this]
    ·have:¬ j < i + 1:=by omega
     simp [h1,this]
  rw [← e2,← e]
  exact h
 simp only [decide_eq_false_iff_not] at hb2
 have hi32:i = 32:=by omega
 subst hi32
 clear hb2 hi
 refine ⟨_,fun w=>zVB w,?_⟩
 refine xE h ?_
 clear h
 intro pw w h
 try simp only [zR,Nat.zero_add,Nat.reduceAdd]
 first | refine T0 h rfl ?_ ?_ ?_ ?_ | refine T1 h rfl ?_ ?_ ?_ ?_ | refine T2 h rfl ?_ ?_ ?_ ?_ | refine T3 h rfl ?_ ?_ ?_ ?_ | refine T4 h rfl ?_ ?_ ?_ ?_ | refine T5 h rfl ?_ ?_ ?_ ?_ | refine T6 h rfl ?_ ?_ ?_ ?_ | refine T7 h rfl ?_ ?_ ?_ ?_ | refine T8 h rfl ?_ ?_ ?_ ?_
 ·rfl
 ·rfl
 ·simp [qC]
 clear h
 intro w h
 try simp only [N1,N2,N3,N4,N5,N6,N7] at h
 have e0:bl N (fun j=>msg xs j ^^ decide (j < 32)) = bl N (fun j=>if 0 ≤ j then rest xs 0 j else false):=zLN fun j _=>by
  rw [if_pos (Nat.zero_le _)]
  unfold rest
  have hall:(4294967295#32) = BitVec.allOnes 32:=rfl
  by_cases hj:j < 32
  ·rw [if_pos (by omega)]
   show (msg xs j ^^ decide (j < 32)) = (msg xs j ^^ (4294967295#32).getLsbD (j - 0))
   rw [hall,BitVec.getLsbD_allOnes,Nat.sub_zero]
  ·rw [if_neg (by omega)]; simp [hj]
 rw [e0] at h
 clear e0
 have hpw:∀ p ∈ zIF,p ≤ 32:=by decide
 refine yM.of (fun t w=>∃ (i:Nat) (f:Nat→Bool),t = (i:Int)∧i ≤ 8 * xs.length∧(∀ j,i ≤ j→f j = rest xs i j)∧Holds B (blk pw (.cells zQy.toArray zDA (0,0))::SlC j3 1 g (bl N f)::Γ) w) (fun t _=>((N:Int) - t).toNat)
  ⟨0,_,rfl,by omega,fun j _=>if_pos (Nat.zero_le _),h⟩ ?_
 clear h
 rintro t w ⟨i,f,rfl,hi,hf,h⟩
 unfold yS.b5
 refine xq (by omega) (by omega) ?_
 refine yJ (fun hb=>?_) (fun hb=>?_)
 ·simp only [decide_eq_true_eq] at hb
  have next:∀ w,(∃ f:Nat→Bool,(∀ j,i + 1 ≤ j→f j = rest xs (i + 1) j)∧Holds B (blk pw (.cells zQy.toArray zDA (0,0))::SlC j3 1 g (bl N f)::Γ) w) →
    yS.s6 k (fun _ _ _=>False) (fun _ _ _=>False) (fun _ _=>False) (fun t w=>(∃ (i:Nat) (f:Nat→Bool),t = (i:Int)∧i ≤ 8 * xs.length∧(∀ j,i ≤ j→f j = rest xs i j)∧Holds B (blk pw (.cells zQy.toArray zDA (0,0))::SlC j3 1 g (bl N f)::Γ) w)∧((N:Int) - t).toNat < ((N:Int) - (i:Int)).toNat) g ⟨pw,0,none⟩ (i:Int) w:=by
   rintro w ⟨f,hf,h⟩
   unfold yS.s6
   refine xq (by omega) (by omega) ?_
   exact ⟨⟨i + 1,f,by omega,by omega,hf,h⟩,by omega⟩
  refine zR7 ((h.tail).rdC List.mem_cons_self) (by omega) ?_
  have hfi:=hf i (Nat.le_refl _)
  refine yJ (fun hb2=>?_) (fun hb2=>?_)
  ·simp only [decide_eq_true_eq] at hb2
   have hri:rest xs i i = true:=by
    rw [← hfi]
    cases hfb:f i with
    | true=>rfl
    | false=>rw [hfb] at hb2; exact absurd hb2 (by decide)
   refine yM.of (fun t w=>∃ (q:Nat) (e:Nat→Bool),t = (q:Int)∧q ≤ 18∧(∀ j,i + 1 ≤ j→e j = (rest xs i j ^^ (zIF.take q).any (fun p=>j + p == i + 32)))∧Holds B (blk pw (.cells zQy.toArray zDA (0,0))::SlC j3 1 g (bl N e)::Γ) w) (fun t _=>((18:Int) - t).toNat)
    ⟨0,f,rfl,by omega,fun j hj=>by rw [hf j (by omega)]; simp,h⟩ ?_
   clear h hf hfi hb2
   rintro t w ⟨q,e,rfl,hq,he,h⟩
   unfold yS.b7
   refine yJ (fun hb3=>?_) (fun hb3=>?_)
   ·simp only [decide_eq_true_eq] at hb3
    refine zB8 h ?_
    clear h
    intro w h
    obtain ⟨p,hp⟩:∃ p,zIF[q]? = some p:=⟨_,List.getElem?_eq_getElem (by show q < 18; omega)⟩
    have hp32:=hpw p (List.mem_of_getElem? hp)
    have hpv:zQy.toArray[0 + q * 1]? = some (.int .i64 (p:Int)):=by
     rw [Nat.zero_add,Nat.mul_one,List.getElem?_toArray,List.getElem?_map,hp]; rfl
    refine xq (by omega) (by omega) ?_
    refine ⟨_,by omega,by omega,rfl,?_⟩
    refine xq (by omega) (by omega) ?_
    refine ⟨_,by omega,by omega,rfl,?_⟩
    simp only [Int.toNat_natCast,zR]
    refine xQ (x:=(p:Int)) h rfl (by first | with_reducible exact M0 | with_reducible exact M1 | with_reducible exact M2 | with_reducible exact M3 | with_reducible exact M4 | with_reducible exact M5 | with_reducible exact M6 | with_reducible exact M7 | with_reducible exact M8 | with_reducible exact M9 | with_reducible exact M10 | with_reducible exact M11 | with_reducible exact M12) hpv ?_
    refine qP (e':=((i + 32 - p:Nat):Int)) (by rw [wrap64 (by omega) (by omega)]; omega) ?_
    refine xQ (x:=(p:Int)) h rfl (by first | with_reducible exact M0 | with_reducible exact M1 | with_reducible exact M2 | with_reducible exact M3 | with_reducible exact M4 | with_reducible exact M5 | with_reducible exact M6 | with_reducible exact M7 | with_reducible exact M8 | with_reducible exact M9 | with_reducible exact M10 | with_reducible exact M11 | with_reducible exact M12) hpv ?_
    refine qP (e':=((i + 32 - p:Nat):Int)) (by rw [wrap64 (by omega) (by omega)]; omega) ?_
    refine zR7 ((h.tail).rdC List.mem_cons_self) (by omega) ?_
    refine qP (e':=zHE (!(e (i + 32 - p)))) (by rw [← zPo]; exact wrap64 (by unfold zHE; split <;> omega) (by unfold zHE; split <;> omega)) ?_
    refine zRX h.swap (by omega) rfl fun w h=>?_
    rw [show (Value.int .i64 (zHE (!(e (i + 32 - p))))) = bV (!(e (i + 32 - p))) from rfl,zU9] at h
    refine xq (by omega) (by omega) ?_
    refine ⟨⟨q + 1,_,by omega,by omega,fun j hj=>?_,h.swap⟩,by omega⟩
    have hql:q < zIF.length:=by show q < 18; omega
    have htk:zIF.take (q + 1) = zIF.take q++[p]:=by
     rw [List.take_succ_eq_append_getElem hql]
     have:=(List.getElem?_eq_some_iff.1 hp).2
     rw [this]
    rw [htk,List.any_append]
    by_cases hjp:j = i + 32 - p
    ·rw [if_pos hjp,← hjp,he j hj]
     have hno:(zIF.take q).any (fun p=>j + p == i + 32) = false:=by
      rw [List.any_eq_false]
      intro p' hp' heq
      have h1:p' = p:=by
                  have:j + p' = i + 32:=by simpa using heq
                  omega
      subst h1
      have hdist:∀ q,q < 18→∀ p,zIF[q]? = some p→p ∉ zIF.take q:=by decide
      exact hdist q (by omega) _ hp hp'
     rw [hno]
     have:([p].any fun p=>j + p == i + 32) = true:=by simp; omega
     rw [this]
     cases rest xs i j <;> rfl
    ·rw [if_neg hjp,he j hj]
     have:([p].any fun p=>j + p == i + 32) = false:=by simp; omega
     rw [this,Bool.or_false]
   ·simp only [decide_eq_false_iff_not] at hb3
    have hq18:q = 18:=by omega
    subst hq18
    refine next w ⟨e,fun j hj=>?_,h⟩
    rw [he j hj,rest_step xs i j hj,hri,Bool.true_and]
    rfl
  ·simp only [decide_eq_false_iff_not] at hb2
   have hri:rest xs i i = false:=by
    rw [← hfi]
    cases hfb:f i with
    | false=>rfl
    | true=>rw [hfb] at hb2; exact absurd rfl hb2
   refine next w ⟨f,fun j hj=>?_,h⟩
   rw [hf j (by omega),rest_step xs i j hj,hri,Bool.false_and,Bool.xor_false]
 ·simp only [decide_eq_false_iff_not] at hb
  have hiN:i = 8 * xs.length:=by omega
  subst hiN
  have hfin:∀ q,q < 32→f (8 * xs.length + q) = (zEn xs).getLsbD q:=fun q hq=>by
   rw [hf _ (by omega)]
   unfold rest
   rw [zR8 (by omega),if_pos (by omega)]
   have h1:=zMr xs xs.length (Nat.le_refl _)
   rw [List.take_length] at h1
   rw [← h1,Nat.add_sub_cancel_left,Bool.false_xor]
  refine yM.of (fun t w=>∃ q:Nat,t = ((((zKr xs).toNat % 2 ^ q:Nat):Int),(q:Int))∧q ≤ 32∧Holds B (blk pw (.cells zQy.toArray zDA (0,0))::SlC j3 1 g (bl N f)::Γ) w) (fun t _=>((32:Int) - t.2).toNat) ⟨0,by simp [Nat.mod_one],by omega,h⟩ ?_
  clear h
  rintro t w ⟨q,rfl,hq,h⟩
  dsimp only
  unfold yS.b8
  refine yJ (fun hb2=>?_) (fun hb2=>?_)
  ·simp only [decide_eq_true_eq] at hb2
   have hso:=zWe (zEn xs) q (by omega)
   refine qP (e':=((8 * xs.length:Nat):Int)) (by rw [wrap64 (by omega) (by omega)]; omega) ?_
   refine qP (e':=((8 * xs.length + q:Nat):Int)) (by rw [wrap64 (by omega) (by omega)]; omega) ?_
   refine zR7 ((h.tail).rdC List.mem_cons_self) (by omega) ?_
   rw [hfin q (by omega)]
   refine yJ (fun hb3=>?_) (fun hb3=>?_)
   ·simp only [decide_eq_true_eq] at hb3
    have hz:(zEn xs).getLsbD q = false:=by
     cases hz:(zEn xs).getLsbD q with
     | false=>rfl
     | true=>rw [hz] at hb3; exact absurd hb3 (by decide)
    rw [if_pos ⟨by omega,hz⟩] at hso
    have hp2:2 ^ q ≤ 2 ^ 31:=Nat.pow_le_pow_right (by decide) (by omega)
    have hm:=Nat.mod_lt (zKr xs).toNat (Nat.two_pow_pos q)
    refine qP (xI (by omega) (by omega)) ?_
    refine zDz (by omega) ?_
    refine qP (e':=((2 ^ q:Nat):Int)) ?_ ?_
    ·unfold zFO
     have:min ((q:Int).toNat) (IntKind.bits .u32) = q:=by simp [IntKind.bits]; omega
     rw [this,Int.one_mul]
     have e:((2:Int) ^ q) = ((2 ^ q:Nat):Int):=by rw [Int.natCast_pow]; rfl
     rw [e]
     exact zJv (by omega) (by omega)
    refine qP (e':=(((zKr xs).toNat % 2 ^ (q + 1):Nat):Int)) ?_ ?_
    ·have:(zKr xs).toNat % 2 ^ (q + 1) = (zKr xs).toNat % 2 ^ q + 2 ^ q:=hso
     rw [this,zJv (by omega) (by omega)]
     omega
    unfold yS.s9
    refine xq (by omega) (by omega) ?_
    exact ⟨⟨q + 1,rfl,by omega,h⟩,by omega⟩
   ·simp only [decide_eq_false_iff_not] at hb3
    have hz:¬ (q < 32∧(zEn xs).getLsbD q = false):=fun hz=>by
     rw [hz.2] at hb3; exact hb3 rfl
    rw [if_neg hz,Nat.add_zero] at hso
    unfold yS.s9
    refine xq (by omega) (by omega) ?_
    have e:(zKr xs).toNat % 2 ^ q = (zKr xs).toNat % 2 ^ (q + 1):=hso.symm
    rw [e]
    exact ⟨⟨q + 1,rfl,by omega,h⟩,by omega⟩
  ·simp only [decide_eq_false_iff_not] at hb2
   have hq32:q = 32:=by omega
   subst hq32
   rw [Nat.mod_eq_of_lt (zKr xs).isLt]
   exact hk _ h.tail.tail
end
end
section
open Go Go.Sep
theorem zYe (n:Nat):u8 (n % 256) = u8 n:=by
 apply UInt8.toNat_inj.1
 rw [u8N,u8N]; omega
theorem zPp (b:UInt8):u8 b.toNat = b:=by
 apply UInt8.toNat_inj.1
 rw [u8N]; have:=b.toNat_lt; omega
def zPq (b:List UInt8):List UInt8:=[u8 (zE6 b).toNat,u8 ((zE6 b >>> 8).toNat),u8 ((zE6 b >>> 16).toNat),u8 ((zE6 b >>> 24).toNat)]
theorem zVC (b:List UInt8):∀ k,k < 4→(zPq b)[k]? = some (u8 ((zE6 b >>> (8 * k)).toNat))
 | 0,_=>by simp [zPq]
 | 1,_=>rfl
 | 2,_=>rfl
 | 3,_=>rfl
section
variable {B w:World} {Γ:List zB}
theorem zVD (n d:Nat):Int.tdiv (n:Int) (d:Int) = ((n / d:Nat):Int):=rfl
theorem zR9 (n d:Nat):Int.tmod (n:Int) (d:Int) = ((n % d:Nat):Int):=rfl
theorem zBa {s:Sl} {b:List UInt8} {k:Sl→Int→K} (hl:b.length ≤ 4096) (h:Holds B Γ w) (hr:∀ w,Holds B Γ w→RdB w s b) (hk:∀ f w,Holds B (Bytes zF f (yP b)::Γ) w→k f 0 w):jC.call s k w:=by
 have hn:b.length = s.n:=by have:=(hr w h).len; simpa using this
 refine zK5 _ _ _ ?_
 unfold jC
 refine yH (by simp only [decide_eq_false_iff_not]; omega) ?_
 refine zDz (by decide) ?_
 rw [← hn]
 refine qP (e':=((b.length / 256:Nat):Int)) (by rw [show (256:Int) = ((256:Nat):Int) from rfl,zVD]; exact wrap64 (by omega) (by omega)) ?_
 refine qP (zCB _) ?_
 refine zDz (by decide) ?_
 refine qP (e':=((b.length % 256:Nat):Int)) (by rw [show (256:Int) = ((256:Nat):Int) from rfl,zR9]) ?_
 refine qP (zCB _) ?_
 rw [zYe]
 refine xE h ?_
 clear h
 intro t19 w h
 try simp only [zR,Nat.zero_add,Nat.reduceAdd]
 replace h:=vL (xs:=hd2 b.length) (n:=2) (by rfl) rfl h
 refine xE h ?_
 clear h
 intro t20 w h
 try simp only [zR,Nat.zero_add,Nat.reduceAdd]
 replace h:=vL (xs:=[]) (n:=0) (by rfl) rfl h
 refine zA2 h (Bytes.rd (s:=⟨some ⟨t19,0,none⟩,2,2⟩) (xs:=hd2 b.length) h.tail List.mem_cons_self) (by simp [hd2]) fun t22 w h _ _=>?_
 refine zA2 h (hr _ h.tail.tail) (by simp [hd2]; omega) fun t24 w h _ _=>?_
 simp only [List.nil_append] at h
 refine zLO (by simp [hd2]; omega) h (fun w h=>Bytes.rd h List.mem_cons_self) fun w h=>?_
 replace h:=h.tail
 show yM _ _ w
 refine yM.of (fun t w=>∃ j:Nat,t.2 = (j:Int)∧j ≤ 4∧Holds B (Bytes zF t.1 (hd2 b.length++(zPq b).take j)::Γ) w) (fun t _=>((4:Int) - t.2).toNat) ⟨0,rfl,by omega,by simpa using h⟩ ?_
 clear h
 rintro ⟨g,t⟩ w ⟨j,ht,hj,h⟩
 simp only at ht h
 subst ht
 dsimp only
 unfold jC.b1
 refine yJ (fun hb=>?_) (fun hb=>?_)
 ·simp only [decide_eq_true_eq] at hb
  refine qP (e':=((8 * j:Nat):Int)) (by rw [wrap64 (by omega) (by omega)]; omega) ?_
  refine qP (xI (by omega) (by omega)) ?_
  refine zDz (by omega) ?_
  refine qP (zPH (zE6 b) (8 * j) (by omega)) ?_
  refine qP (zCB _) ?_
  refine xE h ?_
  clear h
  intro t37 w h
  try simp only [zR,Nat.zero_add,Nat.reduceAdd]
  replace h:=vL (xs:=[u8 ((zE6 b >>> (8 * j)).toNat)]) (n:=1) (by rfl) rfl h
  have hsl:((zPq b).take j).length ≤ 4:=by simp; omega
  refine zA2 h.swap (Bytes.rd h List.mem_cons_self) (by simp [hd2]; omega) fun t38 w h _ _=>?_
  refine xq (by omega) (by omega) ?_
  refine ⟨⟨j + 1,by simp,by omega,?_⟩,by omega⟩
  have e:=(List.getElem?_eq_some_iff.1 (zVC b j (by omega))).2
  rw [List.take_succ_eq_append_getElem (by show j < 4; omega),e,← List.append_assoc]
  exact h.del 1 at1
 ·simp only [decide_eq_false_iff_not] at hb
  have:j = 4:=by omega
  subst this
  refine zA2 h (hr _ h.tail) (by simp [hd2,zPq]; omega) fun t41 w h _ _=>?_
  exact hk _ _ h
theorem zBw {s:Sl} {d:List UInt8} {k:Sl→Int→Int→K} (hl:d.length ≤ 100000000) (h:Holds B Γ w) (hr:∀ w,Holds B Γ w→RdB w s d) (hcap:s.n ≤ s.c)
  (hk:∀ f w,Holds B (Bytes zF f (zP d).1::Γ) w→k f ((zP d).2.1:Int) ((zP d).2.2:Int) w):zAL.call s k w:=by
 have hn:d.length = s.n:=by have:=(hr w h).len; simpa using this
 have hempty:∀ (w:World) (t:Nat),Holds B (blk t (.cells #[] zF (0,0))::Γ) w→Holds B (Bytes zF ⟨some ⟨t,0,none⟩,0,0⟩ []::Γ) w:=fun w t h=>vL (xs:=[]) (n:=0) (by rfl) rfl h
 refine zIx _ _ _ ?_
 unfold zAL
 unfold zP at hk
 refine yJ (fun hb=>?_) (fun hb=>?_)
 ·simp only [decide_eq_true_eq] at hb
  rw [if_pos (by omega)] at hk
  refine xE h ?_
  clear h
  intro t11 w h
  try simp only [zR,Nat.zero_add,Nat.reduceAdd]
  exact hk _ _ (hempty _ _ h)
 simp only [decide_eq_false_iff_not] at hb
 rw [if_neg (by omega)] at hk
 have hsp:=zF9 (hr w h) (fun e=>by rw [e] at hn; simp at hn; omega)
 refine zB8 h ?_
 clear h
 intro w h
 have h0:d[0]? = some (d.getD 0 0):=by
  have:0 < d.length:=by omega
  simp [List.getD,List.getElem?_eq_getElem this]
 have h1:d[1]? = some (d.getD 1 0):=by
  have:1 < d.length:=by omega
  simp [List.getD,List.getElem?_eq_getElem this]
 have hx:=(d.getD 0 0).toNat_lt
 have hy:=(d.getD 1 0).toNat_lt
 generalize d.getD 0 0 = x at h0 hx hk
 generalize d.getD 1 0 = y at h1 hy hk
 refine zEm (j:=0) (hr w h) h0 ?_
 refine qP (wrap64 (by omega) (by omega)) ?_
 refine qP (wrap64 (by omega) (by omega)) ?_
 refine zEm (j:=1) (hr w h) h1 ?_
 refine qP (wrap64 (by omega) (by omega)) ?_
 refine qP (e':=((256 * x.toNat + y.toNat:Nat):Int)) (by rw [wrap64 (by omega) (by omega)]; omega) ?_
 generalize 256 * x.toNat + y.toNat = n at hk
 simp only at hk
 refine yJ (fun hb2=>?_) (fun hb2=>?_)
 ·simp only [decide_eq_true_eq] at hb2
  rw [if_pos (by omega)] at hk
  refine xE h ?_
  clear h
  intro t24 w h
  try simp only [zR,Nat.zero_add,Nat.reduceAdd]
  exact hk _ _ (hempty _ _ h)
 simp only [decide_eq_false_iff_not] at hb2
 rw [if_neg (by omega)] at hk
 refine qP (wrap64 (by omega) (by omega)) ?_
 refine yJ (fun hb3=>?_) (fun hb3=>?_)
 ·simp only [decide_eq_true_eq] at hb3
  rw [if_pos (by omega)] at hk
  refine xE h ?_
  clear h
  intro t30 w h
  try simp only [zR,Nat.zero_add,Nat.reduceAdd]
  exact hk _ _ (hempty _ _ h)
 simp only [decide_eq_false_iff_not] at hb3
 rw [if_neg (by omega)] at hk
 refine qP (e':=((6 + n:Nat):Int)) (by rw [wrap64 (by omega) (by omega)]; omega) ?_
 refine ⟨_,by omega,by omega,by omega,by omega,rfl,?_⟩
 simp only [Int.toNat_natCast,show (6:Int).toNat = 6 from rfl]
 have hd6:∀ w,Holds B Γ w→RdB w ⟨zAB s.a 6 s.c 1,6 + n - 6,s.c - 6⟩ ((d.drop 6).take n):=fun w h=>by
  have h1:=(hr w h).drop (l:=6) (c:=s.c) (by omega) hcap hsp
  have h2:=h1.take (m:=n) (c:=s.c - 6) (by simp only; omega)
  have e:6 + n - 6 = n:=by omega
  rw [e]
  show RdC w _ 1 (((d.drop 6).take n).map qy)
  rw [List.map_take,List.map_drop]
  simpa using h2
 have hdl:((d.drop 6).take n).length = n:=by simp; omega
 refine zBa (b:=(d.drop 6).take n) (by omega) h hd6 fun f w h=>?_
 refine zB8 h ?_
 clear h
 intro w h
 refine zML (by kernel_rfl) (Bytes.rd h List.mem_cons_self) ?_
 refine qP (e':=((6 + n:Nat):Int)) (by rw [wrap64 (by omega) (by omega)]; omega) ?_
 refine ⟨_,by omega,by omega,by omega,by omega,rfl,?_⟩
 simp only [Int.toNat_natCast,show (0:Int).toNat = 0 from rfl,zKc hsp,Nat.sub_zero]
 have ht:RdB w ⟨s.a,6 + n,s.c⟩ (d.take (6 + n)):=by
  have h1:=(hr w h.tail).take (m:=6 + n) (c:=s.c) (by omega)
  show RdC w _ 1 ((d.take (6 + n)).map qy)
  rw [List.map_take]
  simpa using h1
 refine zML (by kernel_rfl) ht ?_
 rw [uT,uT]
 by_cases he:yP ((d.drop 6).take n) = d.take (6 + n)
 ·rw [if_pos he] at hk
  refine yH (by rw [he]; simp) ?_
  refine xE h ?_
  clear h
  intro t48 w h
  try simp only [zR,Nat.zero_add,Nat.reduceAdd]
  replace h:=vL (xs:=[]) (n:=0) (by rfl) rfl h
  refine qP (e':=((6 + n:Nat):Int)) (by rw [wrap64 (by omega) (by omega)]; omega) ?_
  refine ⟨_,by omega,by omega,by omega,by omega,rfl,?_⟩
  simp only [Int.toNat_natCast,show (6:Int).toNat = 6 from rfl]
  refine zA2 h (hd6 _ h.tail.tail) (by rw [hdl]; simp; omega) fun t53 w h _ _=>?_
  refine qP (e':=((6 + n:Nat):Int)) (by rw [wrap64 (by omega) (by omega)]; omega) ?_
  exact hk _ _ (h.del 1 at1)
 ·rw [if_neg he] at hk
  refine qO (by simp [he]) ?_
  refine xE h ?_
  clear h
  intro t47 w h
  try simp only [zR,Nat.zero_add,Nat.reduceAdd]
  exact hk _ _ (hempty _ _ (h.del 1 at1))
end
end
section
open Go Go.Sep
section
variable {B w:World} {Γ:List zB}
theorem zLP {n:Nat} {k:Sl→K} (hl:n ≤ 1000000) (h:Holds B Γ w) (hk:∀ s w,Holds B (Bytes zF s (vM n)::Γ) w→k s w):uK.call (n:Int) k w:=by
 refine zH1 _ _ _ ?_
 unfold uK
 refine xE h ?_
 clear h
 intro t5 w h
 try simp only [zR,Nat.zero_add,Nat.reduceAdd]
 replace h:=vL (xs:=[]) (n:=0) (by rfl) rfl h
 refine yM.of (fun t w=>∃ (m:Nat) (ys:List UInt8),t.2 = (m:Int)∧vM n = ys++vM m∧ys.length + m ≤ 1000000∧Holds B (Bytes zF t.1 ys::Γ) w) (fun t _=>t.2.toNat) ⟨n,[],rfl,rfl,by simp; omega,h⟩ ?_
 clear h
 rintro ⟨g,t⟩ w ⟨m,ys,ht,he,hm,h⟩
 simp only at ht h
 subst ht
 dsimp only
 unfold uK.b1
 refine yJ (fun hb=>?_) (fun hb=>?_)
 ·simp only [decide_eq_true_eq] at hb
  refine zDz (by decide) ?_
  refine qP (e':=((m % 128:Nat):Int)) (by rw [show (128:Int) = ((128:Nat):Int) from rfl,zR9]) ?_
  refine qP (e':=((m % 128 + 128:Nat):Int)) (by rw [xI (by omega) (by omega)]; omega) ?_
  refine qP (zCB _) ?_
  refine xE h ?_
  clear h
  intro t14 w h
  try simp only [zR,Nat.zero_add,Nat.reduceAdd]
  replace h:=vL (xs:=[u8 (m % 128 + 128)]) (n:=1) (by rfl) rfl h
  refine zA2 h.swap (Bytes.rd h List.mem_cons_self) (by simp; omega) fun t15 w h _ _=>?_
  refine zDz (by decide) ?_
  refine qP (e':=((m / 128:Nat):Int)) (by rw [show (128:Int) = ((128:Nat):Int) from rfl,zVD]; exact xI (by omega) (by omega)) ?_
  refine ⟨⟨m / 128,ys++[u8 (m % 128 + 128)],rfl,?_,by simp; omega,h.del 1 at1⟩,by omega⟩
  rw [he,zAt (by omega)]
  simp
 ·simp only [decide_eq_false_iff_not] at hb
  refine qP (zCB _) ?_
  refine xE h ?_
  clear h
  intro t21 w h
  try simp only [zR,Nat.zero_add,Nat.reduceAdd]
  replace h:=vL (xs:=[u8 m]) (n:=1) (by rfl) rfl h
  refine zA2 h.swap (Bytes.rd h List.mem_cons_self) (by simp; omega) fun t15 w h _ _=>?_
  refine hk t15 _ ?_
  rw [he,u7 (by omega)]
  exact h.del 1 at1
end
end
section
open Go Go.Sep
theorem zEy:∀ (n:Nat),∃ l b,vM n = l++[b]∧(∀ x ∈ l,128 ≤ x.toNat)∧b.toNat < 128∧(b.toNat ≠ 0∨l = []):=by
 intro n
 induction n using Nat.strongRecOn with
 | _ n ih=>
  by_cases hn:n < 128
  ·exact ⟨[],u8 n,by rw [u7 hn]; rfl,by simp,by rw [u8N]; omega,.inr rfl⟩
  ·obtain ⟨l,b,h1,h2,h3,h4⟩:=ih (n / 128) (by omega)
   refine ⟨u8 (n % 128 + 128)::l,b,by rw [zAt hn,h1]; rfl,?_,h3,?_⟩
   ·intro x hx
    rcases List.mem_cons.1 hx with rfl | hx
    ·rw [u8N]; omega
    ·exact h2 x hx
   ·left
    rcases h4 with h4 | h4
    ·exact h4
    ·subst h4
     intro h0
     have hb:b = u8 0:=UInt8.toNat_inj.1 (by rw [h0]; rfl)
     have h5:vM (n / 128) = vM 0:=by rw [h1,hb,u7 (by decide:0 < 128)]; rfl
     have:=zKu _ _ h5
     omega
def zCa:List UInt8→Nat
 | []=>0
 | b::l=>b.toNat % 128 + 128 * zCa l
theorem zMs:∀ (l:List UInt8) (b:UInt8),zCa (l++[b]) = zCa l + b.toNat % 128 * 128 ^ l.length
 | [],b=>by simp [zCa]
 | x::l,b=>by
  have ih:=zMs l b
  simp only [List.cons_append,zCa,ih,List.length_cons,Nat.pow_succ]
  rw [Nat.mul_add,← Nat.add_assoc]
  congr 1
  rw [Nat.mul_comm 128,Nat.mul_assoc]
theorem zSA:∀ l:List UInt8,zCa l < 128 ^ l.length
 | []=>by simp [zCa]
 | x::l=>by
  have ih:=zSA l
  simp only [zCa,List.length_cons,Nat.pow_succ]
  have:=Nat.mod_lt x.toNat (show 0 < 128 by decide)
  omega
theorem zPr:∀ (l:List UInt8) (b:UInt8),(∀ x ∈ l,128 ≤ x.toNat)→b.toNat < 128→(b.toNat ≠ 0∨l = [])→vM (zCa l + b.toNat * 128 ^ l.length) = l++[b]
 | [],b,_,hb,_=>by
  simp only [zCa,List.length_nil,Nat.pow_zero,Nat.mul_one,Nat.zero_add]
  rw [u7 hb,zPp]
  rfl
 | x::l,b,hx,hb,h0=>by
  have hb0:b.toNat ≠ 0:=h0.resolve_right (by simp)
  have ih:=zPr l b (fun y hy=>hx y (List.mem_cons_of_mem _ hy)) hb (.inl hb0)
  have hpos:1 ≤ b.toNat * 128 ^ l.length:=Nat.mul_pos (by omega) (Nat.pow_pos (by decide))
  have e:zCa (x::l) + b.toNat * 128 ^ (x::l).length = x.toNat % 128 + 128 * (zCa l + b.toNat * 128 ^ l.length):=by
   simp only [zCa,List.length_cons,Nat.pow_succ]
   rw [Nat.mul_add,← Nat.add_assoc]
   congr 1
   rw [← Nat.mul_assoc,Nat.mul_comm 128]
  have hx1:=hx x List.mem_cons_self
  have hx2:=x.toNat_lt
  generalize hM:zCa l + b.toNat * 128 ^ l.length = M at ih e
  rw [e,zAt (by omega)]
  have e1:(x.toNat % 128 + 128 * M) % 128 + 128 = x.toNat:=by omega
  have e2:(x.toNat % 128 + 128 * M) / 128 = M:=by omega
  rw [e1,e2,zPp,ih]
  rfl
section
variable {B w:World} {Γ:List zB}
abbrev zLz (s:Sl) (i:Nat):Array Value:=#[s.val,.int .i64 (i:Int)]
theorem zHF {e:Nat} {s:Sl} {hs:List UInt8} {k:Int→Int→K} (hl:hs.length ≤ 100000) (h:Holds B (blk e (.cells (zLz s 0) xG (0,0))::Γ) w) (hr:∀ w,Holds B Γ w→RdB w s hs)
  (hok:∀ (n m:Nat) w,hs.take m = vM n→m ≤ hs.length→n < 18446744073709551616→Holds B (blk e (.cells (zLz s m) xG (0,0))::Γ) w→k n 0 w)
  (hno:∀ (c:Int) w,c ≠ 0→(∀ n,n ≤ 1000000→hs ≠ vM n)→Holds B (blk e (.cells (zLz s 0) xG (0,0))::Γ) w→k 0 c w):zf.call (some ⟨e,0,none⟩) k w:=by
 have hn:hs.length = s.n:=by have:=(hr w h.tail).len; simpa using this
 refine zEY _ _ _ ?_
 unfold zf
 refine yM.of (fun t w=>∃ j:Nat,t = ((zCa (hs.take j):Int),((128 ^ j:Nat):Int),(j:Int))∧j ≤ 9∧j ≤ hs.length∧(∀ x ∈ hs.take j,128 ≤ x.toNat)∧Holds B (blk e (.cells (zLz s 0) xG (0,0))::Γ) w) (fun t _=>((10:Int) - t.2.2).toNat)
  ⟨0,rfl,by omega,by omega,by simp,h⟩ ?_
 clear h
 rintro t w ⟨j,rfl,hj9,hjl,hall,h⟩
 dsimp only
 unfold zf.b1
 refine zB8 h ?_
 clear h
 intro w h
 refine zAZ rfl ?_
 try simp only [zR,Nat.zero_add,Nat.reduceAdd]
 refine xQ (x:=(0:Int)) h rfl (by first | with_reducible exact M0 | with_reducible exact M1 | with_reducible exact M2 | with_reducible exact M3 | with_reducible exact M4 | with_reducible exact M5 | with_reducible exact M6 | with_reducible exact M7 | with_reducible exact M8 | with_reducible exact M9 | with_reducible exact M10 | with_reducible exact M11 | with_reducible exact M12) ?_ ?_
 ·exact rfl
 refine xq (by omega) (by omega) ?_
 refine xQ (x:=s) h rfl (by first | with_reducible exact M0 | with_reducible exact M1 | with_reducible exact M2 | with_reducible exact M3 | with_reducible exact M4 | with_reducible exact M5 | with_reducible exact M6 | with_reducible exact M7 | with_reducible exact M8 | with_reducible exact M9 | with_reducible exact M10 | with_reducible exact M11 | with_reducible exact M12) ?_ ?_
 ·exact rfl
 refine yJ (fun hb=>?_) (fun hb=>?_)
 ·simp only [decide_eq_true_eq] at hb
  have hx:hs[j]? = some hs[j]:=List.getElem?_eq_getElem (by omega)
  generalize hX:hs[j] = x at hx
  have hx8:=x.toNat_lt
  refine zB8 h ?_
  clear h
  intro w h
  try simp only [zR,Nat.zero_add,Nat.reduceAdd]
  refine xQ (x:=s) h rfl (by first | with_reducible exact M0 | with_reducible exact M1 | with_reducible exact M2 | with_reducible exact M3 | with_reducible exact M4 | with_reducible exact M5 | with_reducible exact M6 | with_reducible exact M7 | with_reducible exact M8 | with_reducible exact M9 | with_reducible exact M10 | with_reducible exact M11 | with_reducible exact M12) ?_ ?_
  ·exact rfl
  refine xQ (x:=(0:Int)) h rfl (by first | with_reducible exact M0 | with_reducible exact M1 | with_reducible exact M2 | with_reducible exact M3 | with_reducible exact M4 | with_reducible exact M5 | with_reducible exact M6 | with_reducible exact M7 | with_reducible exact M8 | with_reducible exact M9 | with_reducible exact M10 | with_reducible exact M11 | with_reducible exact M12) ?_ ?_
  ·exact rfl
  refine xq (by omega) (by omega) ?_
  rw [Int.zero_add]
  refine zEm (hr w h.tail) hx ?_
  refine qP (xI (by omega) (by omega)) ?_
  have hbad:∀ n,n ≤ 1000000→hs = vM n→j < 3:=fun n hn2 he=>by
   have:=xO 2 n (by omega)
   rw [← he] at this
   omega
  have hs3:∀ (b:Bool),(b = true→k 0 31 w)→(b = false→zf.s2 k (fun n4_1 weight5_1 k6_1 w'=>(∃ j:Nat,(n4_1,weight5_1,k6_1) = ((zCa (hs.take j):Int),((128 ^ j:Nat):Int),(j:Int))∧j ≤ 9∧j ≤ hs.length∧(∀ x ∈ hs.take j,128 ≤ x.toNat)∧Holds B (blk e (.cells (zLz s 0) xG (0,0))::Γ) w')∧((10:Int) - k6_1).toNat < ((10:Int) - (j:Int)).toNat) ⟨e,0,none⟩ (zCa (hs.take j):Int) ((128 ^ j:Nat):Int) (j:Int) (x.toNat:Int) false w) →
    zf.s2 k (fun n4_1 weight5_1 k6_1 w'=>(∃ j:Nat,(n4_1,weight5_1,k6_1) = ((zCa (hs.take j):Int),((128 ^ j:Nat):Int),(j:Int))∧j ≤ 9∧j ≤ hs.length∧(∀ x ∈ hs.take j,128 ≤ x.toNat)∧Holds B (blk e (.cells (zLz s 0) xG (0,0))::Γ) w')∧((10:Int) - k6_1).toNat < ((10:Int) - (j:Int)).toNat) ⟨e,0,none⟩ (zCa (hs.take j):Int) ((128 ^ j:Nat):Int) (j:Int) (x.toNat:Int) b w:=by
   intro b h1 h2
   cases b with
   | false=>exact h2 rfl
   | true=>exact qO rfl (h1 rfl)
  have main:(j = 9→x.toNat ≤ 1)→zf.s2 k (fun n4_1 weight5_1 k6_1 w'=>(∃ j:Nat,(n4_1,weight5_1,k6_1) = ((zCa (hs.take j):Int),((128 ^ j:Nat):Int),(j:Int))∧j ≤ 9∧j ≤ hs.length∧(∀ x ∈ hs.take j,128 ≤ x.toNat)∧Holds B (blk e (.cells (zLz s 0) xG (0,0))::Γ) w')∧((10:Int) - k6_1).toNat < ((10:Int) - (j:Int)).toNat) ⟨e,0,none⟩ (zCa (hs.take j):Int) ((128 ^ j:Nat):Int) (j:Int) (x.toNat:Int) false w:=by
   intro h91
   have htl:(hs.take j).length = j:=by rw [List.length_take]; omega
   have hv:=zSA (hs.take j)
   rw [htl] at hv
   have hsn:=zMs (hs.take j) x
   rw [htl] at hsn
   have htk:hs.take j++[x] = hs.take (j + 1):=by rw [List.take_succ_eq_append_getElem (by omega),hX]
   have hp9:128 ^ j ≤ 9223372036854775808:=by
    have:=Nat.pow_le_pow_right (show 0 < 128 by decide) hj9
    exact Nat.le_trans this (by decide)
   have hprod:x.toNat % 128 * 128 ^ j ≤ 9223372036854775808:=by
    by_cases h9:j = 9
    ·have h1:=h91 h9
     have h2:x.toNat % 128 ≤ 1:=by omega
     calc x.toNat % 128 * 128 ^ j ≤ 1 * 128 ^ j:=Nat.mul_le_mul_right _ h2
      _ ≤ 9223372036854775808:=by omega
    ·have h8:128 ^ j ≤ 72057594037927936:=by
      have:=Nat.pow_le_pow_right (show 0 < 128 by decide) (show j ≤ 8 by omega)
      exact Nat.le_trans this (by decide)
     have h2:x.toNat % 128 ≤ 127:=by omega
     calc x.toNat % 128 * 128 ^ j ≤ 127 * 72057594037927936:=Nat.mul_le_mul h2 h8
      _ ≤ 9223372036854775808:=by decide
   unfold zf.s2
   refine yH rfl ?_
   refine zDz (by decide) ?_
   refine qP (e':=((x.toNat % 128:Nat):Int)) (by rw [show (128:Int) = ((128:Nat):Int) from rfl,zR9]) ?_
   refine qP (e':=((x.toNat % 128 * 128 ^ j:Nat):Int)) (by
    rw [← Int.natCast_mul]
    exact xI (Int.natCast_nonneg _) (Int.le_trans (Int.ofNat_le.2 hprod) (by decide))) ?_
   refine qP (e':=((zCa (hs.take (j + 1)):Nat):Int)) (by
    rw [← htk,hsn,← Int.natCast_add]
    refine xI (Int.natCast_nonneg _) (Int.le_trans (Int.ofNat_le.2 (show zCa (hs.take j) + x.toNat % 128 * 128 ^ j ≤ 18446744073709551615 by omega)) (by decide))) ?_
   refine qP rfl ?_
   have hfinal:x.toNat < 128→(x.toNat ≠ 0∨j = 0)→hs.take (j + 1) = vM (zCa (hs.take (j + 1))):=fun h1 h2=>by
    have h3:=zPr (hs.take j) x hall h1 (h2.imp id (fun e=>by rw [e]; rfl))
    rw [htl] at h3
    rw [← htk,hsn,Nat.mod_eq_of_lt h1]
    exact h3.symm
   refine yJ (fun hb2=>?_) (fun hb2=>?_)
   ·simp only [decide_eq_true_eq] at hb2
    have good:(x.toNat ≠ 0∨j = 0)→∀ b,b = false→zf.s3 k (fun n4_1 weight5_1 k6_1 w'=>(∃ j:Nat,(n4_1,weight5_1,k6_1) = ((zCa (hs.take j):Int),((128 ^ j:Nat):Int),(j:Int))∧j ≤ 9∧j ≤ hs.length∧(∀ x ∈ hs.take j,128 ≤ x.toNat)∧Holds B (blk e (.cells (zLz s 0) xG (0,0))::Γ) w')∧((10:Int) - k6_1).toNat < ((10:Int) - (j:Int)).toNat) ⟨e,0,none⟩ ((zCa (hs.take (j + 1)):Nat):Int) (j:Int) b w:=by
     intro h2 b hbf
     subst hbf
     unfold zf.s3
     refine yH rfl ?_
     try simp only [zR,Nat.zero_add,Nat.reduceAdd]
     refine xQ (x:=(0:Int)) h rfl (by first | with_reducible exact M0 | with_reducible exact M1 | with_reducible exact M2 | with_reducible exact M3 | with_reducible exact M4 | with_reducible exact M5 | with_reducible exact M6 | with_reducible exact M7 | with_reducible exact M8 | with_reducible exact M9 | with_reducible exact M10 | with_reducible exact M11 | with_reducible exact M12) ?_ ?_
     ·exact rfl
     refine xq (by omega) (by omega) ?_
     refine qP (e':=((j + 1:Nat):Int)) (by rw [wrap64 (by omega) (by omega)]; omega) ?_
     first | refine S0 h rfl ?_ rfl ?_ | refine S1 h rfl ?_ rfl ?_ | refine S2 h rfl ?_ rfl ?_ | refine S3 h rfl ?_ rfl ?_ | refine S4 h rfl ?_ rfl ?_ | refine S5 h rfl ?_ rfl ?_ | refine S6 h rfl ?_ rfl ?_ | refine S7 h rfl ?_ rfl ?_ | refine S8 h rfl ?_ rfl ?_
     ·first | exact Nat.lt_of_ble_eq_true rfl | (simp; done) | (simp; omega)
     clear h
     intro w h
     try simp only [N1,N2,N3,N4,N5,N6,N7] at h
     have hvl:zCa (hs.take (j + 1)) ≤ 18446744073709551615:=by rw [← htk,hsn]; omega
     exact hok _ (j + 1) _ (hfinal (by omega) h2) (by omega) (by omega) h
    refine yJ (fun hb3=>?_) (fun hb3=>?_)
    ·simp only [decide_eq_true_eq] at hb3
     by_cases hj0:j = 0
     ·exact good (.inr hj0) _ (by subst hj0; rfl)
     ·unfold zf.s3
      refine qO (by simp only [decide_eq_true_eq]; omega) ?_
      refine hno 31 _ (by decide) (fun n hn2 he=>?_) h
      obtain ⟨l,b,h1,h2,h3,h4⟩:=zEy n
      rw [he,h1] at hx
      by_cases hjl2:j < l.length
      ·rw [List.getElem?_append_left hjl2] at hx
       have:=h2 x (List.mem_of_getElem? hx)
       omega
      ·have hlen:hs.length = l.length + 1:=by rw [he,h1]; simp
       have:j = l.length:=by omega
       rw [this,List.getElem?_append_right (Nat.le_refl _)] at hx
       simp only [Nat.sub_self,List.getElem?_cons_zero,Option.some.injEq] at hx
       subst hx
       rcases h4 with h4 | h4
       ·omega
       ·rw [h4] at this; exact hj0 this
    ·simp only [decide_eq_false_iff_not] at hb3
     exact good (.inl (by omega)) _ rfl
   ·simp only [decide_eq_false_iff_not] at hb2
    refine xq (by omega) (by omega) ?_
    have hj8:j ≤ 8:=by
     by_cases h9:j = 9
     ·have:=h91 h9; omega
     ·omega
    refine ⟨⟨j + 1,?_,by omega,by omega,fun y hy=>?_,h⟩,by omega⟩
    ·have hp8:128 ^ j * 128 ≤ 9223372036854775808:=by
      rw [← Nat.pow_succ]
      have:=Nat.pow_le_pow_right (show 0 < 128 by decide) (show j + 1 ≤ 9 by omega)
      exact Nat.le_trans this (by decide)
     have e:IntKind.wrap .u64 (((128 ^ j:Nat):Int) * 128) = ((128 ^ (j + 1):Nat):Int):=by
      rw [show ((128 ^ j:Nat):Int) * 128 = ((128 ^ j * 128:Nat):Int) from rfl,Nat.pow_succ]
      exact xI (Int.natCast_nonneg _) (Int.le_trans (Int.ofNat_le.2 hp8) (by decide))
     rw [e]
     rfl
    ·rw [← htk] at hy
     rcases List.mem_append.1 hy with hy | hy
     ·exact hall y hy
     ·simp only [List.mem_singleton] at hy; subst hy; omega
  refine yJ (fun hb9=>?_) (fun hb9=>?_)
  ·simp only [decide_eq_true_eq] at hb9
   refine hs3 _ (fun ht=>?_) (fun hf=>?_)
   ·simp only [decide_eq_true_eq] at ht
    exact hno 31 _ (by decide) (fun n hn2 he=>by have:=hbad n hn2 he; omega) h
   ·simp only [decide_eq_false_iff_not] at hf
    exact main (fun _=>by omega)
  ·simp only [decide_eq_false_iff_not] at hb9
   exact main (fun h9=>by omega)
 ·simp only [decide_eq_false_iff_not] at hb
  refine hno 30 _ (by decide) (fun n hn2 he=>?_) h
  obtain ⟨l,b,h1,h2,h3,h4⟩:=zEy n
  have htk:hs.take j = hs:=List.take_of_length_le (by omega)
  rw [htk] at hall
  have:=hall b (by rw [he,h1]; simp)
  omega
theorem zHG {e i:Nat} {s:Sl} {k:Int→K} (h:Holds B (blk e (.cells (zLz s i) xG (0,0))::Γ) w)
  (hk:∀ w,Holds B (blk e (.cells (zLz s i) xG (0,0))::Γ) w→k (if i < s.n then 32 else 0) w):uf.call (some ⟨e,0,none⟩) k w:=by
 refine zEZ _ _ _ ?_
 unfold uf
 refine zB8 h ?_
 clear h
 intro w h
 refine zAZ rfl ?_
 try simp only [zR,Nat.zero_add,Nat.reduceAdd]
 refine xQ (x:=(i:Int)) h rfl (by first | with_reducible exact M0 | with_reducible exact M1 | with_reducible exact M2 | with_reducible exact M3 | with_reducible exact M4 | with_reducible exact M5 | with_reducible exact M6 | with_reducible exact M7 | with_reducible exact M8 | with_reducible exact M9 | with_reducible exact M10 | with_reducible exact M11 | with_reducible exact M12) ?_ ?_
 ·exact rfl
 refine xQ (x:=s) h rfl (by first | with_reducible exact M0 | with_reducible exact M1 | with_reducible exact M2 | with_reducible exact M3 | with_reducible exact M4 | with_reducible exact M5 | with_reducible exact M6 | with_reducible exact M7 | with_reducible exact M8 | with_reducible exact M9 | with_reducible exact M10 | with_reducible exact M11 | with_reducible exact M12) ?_ ?_
 ·exact rfl
 refine yJ (fun hb=>?_) (fun hb=>?_)
 ·simp only [decide_eq_true_eq] at hb
  have:=hk _ h
  rw [if_pos (by omega)] at this
  exact this
 ·simp only [decide_eq_false_iff_not] at hb
  have:=hk _ h
  rw [if_neg (by omega)] at this
  exact this
theorem zJq {s:Sl} {xs:List UInt8} {k:Sl→K} (hl:xs.length ≤ 100000) (hcap:s.n ≤ s.c) (h:Holds B Γ w) (hr:∀ w,Holds B Γ w→RdB w s xs)
  (hk:∀ f w,Holds B (Bytes zF f (yj xs)::Γ) w→k f w):uR.call s k w:=by
 have hn:xs.length = s.n:=by have:=(hr w h).len; simpa using this
 refine zLv _ _ _ ?_
 unfold uR
 rw [← hn]
 refine qP (xI (by omega) (by omega)) ?_
 refine zLP (by omega) h fun d w h=>?_
 have hnl:(vM xs.length).length ≤ 3:=xO 2 _ (by omega)
 refine zBa (by omega) h (fun w h=>Bytes.rd h List.mem_cons_self) fun f w h=>?_
 replace h:=h.del 1 at1
 try simp only [N1,N2,N3,N4,N5,N6,N7] at h
 have hfl:=zDm _ xs rfl
 refine yM.of (fun t w=>∃ (i:Nat) (ys:List UInt8),t.2 = (i:Int)∧i ≤ xs.length + 1024∧ys++vQ (xs.drop i) = yj xs∧Holds B (Bytes zF t.1 ys::Γ) w)
  (fun t _=>((s.n:Int) - t.2).toNat) ⟨0,yP (vM xs.length),rfl,by omega,rfl,h⟩ ?_
 clear h
 rintro ⟨o,t⟩ w ⟨i,ys,ht,hi,he,h⟩
 simp only at ht h
 subst ht
 dsimp only
 unfold uR.b1
 refine yJ (fun hb=>?_) (fun hb=>?_)
 ·simp only [decide_eq_true_eq] at hb
  have hne:xs.drop i ≠ []:=fun e=>by have:=congrArg List.length e; simp at this; omega
  rw [uy hne] at he
  have hsp:=zF9 (hr w h.tail) (fun e=>by rw [e] at hn; simp at hn; omega)
  have hpl:=zDo hl
  have hyl:ys.length ≤ 900000:=by
   have h1:=congrArg List.length he
   simp only [List.length_append] at h1
   omega
  refine qP (e':=((i + 1024:Nat):Int)) (by rw [wrap64 (by omega) (by omega)]; omega) ?_
  have next:∀ m:Nat,i + m ≤ xs.length→(xs.drop i).take 1024 = (xs.drop i).take m→m ≤ 1024→uR.s2 k (fun o t w'=>(∃ (i:Nat) (ys:List UInt8),t = (i:Int)∧i ≤ xs.length + 1024∧ys++vQ (xs.drop i) = yj xs∧Holds B (Bytes zF o ys::Γ) w')∧((s.n:Int) - t).toNat < ((s.n:Int) - (i:Int)).toNat) s o (i:Int) ((i + m:Nat):Int) w:=by
   intro m hm hmt hm2
   unfold uR.s2
   refine ⟨_,by omega,by omega,by omega,by omega,rfl,?_⟩
   simp only [Int.toNat_natCast]
   have hml:((xs.drop i).take m).length = m:=by simp; omega
   have hc:=fun w (h:Holds B (Bytes zF o ys::Γ) w)=>by
    have h1:=zFg (i:=i) (hr _ h.tail) (by omega) hcap hsp
    have h2:=h1.take (m:=m) (c:=s.c - i) (by simp only; omega)
    have e:i + m - i = m:=by omega
    show RdB w ⟨zAB s.a i s.c 1,i + m - i,s.c - i⟩ ((xs.drop i).take m)
    rw [e]
    show RdC w _ 1 (((xs.drop i).take m).map qy)
    rw [List.map_take]
    simpa using h2
   refine zBa (b:=(xs.drop i).take m) (by omega) h hc fun f w h=>?_
   have hfl2:=qV ((xs.drop i).take m)
   refine zA2 h.swap (Bytes.rd h List.mem_cons_self) (by omega) fun o' w h _ _=>?_
   refine qP (e':=((i + 1024:Nat):Int)) (by rw [wrap64 (by omega) (by omega)]; omega) ?_
   refine ⟨⟨i + 1024,_,rfl,by omega,?_,h.del 1 at1⟩,by omega⟩
   rw [← he,hmt,List.append_assoc,List.drop_drop]
  refine yJ (fun hb2=>?_) (fun hb2=>?_)
  ·simp only [decide_eq_true_eq] at hb2
   have:=next (xs.length - i) (by omega) (by rw [List.take_of_length_le (by simp; omega),List.take_of_length_le (by simp)]) (by omega)
   have e:i + (xs.length - i) = s.n:=by omega
   rw [e] at this
   exact this
  ·simp only [decide_eq_false_iff_not] at hb2
   exact next 1024 (by omega) rfl (Nat.le_refl _)
 ·simp only [decide_eq_false_iff_not] at hb
  have e0:xs.drop i = []:=List.drop_of_length_le (by omega)
  rw [e0,zAg,List.append_nil] at he
  subst he
  exact hk _ _ h
end
end
section
open Go Go.Sep
theorem zL0 {m n j:Nat} (h:(vM m).take j = vM n) (hj:j < (vM m).length):False:=by
 obtain ⟨l,b,h1,h2,h3,_⟩:=zEy n
 obtain ⟨l',b',h1',h2',_,_⟩:=zEy m
 rw [h1,h1'] at h
 rw [h1'] at hj
 simp only [List.length_append,List.length_singleton] at hj
 rw [List.take_append_of_le_length (by omega)] at h
 have hb:b ∈ l'.take j:=by rw [h]; simp
 have:=h2' b (List.mem_of_mem_take hb)
 omega
structure zQz (d:List UInt8) (n i:Nat) (b F:List UInt8):Prop where
 le:i ≤ d.length
 bn:b.length ≤ n
 bi:b.length ≤ i
 eq:d = yP (vM n)++F++d.drop i
 fr:∀ r,b.length + r.length = n→vQ (b++r) = F++vQ r
 no:∀ b0,yj b0 = d→b0.length = n∧b = b0.take b.length∧d.drop i = vQ (b0.drop b.length)
theorem zQz.step {d:List UInt8} {n i:Nat} {b F:List UInt8} (hI:zQz d n i b F) (hbn:b.length < n) (he:(zP (d.drop i)).2.2 = 0) (hw:(zP (d.drop i)).1.length = min 1024 (n - b.length)) :
  zQz d n (i + (zP (d.drop i)).2.1) (b++(zP (d.drop i)).1) (F++yP (zP (d.drop i)).1):=by
 have hF:=zJg (d.drop i)
 have h1:=hF.le
 obtain ⟨h2,h3,h4⟩:=hF.ok he
 generalize hx:(zP (d.drop i)).1 = x at *
 generalize hkk:(zP (d.drop i)).2.1 = kk at *
 simp only [List.length_drop] at h1
 refine ⟨by have:=hI.le; omega,by rw [List.length_append]; omega,by rw [List.length_append]; have:=hI.bi; omega,?_,fun r hr=>?_,fun b0 hb0=>?_⟩
 ·rw [← List.drop_drop]
  have e:=hI.eq
  rw [h4] at e
  rw [← List.append_assoc] at e
  rw [← List.append_assoc]
  exact e
 ·rw [List.length_append] at hr
  have h5:=hI.fr (x++r) (by rw [List.length_append]; omega)
  have hne:x++r ≠ []:=fun e=>by
   have:=congrArg List.length e
   rw [List.length_append,List.length_nil] at this
   omega
  have h6:(x++r).take 1024 = x∧(x++r).drop 1024 = r:=by
   by_cases h10:x.length = 1024
   ·rw [← h10]; exact ⟨List.take_left,List.drop_left⟩
   ·have:r = []:=List.length_eq_zero_iff.1 (by omega)
    subst this
    rw [List.append_nil]
    exact ⟨List.take_of_length_le (by omega),List.drop_of_length_le (by omega)⟩
  rw [List.append_assoc,h5,uy hne,h6.1,h6.2,List.append_assoc]
 ·obtain ⟨g1,g2,g3⟩:=hI.no b0 hb0
  have hne:b0.drop b.length ≠ []:=fun e=>by have:=congrArg List.length e; simp at this; omega
  rw [uy hne] at g3
  have hu:=zAi (b:=(b0.drop b.length).take 1024) (vQ ((b0.drop b.length).drop 1024)) (by simp; omega)
  rw [← g3] at hu
  have hx2:x = (b0.drop b.length).take 1024:=by rw [← hx,hu]
  have hk2:kk = 6 + x.length:=by omega
  refine ⟨g1,?_,?_⟩
  ·rw [List.length_append,List.take_add,← g2]
   congr 1
   rw [hx2,List.length_take]
   by_cases h10:1024 ≤ (b0.drop b.length).length
   ·rw [Nat.min_eq_left h10]
   ·rw [Nat.min_eq_right (by omega),List.take_of_length_le (by omega),List.take_length]
  ·rw [← List.drop_drop,g3,← hx2,hk2,← qV,List.drop_left,List.drop_drop,List.length_append]
   by_cases h10:x.length = 1024
   ·rw [h10]
   ·rw [List.drop_of_length_le (by omega),List.drop_of_length_le (by omega)]
section
variable {B w:World} {Γ:List zB}
theorem zIG {s:Sl} {d:List UInt8} {k:Sl→Int→K} (hl:d.length ≤ 100000) (hcap:s.n ≤ s.c) (h:Holds B Γ w) (hr:∀ w,Holds B Γ w→RdB w s d)
  (hok:∀ b f w,yj b = d→Holds B (Bytes zF f b::Γ) w→k f 0 w) (hno:(∀ b,yj b ≠ d)→∀ f w,Holds B (Bytes zF f []::Γ) w→k f 61 w):yU.call s k w:=by
 have hn:d.length = s.n:=by have:=(hr w h).len; simpa using this
 have torn:∀ (w:World) (t:Nat),(∀ b,yj b ≠ d)→Holds B (blk t (.cells #[] zF (0,0))::Γ) w→k (Sl.mk (some ⟨t,0,none⟩) 0 0) 61 w:=fun w t hb h=>hno hb _ _ (vL (xs:=[]) (n:=0) (by rfl) rfl h)
 have hhead:∀ b0,yj b0 = d→zP d = (vM b0.length,6 + (vM b0.length).length,0):=fun b0 hb0=>by
  have h1:=zDn b0
  rw [hb0] at h1
  have:=zAi (b:=vM b0.length) (vQ b0) (zKv (by omega))
  rw [← hb0]
  exact this
 refine zJm _ _ _ ?_
 unfold yU
 have hF:=zJg d
 refine zBw (by omega) h hr hcap fun f w h=>?_
 refine yJ (fun hb=>?_) (fun hb=>?_)
 ·simp only [decide_eq_true_eq] at hb
  refine xE h ?_
  clear h
  intro t23 w h
  try simp only [zR,Nat.zero_add,Nat.reduceAdd]
  refine torn _ _ (fun b0 hb0=>hb ?_) (h.del 1 at1)
  rw [hhead b0 hb0]; rfl
 simp only [decide_eq_false_iff_not] at hb
 have he0:(zP d).2.2 = 0:=by omega
 obtain ⟨hk6,hkl,heq⟩:=hF.ok he0
 have hhs:=hF.small
 have hle:=hF.le
 generalize hhs2:(zP d).1 = hs at *
 generalize hkk:(zP d).2.1 = kk at *
 have hhd:∀ b0,yj b0 = d→hs = vM b0.length:=fun b0 hb0=>by rw [← hhs2,hhead b0 hb0]
 have hfn:=Bytes.len h
 refine xE h ?_
 clear h
 intro t26 w h
 try simp only [zR,Nat.zero_add,Nat.reduceAdd]
 refine zHF (hs:=hs) (by omega) h (fun w h=>Bytes.rd h List.mem_cons_self) (fun n m w hm hml hn2 h=>?_) (fun c w hc hcn h=>?_)
 ·refine yH rfl ?_
  refine zHG h fun w h=>?_
  refine yJ (fun hb2=>?_) (fun hb2=>?_)
  ·simp only [decide_eq_true_eq] at hb2
   unfold yU.s1
   refine qO rfl ?_
   refine xE h ?_
   clear h
   intro t46 w h
   try simp only [zR,Nat.zero_add,Nat.reduceAdd]
   refine torn _ _ (fun b0 hb0=>?_) ((h.del 1 at1).del 1 at1)
   have hmf:m < f.n:=by
    by_cases hmf:m < f.n
    ·exact hmf
    ·rw [if_neg hmf] at hb2; exact absurd rfl hb2
   have h1:=hhd b0 hb0
   rw [h1] at hm
   exact zL0 hm (by rw [← h1]; omega)
  simp only [decide_eq_false_iff_not,Decidable.not_not] at hb2
  have hmf:m = hs.length:=by
   by_cases hmf:m < f.n
   ·rw [if_pos hmf] at hb2; exact absurd hb2 (by decide)
   ·omega
  rw [hmf,List.take_length] at hm
  refine qP (xI (by omega) (by omega)) ?_
  unfold yU.s1
  refine yJ (fun hb3=>?_) (fun hb3=>?_)
  ·simp only [decide_eq_true_eq] at hb3
   refine xE h ?_
   clear h
   intro t46 w h
   try simp only [zR,Nat.zero_add,Nat.reduceAdd]
   refine torn _ _ (fun b0 hb0=>?_) ((h.del 1 at1).del 1 at1)
   have h1:=hhd b0 hb0
   rw [hm] at h1
   have h2:=zKu _ _ h1
   have h3:=zDn b0
   rw [hb0] at h3
   omega
  simp only [decide_eq_false_iff_not] at hb3
  refine xE h ?_
  clear h
  intro t47 w h
  try simp only [zR,Nat.zero_add,Nat.reduceAdd]
  replace h:=vL (xs:=[]) (n:=0) (by rfl) rfl ((h.del 1 at1).del 1 at1)
  have hI0:zQz d n kk [] []:=by
   refine ⟨hle,by simp,by simp,by rw [← hm,List.append_nil]; exact heq,fun r _=>rfl,fun b0 hb0=>?_⟩
   have h1:=hhd b0 hb0
   rw [hm] at h1
   have h2:=zKu _ _ h1
   refine ⟨h2.symm,rfl,?_⟩
   have h3:d = yP (vM b0.length)++vQ b0:=hb0.symm
   rw [← h2,← hm] at h3
   have h4:6 + hs.length = kk:=by omega
   show d.drop kk = vQ b0
   rw [h3,← h4,← qV,List.drop_left]
  refine yM.of (fun t w=>∃ (i:Nat) (b F:List UInt8),t.1 = (i:Int)∧zQz d n i b F∧Holds B (Bytes zF t.2 b::Γ) w) (fun t _=>((s.n:Int) - t.1).toNat + 1) ⟨kk,[],[],rfl,hI0,h⟩ ?_
  clear h
  rintro ⟨t,o⟩ w ⟨i,b,F,ht,hI,h⟩
  simp only at ht h
  subst ht
  dsimp only
  have hon:=Bytes.len h
  have hi:=hI.le
  have hbn:=hI.bn
  have hbi:=hI.bi
  unfold yU.b2
  refine qP (xI (by omega) (by omega)) ?_
  refine yJ (fun hb4=>?_) (fun hb4=>?_)
  ·simp only [decide_eq_true_eq] at hb4
   refine ⟨_,by omega,by omega,by omega,by omega,rfl,?_⟩
   simp only [Int.toNat_natCast]
   have hG:=zJg (d.drop i)
   have hsm:=hG.small
   have hGle:=hG.le
   simp only [List.length_drop] at hGle
   have hdrop:∀ w,Holds B (Bytes zF o b::Γ) w→RdB w ⟨zAB s.a i s.c 1,s.n - i,s.c - i⟩ (d.drop i):=fun w h=>by
    by_cases hne:d = []
    ·have hi0:i = 0:=by rw [hne] at hi; simpa using hi
     have hs0:s.n = 0:=by rw [← hn,hne]; rfl
     subst hi0
     have h1:=hr w h.tail
     have e:zAB s.a 0 s.c 1 = s.a:=by
      unfold zAB
      split
      ·rfl
      ·cases s.a <;> simp [Addr.add]
     rw [e,Nat.sub_zero,Nat.sub_zero,List.drop_zero]
     exact h1
    ·exact zFg (hr w h.tail) (by omega) hcap (zF9 (hr w h.tail) hne)
   refine zBw (d:=d.drop i) (by simp; omega) h hdrop (by simp only; omega) fun g w h=>?_
   have hgn:=Bytes.len h
   have hno2:(¬ ((zP (d.drop i)).2.2 = 0∧(zP (d.drop i)).1.length = min 1024 (n - b.length)))→∀ b0,yj b0 ≠ d:=fun hbad b0 hb0=>by
    obtain ⟨g1,g2,g3⟩:=hI.no b0 hb0
    have hne:b0.drop b.length ≠ []:=fun e=>by have:=congrArg List.length e; simp at this; omega
    rw [uy hne] at g3
    have hu:=zAi (b:=(b0.drop b.length).take 1024) (vQ ((b0.drop b.length).drop 1024)) (by simp; omega)
    rw [← g3] at hu
    rw [hu] at hbad
    refine hbad ⟨rfl,?_⟩
    simp only [List.length_take,List.length_drop]
    omega
   refine qP (xI (by omega) (by omega)) ?_
   refine qP (e':=((n - b.length:Nat):Int)) (by rw [xI (by omega) (by omega)]; omega) ?_
   have main:∀ want:Nat,want = min 1024 (n - b.length)→yU.s3 k (fun t o w'=>(∃ (i:Nat) (b F:List UInt8),t = (i:Int)∧zQz d n i b F∧Holds B (Bytes zF o b::Γ) w')∧((s.n:Int) - t).toNat + 1 < ((s.n:Int) - (i:Int)).toNat + 1) s (i:Int) (n:Int) o g ((zP (d.drop i)).2.1:Int) ((zP (d.drop i)).2.2:Int) (want:Int) w:=by
    intro want hwant
    have tornx:(∀ b0,yj b0 ≠ d)→yU.s4 k (fun t o w'=>(∃ (i:Nat) (b F:List UInt8),t = (i:Int)∧zQz d n i b F∧Holds B (Bytes zF o b::Γ) w')∧((s.n:Int) - t).toNat + 1 < ((s.n:Int) - (i:Int)).toNat + 1) s (i:Int) (n:Int) o g ((zP (d.drop i)).2.1:Int) true w:=fun hb0=>by
     unfold yU.s4
     refine qO rfl ?_
     refine xE h ?_
     clear h
     intro t77 w h
     try simp only [zR,Nat.zero_add,Nat.reduceAdd]
     exact torn _ _ hb0 ((h.del 1 at1).del 1 at1)
    unfold yU.s3
    refine yJ (fun hb5=>?_) (fun hb5=>?_)
    ·simp only [decide_eq_true_eq] at hb5
     exact tornx (hno2 (fun hh=>hb5 (by rw [hh.1]; rfl)))
    simp only [decide_eq_false_iff_not] at hb5
    have hz:(zP (d.drop i)).2.2 = 0:=by omega
    refine qP (xI (by omega) (by omega)) ?_
    by_cases hw:(zP (d.drop i)).1.length = want
    ·rw [decide_eq_false (by omega)]
     unfold yU.s4
     refine yH rfl ?_
     have hst:=hI.step (by omega) hz (by omega)
     have h6:=(hG.ok hz).1
     refine zA2 h.swap (Bytes.rd h List.mem_cons_self) (by omega) fun o' w h _ _=>?_
     refine qP (e':=((i + (zP (d.drop i)).2.1:Nat):Int)) (by rw [wrap64 (by omega) (by omega)]; omega) ?_
     exact ⟨⟨_,_,_,rfl,hst,h.del 1 at1⟩,by omega⟩
    ·rw [decide_eq_true (by omega)]
     exact tornx (hno2 (fun hh=>hw (by rw [hh.2,hwant])))
   refine yJ (fun hb5=>?_) (fun hb5=>?_)
   ·simp only [decide_eq_true_eq] at hb5
    exact main 1024 (by omega)
   ·simp only [decide_eq_false_iff_not] at hb5
    exact main (n - b.length) (by omega)
  ·simp only [decide_eq_false_iff_not] at hb4
   have hbn2:b.length = n:=by omega
   refine yJ (fun hb5=>?_) (fun hb5=>?_)
   ·simp only [decide_eq_true_eq] at hb5
    refine xE h ?_
    clear h
    intro t88 w h
    try simp only [zR,Nat.zero_add,Nat.reduceAdd]
    refine torn _ _ (fun b0 hb0=>?_) (h.del 1 at1)
    obtain ⟨g1,g2,g3⟩:=hI.no b0 hb0
    have:b0.drop b.length = []:=List.drop_of_length_le (by omega)
    rw [this,zAg] at g3
    have:=congrArg List.length g3
    simp at this; omega
   ·simp only [decide_eq_false_iff_not,Decidable.not_not] at hb5
    refine hok b o _ ?_ h
    have h1:=hI.eq
    have h2:d.drop i = []:=List.drop_of_length_le (by omega)
    rw [h2,List.append_nil] at h1
    have h3:=hI.fr [] (by simpa using hbn2)
    rw [List.append_nil,zAg,List.append_nil] at h3
    unfold yj
    rw [hbn2,h3]
    exact h1.symm
 ·refine qO (by simp only [decide_eq_true_eq]; exact hc) ?_
  unfold yU.s1
  refine qO rfl ?_
  refine xE h ?_
  clear h
  intro t46 w h
  try simp only [zR,Nat.zero_add,Nat.reduceAdd]
  refine torn _ _ (fun b0 hb0=>?_) ((h.del 1 at1).del 1 at1)
  have h1:=zDn b0
  rw [hb0] at h1
  exact hcn b0.length (by omega) (hhd b0 hb0)
end
end
section
open Go Go.Sep
section
variable {D M:zC} {n x:List UInt8}
theorem zI3 (hD:OkD D):OkD (D.remove n).1∧(D.remove n).1.a.room = D.a.room:=by
 unfold zC.remove
 split
 ·exact ⟨hD,rfl⟩
 cases hm:zO n D.files with
 | none=>exact ⟨hD,rfl⟩
 | some f=>
  simp only
  split
  ·exact ⟨(hD.del hm).1.chg,zCm _⟩
  ·exact ⟨hD.chg,zCm _⟩
theorem zIH (hD:OkD D):OkD (D.sync n).1∧(D.sync n).1.a.room = D.a.room:=by
 unfold zC.sync
 split
 ·exact ⟨hD,rfl⟩
 cases hm:zO n D.files with
 | none=>exact ⟨hD,rfl⟩
 | some f=>
  have hu:=hD.used
  simp only
  split
  ·exact ⟨(hD.set (f':=⟨f.data,f.data.length⟩) hm (Nat.le_refl _) (by simp only; omega)).chg,zCm _⟩
  ·exact ⟨hD.chg,zCm _⟩
theorem zGG (hD:OkD D):OkD (D.append n x).1∧(D.append n x).1.a.room = D.a.room:=by
 unfold zC.append
 split
 ·exact ⟨hD,rfl⟩
 split
 ·exact ⟨hD,rfl⟩
 split
 ·exact ⟨hD,rfl⟩
 rename_i hnf
 refine ⟨?_,zCm _⟩
 cases hm:zO n D.files with
 | none=>
  simp only [Option.getD_none,List.nil_append]
  have hfew:D.files.length < 32:=by
   by_cases h32:32 ≤ D.files.length
   ·exact absurd (.inl ⟨hm,h32⟩) hnf
   ·omega
  have hr:¬ (D.a.room - (yc D.files:Int) < x.length):=fun h=>hnf (.inr h)
  exact (hD.push (f:=⟨x,0⟩) hm hfew (Nat.zero_le _) (by simp only; omega)).chg
 | some f=>
  have hdl:=zA4 hD hm
  have hr:¬ (D.a.room - (yc D.files:Int) < x.length):=fun h=>hnf (.inr h)
  simp only [Option.getD_some]
  exact (hD.set (f':=⟨f.data++x,f.last⟩) hm (by simp; omega) (by simp; omega)).chg
end
open Classical in
noncomputable def zBS (r:List UInt8×Int):List UInt8×Int:=if r.2 ≠ 0 then ([],r.2) else if h:∃ b,yj b = r.1 then (h.choose,0) else ([],61)
theorem zMt {r:List UInt8×Int} (h:r.2 ≠ 0):zBS r = ([],r.2):=by unfold zBS; rw [if_pos h]
theorem zPs {r:List UInt8×Int} (h:r.2 = 0) (hn:∀ b,yj b ≠ r.1):zBS r = ([],61):=by
 unfold zBS
 rw [if_neg (fun h2=>h2 h),dif_neg (fun ⟨b,hb⟩=>hn b hb)]
theorem zSB (b:List UInt8):b.length ≤ (yj b).length:=by
 have h2:=zC5 _ b rfl
 unfold yj
 rw [List.length_append,qV]
 omega
theorem zPt {r:List UInt8×Int} {b:List UInt8} (h:r.2 = 0) (hb:yj b = r.1) (hl:r.1.length ≤ 100000):zBS r = (b,0):=by
 have he:∃ b,yj b = r.1:=⟨b,hb⟩
 unfold zBS
 rw [if_neg (fun h2=>h2 h),dif_pos he]
 have h1:=zSB he.choose
 rw [he.choose_spec] at h1
 rw [show he.choose = b from pack_inj (by omega) (he.choose_spec.trans hb.symm)]
section
variable {B w:World} {Γ:List zB} {d m:Nat} {D M:zC} {n x:List UInt8}
theorem zFB {k:Sl→Int→K} (hD:OkD D) (hl:(D.read n).1.length ≤ 100000) (h:Holds B (zJ d D::Γ) w)
  (hk:∀ f w,Holds B (Bytes zF f (zBS (D.read n)).1::zJ d D::Γ) w→k f (zBS (D.read n)).2 w):zBA.call (some ⟨d,0,none⟩) (bs n) k w:=by
 refine zDP hD hl h (fun he w h=>?_) (fun b f w he hb h=>?_) (fun he hn w h=>?_)
 ·rw [zMt he] at hk
  exact hk _ _ (h.zAv _ _)
 ·rw [zPt he hb hl] at hk
  exact hk _ _ h
 ·rw [zPs he hn] at hk
  exact hk _ _ (h.zAv _ _)
theorem zEc {k:Sl→Int→K} (hM:OkD M) (hl:(M.read n).1.length ≤ 100000) (h:Holds B (zk m M::Γ) w)
  (hk:∀ f w,Holds B (Bytes zF f (zBS (M.read n)).1::zk m M::Γ) w→k f (zBS (M.read n)).2 w):zBL.call (some ⟨m,0,none⟩) (bs n) k w:=by
 obtain ⟨s,fs,L,hp,hc,h⟩:=zk.opens h
 have hfl:fs.length = M.files.length:=by rw [← hp]; simp
 have hfew:=hM.few
 have hu:=hM.used
 have hro:=hM.roomN
 have hML:(⟨M.a,xH fs⟩:zC) = M:=by rw [hp]
 refine zLu _ _ _ _ ?_
 unfold zBL
 refine zEA (n:=n) (by omega) (by rw [hp]; omega) hc h fun c w h=>?_
 rw [hML] at h ⊢
 have h2:=zk.shuts (M:=M) rfl hp hc h.tail
 refine yJ (fun hq=>?_) (fun hq=>?_)
 ·have he:(M.read n).2 ≠ 0:=by simpa using hq
  rw [zMt he] at hk
  replace h:=h2
  refine xE h ?_
  clear h
  intro t16 w h
  try simp only [zR,Nat.zero_add,Nat.reduceAdd]
  exact hk _ _ (vL rfl rfl h)
 ·have hz:(M.read n).2 = 0:=by simpa using hq
  have hsc:=h.zAm
  replace h:=P3 h
  replace h:=P3 h
  replace h:=P3 h
  try simp only [N1,N2,N3,N4,N5,N6,N7] at h
  replace h:=(zk.shuts (M:=M) rfl hp hc h).swap
  refine zIG (d:=(M.read n).1) hl hsc.2.1 h (fun w h=>Bytes.rd h List.mem_cons_self) (fun b g w hb h=>?_) (fun hn f w h=>?_)
  ·rw [zPt hz hb hl] at hk
   exact hk _ _ (h.del 1 at1)
  ·rw [zPs hz hn] at hk
   exact hk _ _ (h.del 1 at1)
theorem zJr {body:Sl} {k:Int→K} (hD:OkD D) (hR:x9 D M) (hx:x.length ≤ 10000) (hnl:n.length ≤ 1000) (hcap:body.n ≤ body.c) (h:Holds B (zk m M::Γ) w) (hr:∀ w,Holds B Γ w→RdB w body x)
  (hk:∀ M' w,x9 (D.save n x).1 M'→Holds B (zk m M'::Γ) w→k (D.save n x).2 w):xB.call (some ⟨m,0,none⟩) (bs n) body k w:=by
 refine zLt _ _ _ _ _ ?_
 unfold xB
 have hsz:((bs n).size:Int) = n.length:=by simp [bs,ByteArray.size]
 have hpl:=zDo (b:=x) (by omega)
 have h1s:(ByteArray.mk #[126]).size = 1:=rfl
 unfold zC.save at hk
 have s1:∀ t,t = decide (n = []∨15 < n.length)→xB.s1 k (some ⟨m,0,none⟩) (bs n) body t w:=by
  rintro t rfl
  unfold xB.s1
  refine yJ (fun ht=>?_) (fun ht=>?_)
  ·rw [if_pos (by simpa using ht)] at hk
   exact hk _ _ hR h
  ·simp only [decide_eq_false_iff_not] at ht
   rw [if_neg ht] at hk
   refine ⟨bs (zm n),by rw [h1s]; omega,(zK1 n [126]).symm,?_⟩
   refine zE9 (n:=zm n) (hR.ok hD) h fun w h=>?_
   obtain ⟨hR1,he1⟩:=zLK (n:=zm n) hR hD
   have hD1:=(zI3 (n:=zm n) hD).1
   rw [he1]
   have s2:∀ t,t = decide ((D.remove (zm n)).2 ≠ 0∧(D.remove (zm n)).2 ≠ 60)→xB.s2 k (some ⟨m,0,none⟩) (bs n) body (D.remove (zm n)).2 t w:=by
    rintro t rfl
    unfold xB.s2
    refine yJ (fun hq=>?_) (fun hq=>?_)
    ·rw [if_pos (by simpa using hq)] at hk
     exact hk _ _ hR1 h
    ·rw [if_neg (by simpa only [decide_eq_false_iff_not] using hq)] at hk
     refine ⟨bs (zm n),by rw [h1s]; omega,(zK1 n [126]).symm,?_⟩
     refine zJq (xs:=x) (by omega) hcap h (fun w h=>hr w h.tail) fun f w h=>?_
     refine zFA (n:=zm n) (d:=yj x) (hR1.ok hD1) (by omega) h.swap (fun w h=>Bytes.rd h List.mem_cons_self) fun w h=>?_
     obtain ⟨hR2,he2⟩:=zLL (n:=zm n) (x:=yj x) hR1 hD1
     have hD2:=(zGG (n:=zm n) (x:=yj x) hD1).1
     rw [he2]
     unfold zJO at hk
     refine yJ (fun hq=>?_) (fun hq=>?_)
     ·rw [if_pos (by simpa using hq)] at hk
      exact hk _ _ hR2 (h.del 1 at1)
     ·rw [if_neg (by simpa using hq)] at hk
      refine ⟨bs (zm n),by rw [h1s]; omega,(zK1 n [126]).symm,?_⟩
      refine zGj (n:=zm n) (hR2.ok hD2) h fun w h=>?_
      obtain ⟨hR3,he3⟩:=zPm (n:=zm n) hR2 hD2
      have hD3:=(zIH (n:=zm n) hD2).1
      rw [he3]
      unfold zK0 at hk
      refine yJ (fun hq=>?_) (fun hq=>?_)
      ·rw [if_pos (by simpa using hq)] at hk
       exact hk _ _ hR3 (h.del 1 at1)
      ·rw [if_neg (by simpa using hq)] at hk
       refine ⟨bs (zm n),by rw [h1s]; omega,(zK1 n [126]).symm,?_⟩
       obtain ⟨hR4,he4⟩:=zQw (n:=zm n) (n':=n) hR3 hD3
       unfold zPO at hk
       refine zJo (n:=zm n) (n':=n) (hR3.ok hD3) h fun w h=>?_
       rw [he4]
       exact hk _ _ hR4 (h.del 1 at1)
   refine yJ (fun hq=>?_) (fun hq=>?_)
   ·simp only [decide_eq_true_eq] at hq
    exact s2 _ (by simp [hq])
   ·simp only [decide_eq_false_iff_not,Decidable.not_not] at hq
    exact s2 _ (by simp [hq])
 refine yJ (fun hq=>?_) (fun hq=>?_)
 ·simp only [decide_eq_true_eq] at hq
  have:n = []:=List.length_eq_zero_iff.1 (by omega)
  exact s1 _ (by simp [this])
 ·simp only [decide_eq_false_iff_not] at hq
  have:n ≠ []:=by
   intro e
   have:n.length = 0:=by rw [e]; rfl
   omega
  refine s1 _ ?_
  rw [hsz]
  by_cases h15:15 < n.length
  ·rw [decide_eq_true (by omega),decide_eq_true (.inr h15)]
  ·rw [decide_eq_false (by omega),decide_eq_false (by simp [this,h15])]
end
end
section
open Go Go.Sep
abbrev lgL (m:Nat) (W:q8) (s:Sl):List Value:=[.pointer (some ⟨m,0,none⟩),zAR W.name,.int .i64 W.size,.int .i64 (W.part:Int),.bool W.dirty,s.val]
abbrev lgB (l m:Nat) (W:q8) (s:Sl):zB:=blk l (.cells (lgL m W s).toArray zGs (0,0))
def LgR (l m:Nat) (W:q8):zB:=ex fun s:Sl=>ex fun rs:zFG=>Sep.stars [pur (rs.map Prod.snd = W.recs),lgB l m W s,SlC zL 1 s (rs.map uM),Sep.stars (rs.map vk)]
def zGZ (D:zC) (n:List UInt8):Nat:=((zO n D.files).getD ⟨[],0⟩).data.length
section
variable {B:World} {Γ Δ:List zB} {k Q:K} {l m:Nat} {W:q8} {s:Sl} {rs:zFG} {M D:zC}
theorem zS1 (h:∀ (s:Sl) (rs:zFG),rs.map Prod.snd = W.recs→HG B (lgB l m W s::SlC zL 1 s (rs.map uM)::Sep.stars (rs.map vk)::Γ) k):HG B (LgR l m W::Γ) k:=zD3 fun s=>zD3 fun rs=>zCY <| zHd fun h1=>h s rs h1
theorem zDW (h1:rs.map Prod.snd = W.recs) (h:HG B (LgR l m W::Γ) k):HG B (lgB l m W s::SlC zL 1 s (rs.map uM)::Sep.stars (rs.map vk)::Γ) k:=fun w hw=>by
 refine h w ?_
 have h3:Holds B (Sep.stars [pur (rs.map Prod.snd = W.recs),lgB l m W s,SlC zL 1 s (rs.map uM),Sep.stars (rs.map vk)]::Γ) w:=Holds.flat.2 (Holds.pur.2 ⟨h1,hw⟩)
 exact h3.imp fun g hg=>⟨s,rs,hg⟩
instance (priority:=high) zbF:Sep.Own l (LgR l m W::Γ) (LgR l m W) Γ:=⟨.refl _⟩
instance (priority:=high) zaR:Sep.Own m (zk m M::Γ) (zk m M) Γ:=⟨.refl _⟩
theorem zSC (h:∀ s' fs L,xH fs = M.files→zEw L fs→HG B (blk m (.cells (mA M.a s') zK (0,0))::SlC zD 3 s' (List.flatMap rfF fs)::stars (List.map vX L)::Γ) k):HG B (zk m M::Γ) k:=fun w hw=>by
 obtain ⟨s',fs,L,h1,h2,h3⟩:=zk.opens hw
 exact h s' fs L h1 h2 w h3
theorem zGH {s':Sl} {fs:RFs} {L:zDs} (h1:xH fs = M.files) (h2:zEw L fs) (h:HG B (zk m M::Γ) k):HG B (blk m (.cells (mA M.a s') zK (0,0))::SlC zD 3 s' (List.flatMap rfF fs)::stars (List.map vX L)::Γ) k:=fun w hw=>h w (zk.shuts rfl h1 h2 hw)
theorem zDX {p:Nat} {q:ByteArray→K} (hp:p ≤ 9) (hn:W.name.length ≤ 1000) (h:HG B (lgB l m W s::Γ) (q (bs (zM W.name p)))):HG B (lgB l m W s::Γ) (vN.call (some ⟨l,0,none⟩) (p:Int) q):=by
 refine fun w hw=>zHq _ _ _ _ ?_
 refine hg hw ?_
 clear hw w
 unfold vN
 refine zAQ ?_
 refine zIc ?_
 refine xM ?_
 refine vI (e':=((48 + p:Nat):Int)) (by rw [wrap64 (by omega) (by omega)]; omega) ?_
 refine vI (e':=(((48 + p:Nat):Int))) (by
  rw [IntKind.wrap]
  simp only [IntKind.bits,IntKind.signed,Bool.false_and,Bool.false_eq_true,if_false]
  omega) ?_
 refine jR (b:=l) (off:=1) (l:=lgL m W s) (x:=bs W.name) ?_
 refine ql fun t12=>?_
 refine zBb ?_
 refine zN4 (xs:=[u8 (48 + p)]) (fun w hw=>?_) ?_
 ·have h1:=RdC.zD2 (n:=1) (esz:=1) hw List.mem_cons_self (vs:=[.int .u8 ((48 + p:Nat):Int)]) rfl rfl 1
  have e:([u8 (48 + p)]).map qy = [.int .u8 ((48 + p:Nat):Int)]:=by
   simp only [List.map_cons,List.map_nil,qy,u8N]
   rw [Nat.mod_eq_of_lt (by omega)]
  show RdC w _ 1 (([u8 (48 + p)]).map qy)
  rw [e]
  exact h1
 refine zOy (by simp; omega) ?_
 exact zI (Δ:=lgB l m W s::Γ) h
theorem zPu {p:Nat} {q:Int→K} (hp:p ≤ 9) (hn:W.name.length ≤ 1000) (hM:OkD M) (h:HG B (lgB l m W s::zk m M::Γ) (q (zGZ M (zM W.name p):Int))):HG B (lgB l m W s::zk m M::Γ) (zAP.call (some ⟨l,0,none⟩) (p:Int) q):=by
 refine fun w hw=>zHs _ _ _ _ ?_
 refine hg hw ?_
 clear hw w
 unfold zAP
 refine zAQ ?_
 refine zIc ?_
 refine xM ?_
 refine jR (b:=l) (l:=lgL m W s) (x:=some ⟨m,0,none⟩) ?_
 refine zDX hp hn ?_
 refine zBb ?_
 refine vD ?_
 refine zSC fun s' fs L hpl hcov=>?_
 intro w hw
 have hfl:fs.length ≤ 1000:=by
  have h1:=hM.few
  have h2:fs.length = M.files.length:=by rw [← hpl]; simp
  omega
 refine zCo hfl hw (fun hno=>?_) (fun l1 x l2 he hb=>?_)
 ·refine qO (by rfl) ?_
  have e0:zGZ M (zM W.name p) = 0:=by unfold zGZ; rw [← hpl,zBC hno]; rfl
  rw [e0] at h
  exact (zGH hpl hcov (vD h)) w hw
 ·refine yH (by simp) ?_
  have e0:zGZ M (zM W.name p) = x.f.data.length:=by unfold zGZ; rw [← hpl,zC7 he hb]; rfl
  rw [e0] at h
  have hcx:Cov L x.s x.f.data:=hcov (zM W.name p,x) (by rw [he]; simp)
  have hlen:=(zEx 2 hw rfl hcx).2.1
  refine hg hw ?_
  clear hw w
  refine yE (b:=l) (l:=lgL m W s) (x:=some ⟨m,0,none⟩) ?_
  refine xM ?_
  refine yE (b:=m) (off:=1) (l:=[.int .i64 M.a.room,s'.val,.int .i64 M.a.left,.bool M.a.down]) (x:=s') ?_
  intro w hw
  refine zBv (fs:=fs) (j:=l1.length) (x:=(zM W.name p,x)) (hw.rdC (List.mem_cons_of_mem _ List.mem_cons_self)) (by rw [he]; simp) fun t h0 h1 h2 h3=>?_
  refine ⟨x.s,h1,?_⟩
  show q (x.s.n:Int) w
  rw [← hlen]
  exact (zGH hpl hcov (vD h)) w hw
theorem zS2 {n:List UInt8} {q:Int→K} (hM:OkD M) (h:HG B (zk m (M.sync n).1::Γ) (q (M.sync n).2)):HG B (zk m M::Γ) (jQ.call (some ⟨m,0,none⟩) (bs n) q):=fun w hw=>zGj hM hw fun w hw=>h w hw
theorem zVE {n d:List UInt8} {data:Sl} {q:Int→K} (hM:OkD M) (hl:d.length ≤ 90000000) (hr:∀ w,Holds B Γ w→RdB w data d) (h:HG B (zk m (M.zCI n d).1::Γ) (q (M.zCI n d).2)):HG B (zk m M::Γ) (zq.call (some ⟨m,0,none⟩) (bs n) data q):=fun w hw=>zFA hM hl hw hr fun w hw=>h w hw
theorem zVF {n:List UInt8} {c:Int} {q:Int→K} (hM:OkD M) (h:HG B (zk m (M.cut n c).1::Γ) (q (M.cut n c).2)):HG B (zk m M::Γ) (qY.call (some ⟨m,0,none⟩) (bs n) c q):=fun w hw=>zN9 hM hw fun w hw=>h w hw
theorem zVG {n:List UInt8} {q:Int→K} (hM:OkD M) (h:HG B (zk m (M.remove n).1::Γ) (q (M.remove n).2)):HG B (zk m M::Γ) (uW.call (some ⟨m,0,none⟩) (bs n) q):=fun w hw=>zE9 hM hw fun w hw=>h w hw
theorem zS3 {n:List UInt8} {q:Sl→Int→K} (hM:OkD M) (h:∀ f,HG B (Bytes zF f (M.read n).1::zk m M::Γ) (q f (M.read n).2)):HG B (zk m M::Γ) (uw.call (some ⟨m,0,none⟩) (bs n) q):=by
 refine zSC fun s' fs L hpl hcov=>?_
 intro w hw
 have hfl:fs.length ≤ 1000:=by
  have h1:=hM.few
  have h2:fs.length = M.files.length:=by rw [← hpl]; simp
  omega
 have hu:yc (xH fs) ≤ 100000000:=by
  have h1:=hM.used
  have h2:=hM.roomN
  rw [hpl]; omega
 have e:(⟨M.a,xH fs⟩:zC) = M:=by rw [hpl]
 refine zEA hfl hu hcov hw fun f w hw=>?_
 rw [e] at hw ⊢
 refine hg hw ?_
 clear hw w
 refine zI (Δ:=(blk m (.cells (mA M.a s') zK (0,0))::SlC zD 3 s' (List.flatMap rfF fs)::stars (List.map vX L)::(Bytes zF f (M.read n).1::Γ))) ?_
 refine zGH hpl hcov ?_
 exact vD (h f)
theorem zMu {q:Int→K} (hD:OkD D) (hR:x9 D M) (hp:W.part ≤ 9) (hn:W.name.length ≤ 1000) (h:∀ M',x9 (W.vV D).1 M'→HG B (LgR l m (W.vV D).2.1::zk m M'::Γ) (q (W.vV D).2.2)):HG B (LgR l m W::zk m M::Γ) (zAO.call (some ⟨l,0,none⟩) q):=by
 have hM:=hR.ok hD
 refine fun w hw=>zHr _ _ _ ?_
 refine hg hw ?_
 clear hw w
 unfold zAO
 refine zS1 fun s rs hrs=>?_
 refine xM ?_
 refine yE (b:=l) (off:=4) (l:=lgL m W s) (x:=W.dirty) ?_
 unfold q8.vV at h
 refine yA (fun h0=>?_) fun h0=>?_
 ·have h0':W.dirty = false:=by simpa using h0
  rw [if_pos h0'] at h
  exact zDW hrs (h M hR)
 have h0':¬ W.dirty = false:=by simpa using h0
 rw [if_neg h0'] at h
 refine zAQ ?_
 refine zIc ?_
 refine jR (b:=l) (l:=lgL m W s) (x:=some ⟨m,0,none⟩) ?_
 refine jR (b:=l) (off:=3) (l:=lgL m W s) (x:=(W.part:Int)) ?_
 refine zDX hp hn ?_
 refine zBb ?_
 refine zI (Δ:=zk m M::lgB l m W s::SlC zL 1 s (rs.map uM)::Sep.stars (rs.map vk)::Γ) ?_
 refine zS2 hM ?_
 obtain ⟨r1,r2⟩:=zPm (n:=zM W.name W.part) hR hD
 rw [r2]
 refine zAd (b:=l) (off:=4) (l:=lgL m W s) (l':=lgL m { W with dirty:=decide ((D.sync (zM W.name W.part)).2 ≠ 0) } s) ?_ rfl rfl
 refine zI (Δ:=lgB l m { W with dirty:=decide ((D.sync (zM W.name W.part)).2 ≠ 0) } s::SlC zL 1 s (rs.map uM)::Sep.stars (rs.map vk)::zk m (M.sync (zM W.name W.part)).1::Γ) ?_
 exact zDW hrs (h _ r1)
theorem zPv {part used:Nat} {rec f:Sl} {r:List UInt8} {q:Int→K} (hD:OkD D) (hR:x9 D M) (hp:part ≤ 9) (hn:W.name.length ≤ 1000) (hl:r.length ≤ 4096) (hrl:W.recs.length ≤ 10000000) (hr:∀ w,Holds B Γ w→RdB w rec r)
  (h:∀ M',x9 (W.put D part used r).1 M'→HG B (LgR l m (W.put D part used r).2.1::zk m M'::Γ) (q (W.put D part used r).2.2)) :
  HG B (Bytes zF f (yP r)::LgR l m W::zk m M::Γ) (yt.s1 q ⟨l,0,none⟩ rec f (part:Int)):=by
 have hM:=hR.ok hD
 refine fun w0 hw0=>?_
 have hrn:rec.n = r.length:=by have:=(hr w0 (hw0.drops (Δ:=Γ))).len; simpa using this.symm
 revert w0 hw0
 show HG B (Bytes zF f (yP r)::LgR l m W::zk m M::Γ) (yt.s1 q ⟨l,0,none⟩ rec f (part:Int))
 unfold yt.s1
 refine vD ?_
 refine zS1 fun s rs hrs=>?_
 refine zAQ ?_
 refine zIc ?_
 refine jR (b:=l) (l:=lgL m W s) (x:=some ⟨m,0,none⟩) ?_
 refine zDX hp hn ?_
 refine zBb ?_
 refine zI (Δ:=zk m M::Bytes zF f (yP r)::lgB l m W s::SlC zL 1 s (rs.map uM)::Sep.stars (rs.map vk)::Γ) ?_
 have hfl:=qV r
 refine zVE (d:=yP r) hM (by omega) (fun w hw=>Bytes.rd hw List.mem_cons_self) ?_
 obtain ⟨r1,r2⟩:=zLL (n:=zM W.name part) (x:=yP r) hR hD
 rw [r2]
 unfold q8.put at h
 refine yA (fun h0=>?_) fun h0=>?_
 ·have h0':(D.append (zM W.name part) (yP r)).2 ≠ 0:=by simpa using h0
  rw [if_pos h0'] at h
  refine zI (Δ:=lgB l m W s::SlC zL 1 s (rs.map uM)::Sep.stars (rs.map vk)::zk m (M.zCI (zM W.name part) (yP r)).1::Γ) ?_
  exact zDW hrs (h _ r1)
 have h0':¬ (D.append (zM W.name part) (yP r)).2 ≠ 0:=by simpa using h0
 rw [if_neg h0'] at h
 refine zAd (b:=l) (off:=3) (l:=lgL m W s) (l':=lgL m { W with part:=part } s) ?_ rfl rfl
 refine zAd (b:=l) (off:=4) (l:=lgL m { W with part:=part } s) (l':=lgL m { W with part:=part,dirty:=true } s) ?_ rfl rfl
 refine ql fun t66=>?_
 refine yE (b:=l) (off:=5) (l:=lgL m { W with part:=part,dirty:=true } s) (x:=s) ?_
 have hrsl:rs.length = W.recs.length:=by rw [← hrs]; simp
 refine vw s fun a1 a2 a3 a4=>?_
 rw [List.length_map] at a1
 refine zEi (A':=SlC zL 1 ⟨some ⟨t66,0,none⟩,0,0⟩ []) (zA0 (vs:=[]) rfl (by simp)) ?_
 refine zBO (us:=rs.map uM) (fun w hw=>hw.rdC (E:=zL) (by simp)) (zUl rs) (by simp only; omega) fun t71 ht71=>?_
 rw [List.nil_append]
 refine zRa (E:=zF) (esz:=1) (us:=r.map qy) (fun w hw=>hr w (hw.drops (Δ:=Γ))) (fun v hv=>by obtain ⟨b,_,rfl⟩:=List.mem_map.1 hv; rfl) (by omega) fun t74 ht74=>?_
 refine zI (Δ:=SlC zL 1 t71 (rs.map uM)::Sep.stars (rs.map vk)::SlC zF 1 t74 (r.map qy)::lgB l m { W with part:=part,dirty:=true } s::zk m (M.zCI (zM W.name part) (yP r)).1::Γ) ?_
 refine fun w hw=>zRy (by omega) hw fun s' w hw=>?_
 refine hg hw ?_
 clear hw w
 refine zAd (b:=l) (off:=5) (l:=lgL m { W with part:=part,dirty:=true } s) (l':=lgL m { W with part:=part,dirty:=true } s') ?_ rfl rfl
 refine zI (Δ:=lgB l m { W with part:=part,dirty:=true } s'::SlC zL 1 s' ((rs++[(t74,r)]).map uM)::Sep.stars ((rs++[(t74,r)]).map vk)::zk m (M.zCI (zM W.name part) (yP r)).1::Γ) ?_
 refine zDW (W:={ W with part:=part,used:=used + (yP r).length,dirty:=true,recs:=W.recs++[r] }) (by rw [List.map_append,hrs]; rfl) (h _ r1)
def q8.zPw (W:q8) (D:zC) (r:List UInt8) (b:Bool):zC×q8×Int:=if b = true then (if W.part = 9 then (D,W,2) else if (W.vV D).2.2 ≠ 0 then W.vV D else (W.vV D).2.1.put (W.vV D).1 (W.part + 1) 0 r) else W.put D W.part W.used r
theorem zVH {r:List UInt8}:W.app D r = W.zPw D r (decide (0 < W.used∧W.size < (W.used + (yP r).length:Nat))):=by
 unfold q8.app q8.zPw
 simp only [decide_eq_true_eq]
theorem zPx {r:List UInt8} {b:Bool} (hd:D.a.down = true) (hp:W.part ≤ 8):W.zPw D r b = (D,W,3):=by
 have hsy:W.vV D = (D,W,0)∨W.vV D = (D,W,3):=by
  unfold q8.vV
  split
  ·exact .inl rfl
  ·rename_i h
   right
   have e:D.sync (zM W.name W.part) = (D,3):=by unfold zC.sync; rw [if_pos hd]
   rw [e]
   have hdir:W.dirty = true:=by simpa using h
   cases W
   simp only at hdir
   subst hdir
   rfl
 have hpu:∀ part used,W.put D part used r = (D,W,3):=fun part used=>by
  unfold q8.put
  have e:D.append (zM W.name part) (yP r) = (D,3):=by unfold zC.append; rw [if_pos hd]
  rw [e]; rfl
 unfold q8.zPw
 split
 ·rw [if_neg (by omega)]
  rcases hsy with h | h
  ·rw [h,if_neg (by simp)]; exact hpu _ _
  ·rw [h,if_pos (by simp)]
 ·exact hpu _ _
theorem zQ0:(W.vV D).2.1.recs = W.recs∧(W.vV D).2.1.name = W.name:=by unfold q8.vV; split <;> exact ⟨rfl,rfl⟩
theorem zVI {rec:Sl} {r:List UInt8} {q:Int→K} (hD:OkD D) (hR:x9 D M) (hW:OkW W) (hl:r.length ≤ 4096) (hrl:W.recs.length ≤ 10000000) (hu:W.used = zGZ D (zM W.name W.part)∨D.a.down = true∧W.part ≤ 8) (hr:∀ w,Holds B Γ w→RdB w rec r)
  (h:∀ M',x9 (W.app D r).1 M'→HG B (LgR l m (W.app D r).2.1::zk m M'::Γ) (q (W.app D r).2.2)) :
  HG B (LgR l m W::zk m M::Γ) (yt.call (some ⟨l,0,none⟩) rec q):=by
 have hM:=hR.ok hD
 have hn:=hW.name
 have hpt:=hW.part
 have hfl:=qV r
 refine fun w hw=>zGT _ _ _ _ ?_
 refine hg hw ?_
 clear hw w
 unfold yt
 refine fun w hw=>zBa hl hw (fun w hw=>hr w (hw.drops (Δ:=Γ))) fun f w hw=>?_
 refine hg hw ?_
 clear hw w
 refine vw f fun f1 f2 f3 f4=>?_
 rw [List.length_map,Nat.mul_one] at f1
 refine s_f ?_ (by rfl)
 refine xM ?_
 refine zI (Δ:=LgR l m W::Bytes zF f (yP r)::zk m M::Γ) ?_
 refine zS1 fun s rs hrs=>?_
 refine yE (b:=l) (off:=3) (l:=lgL m W s) (x:=(W.part:Int)) ?_
 refine zAQ ?_
 refine zIc ?_
 refine zI (Δ:=lgB l m W s::zk m M::SlC zL 1 s (rs.map uM)::Sep.stars (rs.map vk)::Bytes zF f (yP r)::Γ) ?_
 refine zPu hpt (by omega) hM ?_
 refine zBb ?_
 have hfm:zGZ M (zM W.name W.part) = zGZ D (zM W.name W.part):=by unfold zGZ; rw [hR.get hD]
 rw [hfm]
 have hlen:zGZ D (zM W.name W.part) ≤ 1048576:=by
  unfold zGZ
  cases hm:zO (zM W.name W.part) D.files with
  | none=>simp
  | some x=>exact (zA4 hD hm).1
 generalize zGZ D (zM W.name W.part) = u at *
 have back:∀ {Q1:K},HG B (LgR l m W::zk m M::Bytes zF f (yP r)::Γ) Q1→HG B (lgB l m W s::zk m M::SlC zL 1 s (rs.map uM)::Sep.stars (rs.map vk)::Bytes zF f (yP r)::Γ) Q1:=fun {Q1} hq=>by
  refine zI (Δ:=lgB l m W s::SlC zL 1 s (rs.map uM)::Sep.stars (rs.map vk)::zk m M::Bytes zF f (yP r)::Γ) ?_
  exact zDW hrs hq
 have fin:∀ b:Bool,(∀ M',x9 (W.zPw D r b).1 M'→HG B (LgR l m (W.zPw D r b).2.1::zk m M'::Γ) (q (W.zPw D r b).2.2))→HG B (LgR l m W::zk m M::Bytes zF f (yP r)::Γ) (yt.s2 q ⟨l,0,none⟩ rec f (W.part:Int) b):=fun b hb=>by
  unfold yt.s2
  unfold q8.zPw at hb
  cases b with
  | false=>
   refine s_f ?_ (by rfl)
   rw [if_neg (by simp)] at hb
   refine zI (Δ:=Bytes zF f (yP r)::LgR l m W::zk m M::Γ) ?_
   exact zPv hD hR hpt (by omega) hl hrl hr hb
  | true=>
   refine s_t ?_ (by rfl)
   rw [if_pos rfl] at hb
   refine zAn ?_
   refine yA (fun h9=>?_) fun h9=>?_
   ·have h9':W.part = 9:=by simp only [decide_eq_true_eq] at h9; omega
    rw [if_pos h9'] at hb
    exact zI (Δ:=LgR l m W::zk m M::Γ) (hb M hR)
   have h9':¬ W.part = 9:=by simp only [decide_eq_false_iff_not] at h9; omega
   rw [if_neg h9'] at hb
   refine zMu hD hR hpt (by omega) fun M' hR'=>?_
   refine yA (fun h0=>?_) fun h0=>?_
   ·rw [if_pos (by simpa using h0)] at hb
    exact zI (Δ:=LgR l m (W.vV D).2.1::zk m M'::Γ) (hb M' hR')
   rw [if_neg (by simpa using h0)] at hb
   have hD':OkD (W.vV D).1:=by
    unfold q8.vV
    split
    ·exact hD
    ·exact (zIH hD).1
   have hsr:=zQ0 (W:=W) (D:=D)
   refine zI (Δ:=Bytes zF f (yP r)::LgR l m (W.vV D).2.1::zk m M'::Γ) ?_
   rw [show (W.part:Int) + 1 = ((W.part + 1:Nat):Int) by omega]
   exact zPv hD' hR' (by omega) (by rw [hsr.2]; omega) hl (by rw [hsr.1]; exact hrl) hr hb
 have fin2:∀ b:Bool,b = decide (0 < u∧W.size < (u + (yP r).length:Nat))→HG B (LgR l m W::zk m M::Bytes zF f (yP r)::Γ) (yt.s2 q ⟨l,0,none⟩ rec f (W.part:Int) b):=fun b hb=>by
  refine fin b ?_
  rcases hu with hu | ⟨hd,hp8⟩
  ·rw [zVH,hu,← hb] at h
   exact h
  ·rw [zVH,zPx hd hp8] at h
   rw [zPx hd hp8]
   exact h
 refine yA (fun h0=>?_) fun h0=>?_
 ·refine jR (b:=l) (off:=2) (l:=lgL m W s) (x:=W.size) ?_
  refine zPu hpt (by omega) hM ?_
  refine zBb ?_
  rw [hfm]
  refine vI (e':=((u + (yP r).length:Nat):Int)) (by rw [wrap64 (by omega) (by omega)]; omega) ?_
  refine back ?_
  refine fin2 _ ?_
  simp only [decide_eq_true_eq] at h0
  have:0 < u:=by omega
  simp only [this,true_and]
 ·refine back ?_
  refine fin2 _ ?_
  simp only [decide_eq_false_iff_not] at h0
  have:¬ 0 < u:=by omega
  simp only [this,false_and,decide_false]
end
end
section
open Go Go.Sep
section
variable {B:World} {Γ Δ:List zB} {k Q:K} {l m:Nat} {W:q8} {s:Sl} {rs:zFG} {M D:zC}
theorem zLQ (hD:OkD D) (n:List UInt8):OkD (D.remove n).1:=(zI3 hD).1
theorem zOB {n:List UInt8} {c:Int} (hD:OkD D):OkD (D.cut n c).1:=by
 unfold zC.cut
 split
 ·exact hD
 cases hm:zO n D.files with
 | none=>exact hD
 | some f=>
  simp only
  split
  ·exact hD
  have hu:=hD.used
  have hdl:=zA4 hD hm
  simp only
  split
  ·exact (hD.set (f':=⟨f.data.take c.toNat,min f.last c.toNat⟩) hm (by simp only [List.length_take]; omega) (by simp only [List.length_take]; omega)).chg
  ·exact hD.chg
theorem zQ1 {name dat:List UInt8} {f part:Nat} (e1:D.read (zM name part) = (dat,0)):jG name (f + 1) part D W =
  if (qB dat).2 = dat.length then jG name f (part + 1) D { W with recs:=W.recs++(qB dat).1,part:=part,used:=(qB dat).2 }
  else if (D.cut (zM name part) ((qB dat).2:Int)).2 ≠ 0 then ((D.cut (zM name part) ((qB dat).2:Int)).1,{ W with recs:=W.recs++(qB dat).1,part:=part,used:=(qB dat).2 },part,(D.cut (zM name part) ((qB dat).2:Int)).2)
  else ((D.cut (zM name part) ((qB dat).2:Int)).1,{ W with recs:=W.recs++(qB dat).1,part:=part,used:=(qB dat).2 },part + 1,0):=by
 rw [jG,e1]
 simp only
 rw [if_neg (by decide),if_neg (by decide)]
theorem zVJ {part:Nat} {q:Option Addr→Int→K} (hp:part ≤ 10) (hD:OkD D) (hR:x9 D M) (hn:W.name.length ≤ 8)
  (hno:(zBn W.name (10 - part) part D).2 ≠ 0→∀ M',x9 (zBn W.name (10 - part) part D).1 M'→HG B (zk m M'::Γ) (q none (zBn W.name (10 - part) part D).2))
  (hyes:(zBn W.name (10 - part) part D).2 = 0→∀ M',x9 (zBn W.name (10 - part) part D).1 M'→HG B (LgR l m W::zk m M'::Γ) (q (some ⟨l,0,none⟩) 0)) :
  HG B (LgR l m W::zk m M::Γ) (zw.s2 q ⟨m,0,none⟩ ⟨l,0,none⟩ (part:Int)):=by
 unfold zw.s2
 refine jm (α:=Int) (ι:=Nat×zC×zC) (fun y i=>y = (part:Int) + i.1 - 1∧part + i.1 ≤ 10∧zBn W.name (10 - part) part D = zBn W.name i.1 part i.2.1∧OkD i.2.1∧x9 i.2.1 i.2.2) (fun y i=>LgR l m W::zk m i.2.2::Γ) (fun y i=>i.1) (10 - part,D,M) ⟨by simp only; omega,by simp only; omega,rfl,hD,hR⟩ ?_
 rintro k' _ ⟨f,D',M'⟩ ⟨rfl,hf,he,hD',hR'⟩ hk'
 simp only at hf he hD' hR' hk' ⊢
 rw [he] at hno hyes
 unfold zw.b3
 refine yA (fun hb=>?_) fun hb=>?_
 rotate_left
 ·simp only [decide_eq_false_iff_not] at hb
  have:f = 0:=by omega
  subst this
  exact hyes rfl M' hR'
 simp only [decide_eq_true_eq] at hb
 obtain ⟨g,rfl⟩:∃ g,f = g + 1:=⟨f - 1,by omega⟩
 have hi:(part:Int) + ((g + 1:Nat):Int) - 1 = ((part + g:Nat):Int):=by omega
 rw [hi]
 refine zS1 fun s rs hrs=>?_
 refine zDX (by omega) (by omega) ?_
 refine zI (Δ:=zk m M'::lgB l m W s::SlC zL 1 s (rs.map uM)::Sep.stars (rs.map vk)::Γ) ?_
 refine zVG (hR'.ok hD') ?_
 obtain ⟨r1,r2⟩:=zLK (n:=zM W.name (part + g)) hR' hD'
 rw [r2]
 refine zI (Δ:=lgB l m W s::SlC zL 1 s (rs.map uM)::Sep.stars (rs.map vk)::zk m (M'.remove (zM W.name (part + g))).1::Γ) ?_
 refine zDW hrs ?_
 unfold zBn at hno hyes
 have s4:∀ t,t = decide ((D'.remove (zM W.name (part + g))).2 ≠ 0∧(D'.remove (zM W.name (part + g))).2 ≠ 60)→HG B (LgR l m W::zk m (M'.remove (zM W.name (part + g))).1::Γ) (zw.s4 q k' ⟨m,0,none⟩ ⟨l,0,none⟩ (part:Int) ((part + g:Nat):Int) (D'.remove (zM W.name (part + g))).2 t):=fun t ht=>by
  subst ht
  unfold zw.s4
  refine yA (fun hq=>?_) fun hq=>?_
  ·have hq':(D'.remove (zM W.name (part + g))).2 ≠ 0∧(D'.remove (zM W.name (part + g))).2 ≠ 60:=of_decide_eq_true hq
   rw [if_pos hq'] at hno
   exact zI (Δ:=zk m (M'.remove (zM W.name (part + g))).1::Γ) (hno hq'.1 _ r1)
  ·have hq':=of_decide_eq_false hq
   refine vI (e':=(part:Int) + g - 1) (by rw [wrap64 (by omega) (by omega)]; omega) ?_
   refine hk' _ (g,(D'.remove (zM W.name (part + g))).1,(M'.remove (zM W.name (part + g))).1) ⟨rfl,by simp only; omega,?_,zLQ hD' _,r1⟩ (by simp only; omega)
   rw [he,zBn,if_neg hq']
 refine yA (fun hq=>?_) fun hq=>?_
 ·simp only [ne_eq,decide_eq_true_eq] at hq
  exact s4 _ (by simp [hq])
 ·simp only [ne_eq,decide_eq_false_iff_not,Decidable.not_not] at hq
  exact s4 _ (by simp [hq])
theorem zYf {n:List UInt8} {q:Int→K} (hM:OkD M) (hno:zO n M.files = none→HG B (zk m M::Γ) (q (-1))) (hyes:zO n M.files ≠ none→∀ j:Nat,HG B (zk m M::Γ) (q (j:Int))):HG B (zk m M::Γ) (xX.call (some ⟨m,0,none⟩) (bs n) q):=by
 refine zSC fun s' fs L hpl hcov=>?_
 intro w hw
 have hfl:fs.length ≤ 1000:=by
  have h1:=hM.few
  have h2:fs.length = M.files.length:=by rw [← hpl]; simp
  omega
 refine zCo hfl hw (fun hn=>?_) fun l1 x l2 he hb=>?_
 ·exact zGH hpl hcov (hno (by rw [← hpl,zBC hn])) w hw
 ·exact zGH hpl hcov (hyes (by rw [← hpl,zC7 he hb]; simp) l1.length) w hw
theorem zQ2 {part g0:Nat} {data:Sl} {dat:List UInt8} {q:Option Addr→Int→K} {X5:Int→K} (hl:dat.length ≤ 2000000) (hrl:rs.length ≤ 10000000) (hcap:data.n ≤ data.c) (hdn:data.n = dat.length) (hsp:∀ a,data.a = some a→a.spot = none) (hr:∀ w,Holds B Γ w→RdB w data dat)
  (h:∀ (s':Sl) (rs':zFG),rs'.map Prod.snd = rs.map Prod.snd++(qB dat).1→HG B (lgB l m W s'::SlC zL 1 s' (rs'.map uM)::Sep.stars (rs'.map vk)::Γ) (zw.s7 q X5 ⟨m,0,none⟩ ⟨l,0,none⟩ (part:Int) data ((qB dat).2:Int))) :
  HG B (lgB l m W s::SlC zL 1 s (rs.map uM)::Sep.stars (rs.map vk)::Γ) (yM (α:=Int) (fun X x=>zw.b8 q X5 X ⟨m,0,none⟩ ⟨l,0,none⟩ (part:Int) data x) 0):=by
 refine jm (α:=Int) (ι:=Nat×List (List UInt8)×Sl×zFG) (fun y i=>y = (i.1:Int)∧i.1 ≤ dat.length∧i.2.2.2.map Prod.snd = rs.map Prod.snd++i.2.1∧qB dat = (i.2.1++(qB (dat.drop i.1)).1,i.1 + (qB (dat.drop i.1)).2)∧i.2.2.2.length ≤ rs.length + i.1) (fun y i=>lgB l m W i.2.2.1::SlC zL 1 i.2.2.1 (i.2.2.2.map uM)::Sep.stars (i.2.2.2.map vk)::Γ) (fun y i=>dat.length - i.1) (0,[],s,rs) ⟨rfl,by simp,by simp,by simp,by simp⟩ ?_
 rintro k' _ ⟨g,done,s',rs'⟩ ⟨rfl,hg,hrs,hpp,hcnt⟩ hk'
 simp only at hg hrs hpp hcnt hk' ⊢
 unfold zw.b8
 refine yA (fun hb=>?_) fun hb=>?_
 rotate_left
 ·simp only [decide_eq_false_iff_not] at hb
  have hz:dat.drop g = []:=List.drop_eq_nil_of_le (by omega)
  rw [hz,zET] at hpp
  simp only [List.append_nil,Nat.add_zero] at hpp
  rw [hpp] at h
  exact h s' rs' hrs
 simp only [decide_eq_true_eq] at hb
 have hdr:dat.drop g ≠ []:=fun e=>by
  have:=congrArg List.length e
  simp at this
  omega
 have hF:=zJg (dat.drop g)
 refine zCh (lo:=g) (hi:=data.n) (mx:=data.c) ?_
 refine fun w hw=>zBw (d:=dat.drop g) (by simp; omega) hw (fun w hw=>?_) (by simp only; omega) fun f w hw=>?_
 ·exact zFg (hr w (hw.drops (Δ:=Γ))) (by omega) hcap hsp
 refine Go.Sep.hg hw ?_
 clear hw w
 refine yA (fun he=>?_) fun he=>?_
 ·have he':(zP (dat.drop g)).2.2 ≠ 0:=by simp only [ne_eq,decide_eq_true_eq] at he; omega
  rw [zEU he'] at hpp
  simp only [List.append_nil,Nat.add_zero] at hpp
  rw [hpp] at h
  exact zI (Δ:=lgB l m W s'::SlC zL 1 s' (rs'.map uM)::Sep.stars (rs'.map vk)::Γ) (h s' rs' hrs)
 have he':(zP (dat.drop g)).2.2 = 0:=by simp only [ne_eq,decide_eq_false_iff_not] at he; omega
 rw [zFk hdr he',List.drop_drop] at hpp
 simp only at hpp
 obtain ⟨q1,q2,_⟩:=hF.ok he'
 have q3:=hF.le
 rw [List.length_drop] at q3
 refine yE (b:=l) (off:=5) (l:=lgL m W s') (x:=s') ?_
 refine zI (Δ:=SlC zL 1 s' (rs'.map uM)::Sep.stars (rs'.map vk)::Bytes zF f (zP (dat.drop g)).1::lgB l m W s'::Γ) ?_
 refine fun w hw=>zRy (by omega) hw fun s2 w hw=>?_
 refine Go.Sep.hg hw ?_
 clear hw w
 refine zAd (b:=l) (off:=5) (l:=lgL m W s') (l':=lgL m W s2) ?_ rfl rfl
 refine vI (e':=((g + (zP (dat.drop g)).2.1:Nat):Int)) (by rw [wrap64 (by omega) (by omega)]; omega) ?_
 refine hk' _ (g + (zP (dat.drop g)).2.1,done++[(zP (dat.drop g)).1],s2,rs'++[(f,(zP (dat.drop g)).1)]) ⟨rfl,by simp only; omega,?_,?_,?_⟩ (by simp only; omega)
 ·simp only
  rw [List.map_append,hrs,List.append_assoc]; rfl
 ·simp only
  rw [hpp,List.append_assoc]
  exact Prod.ext rfl (by simp only; omega)
 ·simp only [List.length_append,List.length_singleton]; omega
theorem zWf {Γ:List zB} {k:K} {l m:Nat} {W:q8} (hw:W.recs = []) (h:HG B (LgR l m W::Γ) k):HG B (lgB l m W ⟨none,0,0⟩::Γ) k:=fun w hw0=>by
 have h1:=((hw0.zA6).zAv zL 1)
 refine Go.Sep.hg h1 ?_
 refine zI (Δ:=lgB l m W ⟨none,0,0⟩::SlC zL 1 ⟨none,0,0⟩ []::Sep.stars []::Γ) ?_
 exact zDW (rs:=[]) (by rw [hw]; rfl) h
theorem zS4 {name:List UInt8} {size:Int} {q:Option Addr→Int→K} (hn:1 ≤ name.length∧name.length ≤ 8) (hsz:16 ≤ size∧size ≤ 65536) (hD:OkD D) (hR:x9 D M)
  (hno:((uG name size).load D).2.2 ≠ 0→∀ M',x9 ((uG name size).load D).1 M'→HG B (zk m M'::Γ) (q none ((uG name size).load D).2.2))
  (hyes:((uG name size).load D).2.2 = 0→∀ l M',x9 ((uG name size).load D).1 M'→HG B (LgR l m ((uG name size).load D).2.1::zk m M'::Γ) (q (some ⟨l,0,none⟩) 0)) :
  HG B (zk m M::Γ) (zw.call (some ⟨m,0,none⟩) (bs name) size q):=by
 have hM:=hR.ok hD
 have hsz':((bs name).size:Int) = name.length:=by simp [bs,ByteArray.size]
 refine fun w hw=>zLm _ _ _ _ _ ?_
 refine hg hw ?_
 clear hw w
 unfold zw
 refine s_f ?_ (by simp only [decide_eq_false_iff_not]; omega)
 refine s_f ?_ (by simp only [decide_eq_false_iff_not]; omega)
 refine s_f ?_ (by simp only [decide_eq_false_iff_not]; omega)
 unfold zw.s1
 refine s_f ?_ (by simp only [decide_eq_false_iff_not]; omega)
 refine xM ?_
 refine zSC fun s' fs L hpl hcov=>?_
 refine yE (b:=m) (off:=3) (l:=[.int .i64 M.a.room,s'.val,.int .i64 M.a.left,.bool M.a.down]) (x:=M.a.down) ?_
 refine zGH hpl hcov ?_
 have hda:M.a.down = D.a.down:=by rw [hR.a]
 unfold q8.load at hno hyes
 have hnm:(uG name size).name = name:=rfl
 rw [hnm] at hno hyes
 refine yA (fun hdn=>?_) fun hdn=>?_
 ·rw [hda] at hdn
  have e1:D.read (zM name 0) = ([],3):=by unfold zC.read; rw [if_pos hdn]
  have e2:jG name 10 0 D (uG name size) = (D,uG name size,0,3):=by
   unfold jG
   rw [e1,if_neg (by simp),if_pos (by simp)]
  rw [e2,if_pos (by simp)] at hno
  exact hno (by simp) M hR
 rw [hda] at hdn
 refine ql fun l=>?_
 refine zWf (W:=uG name size) rfl ?_
 have fin:∀ {part:Nat} {W':q8} {D' M':zC},part ≤ 10→jG name 10 0 D (uG name size) = (D',W',part,0)→W'.name = name→OkD D'→x9 D' M'→HG B (LgR l m W'::zk m M'::Γ) (zw.s2 q ⟨m,0,none⟩ ⟨l,0,none⟩ (part:Int)):=fun {part W' D' M'} hp he hW' hD' hR'=>by
  rw [he,if_neg (by simp)] at hno hyes
  rw [← hW'] at hno hyes
  exact zVJ hp hD' hR' (by rw [hW']; exact hn.2) (fun h0 M2 h2=>zI (Δ:=zk m M2::Γ) (hno h0 M2 h2)) fun h0 M2 h2=>hyes h0 l M2 h2
 refine jm (α:=Int) (ι:=Nat×q8) (fun y i=>y = (i.1:Int)∧i.1 ≤ 10∧i.2.name = name∧i.2.recs.length ≤ i.1 * 1048576∧jG name 10 0 D (uG name size) = jG name (10 - i.1) i.1 D i.2) (fun y i=>LgR l m i.2::zk m M::Γ) (fun y i=>10 - i.1) (0,uG name size) ⟨rfl,by simp,rfl,by simp [uG],rfl⟩ ?_
 rintro k' _ ⟨part,W'⟩ ⟨rfl,hp,hW',hrl,he⟩ hk'
 simp only at hp hW' hrl he hk' ⊢
 unfold zw.b5
 have s6f:jG name 10 0 D (uG name size) = (D,W',part,0)→HG B (LgR l m W'::zk m M::Γ) (zw.s6 q k' ⟨m,0,none⟩ ⟨l,0,none⟩ (part:Int) false):=fun h=>by
  unfold zw.s6
  refine s_f ?_ (by rfl)
  exact fin hp h hW' hD hR
 refine yA (fun hb=>?_) fun hb=>?_
 rotate_left
 ·have:part = 10:=by simp only [decide_eq_false_iff_not] at hb; omega
  subst this
  exact s6f (by rw [he]; rfl)
 have hp9:part ≤ 9:=by simp only [decide_eq_true_eq] at hb; omega
 obtain ⟨f,hf⟩:∃ f,10 - part = f + 1:=⟨9 - part,by omega⟩
 rw [hf] at he
 refine zS1 fun s rs hrs=>?_
 refine zDX hp9 (by rw [hW']; omega) ?_
 rw [hW']
 refine zI (Δ:=zk m M::lgB l m W' s::SlC zL 1 s (rs.map uM)::Sep.stars (rs.map vk)::Γ) ?_
 have hget:=hR.get hD (zM name part)
 refine zYf hM (fun hm=>?_) fun hm j=>?_
 ·rw [hget] at hm
  rw [show decide ((0:Int) ≤ -1) = false by rfl]
  refine zI (Δ:=lgB l m W' s::SlC zL 1 s (rs.map uM)::Sep.stars (rs.map vk)::zk m M::Γ) ?_
  refine zDW hrs ?_
  refine s6f ?_
  have e1:D.read (zM name part) = ([],60):=by unfold zC.read; rw [if_neg (by simp [hdn]),hm]
  rw [he]
  unfold jG
  rw [e1,if_pos rfl]
 ·rw [hget] at hm
  obtain ⟨x,hx⟩:=Option.ne_none_iff_exists'.1 hm
  have e1:D.read (zM name part) = (x.data,0):=by unfold zC.read; rw [if_neg (by simp [hdn]),hx]
  have hxl:=(zA4 hD hx).1
  rw [show decide ((0:Int) ≤ (j:Int)) = true by simp]
  unfold zw.s6
  refine s_t ?_ (by rfl)
  refine zI (Δ:=lgB l m W' s::zk m M::SlC zL 1 s (rs.map uM)::Sep.stars (rs.map vk)::Γ) ?_
  refine zDX hp9 (by rw [hW']; omega) ?_
  rw [hW']
  refine zI (Δ:=zk m M::lgB l m W' s::SlC zL 1 s (rs.map uM)::Sep.stars (rs.map vk)::Γ) ?_
  refine zS3 hM fun fb=>?_
  rw [zIE hR hD,e1]
  refine vw fb fun f1 f2 f3 f4=>?_
  rw [List.length_map,Nat.mul_one] at f1
  have f5:fb.n = x.data.length:=f1.symm
  have hrsl:rs.length = W'.recs.length:=by rw [← hrs]; simp
  refine zI (Δ:=lgB l m W' s::SlC zL 1 s (rs.map uM)::Sep.stars (rs.map vk)::Bytes zF fb x.data::zk m M::Γ) ?_
  have hpl1:=zHy _ x.data rfl
  refine zQ2 (dat:=x.data) (g0:=0) (by omega) (by omega) f2 f1.symm f3 (fun w hw=>Bytes.rd hw List.mem_cons_self) fun s2 rs2 hrs2=>?_
  rw [zQ1 e1] at he
  generalize hg:(qB x.data).2 = good at *
  unfold zw.s7
  let W2:q8:={ W' with recs:=W'.recs++(qB x.data).1,part:=part,used:=good }
  refine zAd (b:=l) (off:=3) (l:=lgL m W' s2) (l':=lgL m W2 s2) ?_ rfl rfl
  refine zAn ?_
  have hrs2':rs2.map Prod.snd = W2.recs:=by rw [hrs2,hrs]
  have hc1:(part:Int) + 1 = ((part + 1:Nat):Int):=by omega
  rw [hc1]
  refine yA (fun hgl=>?_) fun hgl=>?_
  ·have hgl':¬ good = x.data.length:=by simp only [decide_eq_true_eq] at hgl; omega
   rw [if_neg hgl'] at he
   refine vI (e':=(part:Int)) (by rw [wrap64 (by omega) (by omega)]; omega) ?_
   refine zDX (W:=W2) hp9 (by show W'.name.length ≤ 1000; rw [hW']; omega) ?_
   rw [show W2.name = name from hW']
   refine zI (Δ:=zk m M::lgB l m W2 s2::SlC zL 1 s2 (rs2.map uM)::Sep.stars (rs2.map vk)::Γ) ?_
   refine zVF hM ?_
   obtain ⟨r1,r2⟩:=zWc (n:=zM name part) (c:=(good:Int)) hR hD
   rw [r2]
   refine yA (fun hc=>?_) fun hc=>?_
   ·have hc':(D.cut (zM name part) (good:Int)).2 ≠ 0:=by simpa using hc
    rw [if_pos hc'] at he
    rw [he,if_pos hc'] at hno
    exact zI (Δ:=zk m (M.cut (zM name part) (good:Int)).1::Γ) (hno hc' _ r1)
   ·have hc':¬ (D.cut (zM name part) (good:Int)).2 ≠ 0:=by simpa using hc
    rw [if_neg hc'] at he
    refine zI (Δ:=lgB l m W2 s2::SlC zL 1 s2 (rs2.map uM)::Sep.stars (rs2.map vk)::zk m (M.cut (zM name part) (good:Int)).1::Γ) ?_
    refine zDW hrs2' ?_
    exact fin (by omega) he hW' (zOB hD) r1
  ·have hgl':good = x.data.length:=by simp only [decide_eq_false_iff_not] at hgl; omega
   rw [if_pos hgl'] at he
   refine zI (Δ:=lgB l m W2 s2::SlC zL 1 s2 (rs2.map uM)::Sep.stars (rs2.map vk)::zk m M::Γ) ?_
   refine zDW hrs2' ?_
   refine hk' _ (part + 1,W2) ⟨rfl,by simp only; omega,hW',?_,?_⟩ (by simp only; omega)
   ·show (W'.recs++(qB x.data).1).length ≤ (part + 1) * 1048576
    rw [List.length_append]
    omega
   ·rw [he]
    have:f = 10 - (part + 1):=by omega
    rw [this]
end
end
section
open Go Go.Sep
section
variable {B:World} {Γ:List zB}
theorem zQ3 {w:World} {n:Nat} {k:Sl→K} (hl:n < 18446744073709551616) (h:Holds B Γ w) (hk:∀ s w,Holds B (Bytes zF s (vM n)::Γ) w→k s w):uK.call (n:Int) k w:=by
 have hnl:=xO 9 n (by omega)
 refine zH1 _ _ _ ?_
 unfold uK
 refine xE h ?_
 clear h
 intro t5 w h
 try simp only [zR,Nat.zero_add,Nat.reduceAdd]
 replace h:=vL (xs:=[]) (n:=0) (by rfl) rfl h
 refine yM.of (fun t w=>∃ (m:Nat) (ys:List UInt8),t.2 = (m:Int)∧vM n = ys++vM m∧m ≤ n∧Holds B (Bytes zF t.1 ys::Γ) w) (fun t _=>t.2.toNat) ⟨n,[],rfl,rfl,Nat.le_refl _,h⟩ ?_
 clear h
 rintro ⟨g,t⟩ w ⟨m,ys,ht,he,hm,h⟩
 simp only at ht h
 subst ht
 dsimp only
 have hys:ys.length ≤ 10:=by
  have:=congrArg List.length he
  rw [List.length_append] at this
  omega
 unfold uK.b1
 refine yJ (fun hb=>?_) (fun hb=>?_)
 ·simp only [decide_eq_true_eq] at hb
  refine zDz (by decide) ?_
  refine qP (e':=((m % 128:Nat):Int)) (by rw [show (128:Int) = ((128:Nat):Int) from rfl,zR9]) ?_
  refine qP (e':=((m % 128 + 128:Nat):Int)) (by rw [xI (by omega) (by omega)]; omega) ?_
  refine qP (zCB _) ?_
  refine xE h ?_
  clear h
  intro t14 w h
  try simp only [zR,Nat.zero_add,Nat.reduceAdd]
  replace h:=vL (xs:=[u8 (m % 128 + 128)]) (n:=1) (by rfl) rfl h
  refine zA2 h.swap (Bytes.rd h List.mem_cons_self) (by simp; omega) fun t15 w h _ _=>?_
  refine zDz (by decide) ?_
  refine qP (e':=((m / 128:Nat):Int)) (by rw [show (128:Int) = ((128:Nat):Int) from rfl,zVD]; exact xI (by omega) (by omega)) ?_
  refine ⟨⟨m / 128,ys++[u8 (m % 128 + 128)],rfl,?_,by omega,h.del 1 at1⟩,by omega⟩
  rw [he,zAt (by omega)]
  simp
 ·simp only [decide_eq_false_iff_not] at hb
  refine qP (zCB _) ?_
  refine xE h ?_
  clear h
  intro t21 w h
  try simp only [zR,Nat.zero_add,Nat.reduceAdd]
  replace h:=vL (xs:=[u8 m]) (n:=1) (by rfl) rfl h
  refine zA2 h.swap (Bytes.rd h List.mem_cons_self) (by simp; omega) fun t15 w h _ _=>?_
  refine hk t15 _ ?_
  rw [he,u7 (by omega)]
  exact h.del 1 at1
theorem zFu {n:Nat} {q:Sl→K} (hl:n < 18446744073709551616) (h:∀ s,HG B (Bytes zF s (vM n)::Γ) (q s)):HG B Γ (uK.call (n:Int) q):=fun w hw=>zQ3 hl hw fun s w hw=>h s w hw
end
end
end Go.Proofs.YtgmbfnboiobeaaaGreat
