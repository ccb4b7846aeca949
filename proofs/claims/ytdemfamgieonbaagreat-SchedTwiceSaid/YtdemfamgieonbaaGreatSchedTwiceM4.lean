/- Texts of the claim SchedTwice, one behind the other. -/
import Derived.Test.YtdemfamgieonbaaGreatSchedTwiceM3
import Derived.Lib.ConvBytes
import Derived.Shelf.SortM.Plain
import Derived.Shelf.SortM.SortNone
import Derived.Ground.SlgmProg
import Derived.Test.YtdemfamgieonbaaGreatProg
set_option linter.all false
set_option maxRecDepth 100000
namespace Go.Proofs.YtdemfamgieonbaaGreat
section
open Go Go.Sep
abbrev TX:=List UInt8
def uD {α:Type} [DecidableEq α]:List α→List α
 | []=>[]
 | [x]=>[x]
 | x::y::L=>if y = x then uD (y::L) else x::uD (y::L)
theorem zFf {α:Type} [DecidableEq α]:∀ (A:List α) (a b:α),uD (A++[a,b]) = if b = a then uD (A++[a]) else uD (A++[a])++[b]
 | [],a,b=>by
  by_cases h:b = a <;> simp [uD,h]
 | [x],a,b=>by
  have h1:=zFf [] a b
  simp only [List.nil_append,List.singleton_append] at h1 ⊢
  rw [uD,h1]
  by_cases h:b = a
  ·rw [if_pos h,if_pos h]; simp [uD]
  ·rw [if_neg h,if_neg h]
   by_cases h2:a = x
   ·simp [uD,h2]
   ·simp [uD,h2]
 | x::y::A,a,b=>by
  have h1:=zFf (y::A) a b
  simp only [List.cons_append] at h1 ⊢
  rw [uD,h1]
  by_cases h:b = a
  ·rw [if_pos h,if_pos h,uD]
  ·rw [if_neg h,if_neg h]
   by_cases h2:y = x
   ·simp [uD,h2]
   ·simp [uD,h2]
theorem zFN {α:Type} [DecidableEq α]:∀ L:List α,(uD L).length ≤ L.length
 | []=>Nat.le_refl _
 | [x]=>Nat.le_refl _
 | x::y::L=>by
  have:=zFN (y::L)
  rw [uD]
  split
  ·exact Nat.le_succ_of_le this
  ·simp only [List.length_cons] at this ⊢; omega
theorem zHJ {α:Type} [DecidableEq α]:∀ {L:List α} {x:α},x ∈ uD L ↔ x ∈ L
 | [],x=>Iff.rfl
 | [y],x=>Iff.rfl
 | y::z::L,x=>by
  have ih:=zHJ (L:=z::L) (x:=x)
  rw [uD]
  split
  ·rename_i h
   rw [ih,h]; simp
  ·rw [List.mem_cons,ih,List.mem_cons (a:=x) (b:=y)]
theorem zLy:∀ (x:TX) (L:List TX),(∀ y ∈ L,x ≤ y)→∀ z,z ∈ (uD (x::L)).tail→(x::L).Pairwise (· ≤ ·)→x < z
 | x,[],_,z,hz,_=>by simp [uD] at hz
 | x,y::L,h,z,hz,hp=>by
  rw [uD] at hz
  have hp2:=List.pairwise_cons.1 hp
  split at hz
  ·rename_i e
   subst e
   exact zLy y L (fun w hw=>h w (List.mem_cons_of_mem _ hw)) z hz hp2.2
  ·rename_i e
   rw [List.tail_cons,zHJ] at hz
   have h1:x ≤ z:=h z hz
   rcases List.le_iff_lt_or_eq.1 h1 with h2 | h2
   ·exact h2
   ·exfalso
    have h3:y ≤ z:=by
     rcases List.mem_cons.1 hz with rfl | hz
     ·exact List.le_refl _
     ·exact (List.pairwise_cons.1 hp2.2).1 z hz
    have h4:x ≤ y:=h y List.mem_cons_self
    exact e (List.le_antisymm (by rw [h2]; exact h3) h4)
theorem zJ5:∀ (L:List TX),L.Pairwise (· ≤ ·)→(uD L).Pairwise (· < ·)
 | [],_=>List.Pairwise.nil
 | [x],_=>List.pairwise_singleton _ _
 | x::y::L,h=>by
  have ih:=zJ5 (y::L) (List.pairwise_cons.1 h).2
  rw [uD]
  split
  ·exact ih
  ·rename_i e
   refine List.pairwise_cons.2 ⟨fun z hz=>?_,ih⟩
   refine zLy x (y::L) (List.pairwise_cons.1 h).1 z ?_ h
   rw [uD,if_neg e]; exact hz
theorem zQZ:∀ {L M:List TX},L.Pairwise (· < ·)→M.Pairwise (· < ·)→(∀ x,x ∈ L ↔ x ∈ M)→L = M
 | [],[],_,_,_=>rfl
 | [],y::M,_,_,h=>by have:=(h y).2 List.mem_cons_self; simp at this
 | x::L,[],_,_,h=>by have:=(h x).1 List.mem_cons_self; simp at this
 | x::L,y::M,hL,hM,h=>by
  have h1:=List.pairwise_cons.1 hL
  have h2:=List.pairwise_cons.1 hM
  have hxy:x = y:=by
   rcases List.mem_cons.1 ((h x).1 List.mem_cons_self) with e | e
   ·exact e
   ·rcases List.mem_cons.1 ((h y).2 List.mem_cons_self) with e2 | e2
    ·exact e2.symm
    ·exact absurd (List.lt_trans (h1.1 y e2) (h2.1 x e)) (List.lt_irrefl _)
  subst hxy
  congr 1
  refine zQZ h1.2 h2.2 fun z=>?_
  constructor
  ·intro hz
   rcases List.mem_cons.1 ((h z).1 (List.mem_cons_of_mem _ hz)) with e | e
   ·subst e; exact absurd (h1.1 z hz) (List.lt_irrefl _)
   ·exact e
  ·intro hz
   rcases List.mem_cons.1 ((h z).2 (List.mem_cons_of_mem _ hz)) with e | e
   ·subst e; exact absurd (h2.1 z hz) (List.lt_irrefl _)
   ·exact e
theorem zWA (L:List TX):(zCl L).Pairwise (· ≤ ·):=by
 have:=List.pairwise_mergeSort (le:=fun a b:TX=>decide (a ≤ b)) (fun a b c h1 h2=>by simp only [decide_eq_true_eq] at *; exact List.le_trans h1 h2) (fun a b=>by simp only [Bool.or_eq_true,decide_eq_true_eq]; exact List.le_total a b) L
 refine List.Pairwise.imp ?_ this
 intro a b h; simpa using h
section
variable {B:World} {Γ Δ:List zB} {k:K}
theorem zRk {s:Sl} {L:List TX} {Q:Sl→K} (hL:L.length < 100000000) (h:∀ s',HG B (SlS s' (uD L)::Γ) (Q s')):HG B (SlS s L::Γ) (zP.call s Q):=by
 refine fun w hw=>zCr _ _ _ ?_
 refine hg hw ?_
 clear hw w
 unfold zP
 refine yS s fun a1 a2 a3 a4=>?_
 rw [List.length_map,Nat.mul_one] at a1
 refine zH (fun hb=>?_) fun hb=>?_
 ·have e:uD L = L:=by
   match L,a1 with
   | [],_=>rfl
   | [x],_=>rfl
   | x::y::L,a1=>simp only [List.length_cons] at a1; simp only [decide_eq_true_eq] at hb; omega
  rw [e] at h
  exact h s
 have hn2:2 ≤ L.length:=by simp only [decide_eq_false_iff_not] at hb; omega
 refine j4 (α:=Int) (fun x=>∃ i:Nat,x = (i:Int)∧1 ≤ i∧i ≤ L.length∧uD (L.take i) = L.take i) (fun x=>L.length - x.toNat) ⟨1,rfl,Nat.le_refl _,by omega,?_⟩ fun k' x hx hk'=>?_
 ·match L,hn2 with
  | x::L,_=>simp [uD]
 obtain ⟨i,rfl,hi1,hi,hc⟩:=hx
 unfold zP.b1
 refine zH (fun hb2=>?_) fun hb2=>?_
 rotate_left
 ·have hil:i = L.length:=by simp only [decide_eq_false_iff_not] at hb2; omega
  rw [hil,List.take_length] at hc
  rw [hc] at h
  exact h s
 have hil:i < L.length:=by simp only [decide_eq_true_eq] at hb2; omega
 obtain ⟨j,rfl⟩:∃ j,i = j + 1:=⟨i - 1,by omega⟩
 have step:∀ m,m + 1 < L.length→uD (L.take (m + 2)) = if L[m + 1]? = L[m]? then uD (L.take (m + 1)) else uD (L.take (m + 1))++L[m + 1]?.toList:=fun m hm=>by
  have t1:L.take (m + 2) = L.take m++[L[m],L[m + 1]]:=by rw [List.take_succ_eq_append_getElem hm,List.take_succ_eq_append_getElem (by omega),List.append_assoc]; rfl
  have t2:L.take (m + 1) = L.take m++[L[m]]:=List.take_succ_eq_append_getElem (by omega)
  rw [t1,t2,zFf,List.getElem?_eq_getElem hm,List.getElem?_eq_getElem (show m < L.length by omega)]
  simp
 obtain ⟨a,ha⟩:∃ a,L[j + 1]? = some a:=⟨_,List.getElem?_eq_getElem hil⟩
 obtain ⟨b,hb'⟩:∃ b,L[j]? = some b:=⟨_,List.getElem?_eq_getElem (by omega)⟩
 refine vk ?_
 refine zAa (L:=L) (j:=j + 1) (fun w hw=>(yh (s:=s) hw).1) ha ?_ rfl
 refine qU ?_
 refine zAa (L:=L) (j:=j) (fun w hw=>(yh (s:=s) hw).1) hb' ?_ (by omega)
 rw [uU,uU]
 have hst:=step j hil
 rw [ha,hb'] at hst
 refine zH (fun he=>?_) fun he=>?_
 rotate_left
 ·have hne:¬ some a = some b:=by simpa using he
  rw [if_neg hne] at hst
  refine qU ?_
  refine hk' _ ⟨j + 2,by simp; omega,by omega,hil,?_⟩ (by omega)
  rw [hst,hc,List.take_succ_eq_append_getElem hil]
  rw [List.getElem?_eq_getElem hil] at ha
  rw [Option.some.inj ha]; rfl
 have hab:some a = some b:=by simpa using he
 rw [if_pos hab,hc] at hst
 refine zAC (lo:=j + 1) (hi:=s.n) (mx:=s.c) ?_
 refine vQ (α:=Int×Int) (ι:=Nat×Nat×List TX) (fun y i=>y.1 = (i.1:Int)∧y.2 = (i.2.1:Int)∧1 ≤ i.2.1∧j + 1 + i.2.1 ≤ L.length∧i.1 < j + 1 + i.2.1∧i.2.2.length = L.length∧i.2.2.drop (j + i.2.1) = L.drop (j + i.2.1)∧i.2.2.take i.1 = uD (L.take (j + 1 + i.2.1)))
  (fun y i=>SlS s i.2.2::Γ) (fun y i=>L.length - i.2.1) (j + 1,1,L) ⟨rfl,rfl,Nat.le_refl _,by simp only; omega,by simp only; omega,rfl,rfl,hst.symm⟩ ?_
 rintro k2 ⟨_,_⟩ ⟨p,q,M⟩ ⟨rfl,rfl,hq1,hq,hpq,hM,hd,ht⟩ hk2
 simp only at hq1 hq hpq hM hd ht hk2 ⊢
 unfold zP.b2
 simp only
 refine yS s fun d1 d2 d3 d4=>?_
 rw [List.length_map,Nat.mul_one] at d1
 refine zH (fun hb3=>?_) fun hb3=>?_
 ·have hql:j + 1 + q < L.length:=by simp only [decide_eq_true_eq] at hb3; omega
  obtain ⟨x,hx⟩:∃ x,L[j + 1 + q]? = some x:=⟨_,List.getElem?_eq_getElem hql⟩
  obtain ⟨y,hy⟩:∃ y,L[j + q]? = some y:=⟨_,List.getElem?_eq_getElem (by omega)⟩
  have hMx:M[j + 1 + q]? = some x:=by
   have:=congrArg (·[1]?) hd
   simp only [List.getElem?_drop] at this
   rw [show j + q + 1 = j + 1 + q by omega] at this
   rw [this,hx]
  have hMy:M[j + q]? = some y:=by
   have:=congrArg (·[0]?) hd
   simp only [List.getElem?_drop,Nat.add_zero] at this
   rw [this,hy]
  have hrd:∀ w,Holds B (SlS s M::Γ) w→RdC w ⟨zBj s.a (j + 1) s.c 1,s.n - (j + 1),s.c - (j + 1)⟩ 1 ((M.drop (j + 1)).map xU):=fun w hw=>by
   have:=(yh (s:=s) hw).1.drop (l:=j + 1) (c:=s.c) (by omega) d2 d3
   rwa [Nat.mul_one,← List.map_drop] at this
  have hst2:=step (j + q) (by omega)
  rw [show j + q + 1 = j + 1 + q by omega,hx,hy,show j + q + 2 = j + 1 + (q + 1) by omega] at hst2
  refine vk ?_
  refine zAa (L:=M.drop (j + 1)) (j:=q) hrd (by rw [List.getElem?_drop]; exact hMx) ?_ rfl
  refine qU ?_
  refine zAa (L:=M.drop (j + 1)) (j:=q - 1) hrd (by rw [List.getElem?_drop,show j + 1 + (q - 1) = j + q by omega]; exact hMy) ?_ (by omega)
  rw [uU,uU]
  unfold zP.s3
  refine zH (fun he2=>?_) fun he2=>?_
  ·have hne:¬ some x = some y:=by simpa using he2
   rw [if_neg hne] at hst2
   refine zAa (L:=M.drop (j + 1)) (j:=q) hrd (by rw [List.getElem?_drop]; exact hMx) ?_ rfl
   refine vZ (s:=s) (i:=p) ?_
   rw [← add0 (elA s p 1)]
   refine zPx (s:=s) ?_ (by simp; omega)
   rw [show p * 1 + 0 = p by omega,show Value.string (bs x) = xU x from rfl,← List.map_set]
   refine qU ?_
   refine qU ?_
   refine hk2 _ (p + 1,q + 1,M.set p x) ⟨by simp,by simp,by simp only; omega,by simp only; omega,by simp only; omega,by simpa using hM,?_,?_⟩ (by simp only; omega)
   ·simp only
    rw [List.drop_set_of_lt (by omega),show j + (q + 1) = (j + q) + 1 by omega,← List.drop_drop,hd,List.drop_drop]
   ·simp only
    rw [zIv (by omega),ht,hst2]; rfl
  ·have heq:some x = some y:=by simpa using he2
   rw [if_pos heq] at hst2
   refine qU ?_
   refine hk2 _ (p,q + 1,M) ⟨rfl,by simp,by simp only; omega,by simp only; omega,by simp only; omega,hM,?_,?_⟩ (by simp only; omega)
   ·simp only
    rw [show j + (q + 1) = (j + q) + 1 by omega,← List.drop_drop,hd,List.drop_drop]
   ·simp only
    rw [ht,hst2]
 ·have hql:j + 1 + q = L.length:=by simp only [decide_eq_false_iff_not] at hb3; omega
  rw [hql,List.take_length] at ht
  refine zAC (lo:=p) (hi:=s.n) (mx:=s.c) ?_
  refine zCL (s:=s) (m:=p) (c':=s.c) (by omega) (by omega) (Nat.le_refl _) ?_
  rw [show (M.map xU).take (p * 1) = (uD L).map xU by rw [Nat.mul_one,← List.map_take,ht]]
  refine zIl (s:=⟨s.a,p,s.c⟩) (l:=p) (q:=s.n - p) (m:=s.c) rfl (Nat.le_refl _) (by simp only; omega) (by omega) ?_
  refine zAC (lo:=0) (hi:=p) (mx:=s.c) ?_
  rw [zJJ d3]
  exact h ⟨s.a,p,s.c⟩
theorem zWB {n:Nat} {Q:Sl→K} (hn:n < 50000000) (h:∀ s,s.n = 0→HG B (SlS s []::Γ) (Q s)):HG B Γ (zy.call ⟨none,0,0⟩ (n:Int) Q):=by
 refine fun w hw=>zDc _ _ _ _ ?_
 refine hg hw ?_
 clear hw w
 unfold zy
 refine s_f ?_ (by simp)
 unfold zy.s1
 refine zOd (s:=⟨none,0,0⟩) (E:=uh) (esz:=1) (by kernel_rfl) ?_
 refine zBK (e':=0) (by rw [wrap64 (by simp) (by simp)]; simp) ?_
 refine zBK (e':=(n:Int)) (by rw [wrap64 (by omega) (by omega)]; omega) ?_
 unfold zy.s2
 refine zH (fun hb=>?_) fun hb=>?_
 ·refine zOd (s:=⟨none,0,0⟩) (E:=uh) (esz:=1) (by kernel_rfl) ?_
  refine zAC (lo:=0) (hi:=0) (mx:=0) ?_
  refine zVT (s:=⟨none,0,0⟩) (vs:=[]) (E:=uh) (esz:=1) (by omega) (by simp only [decide_eq_true_eq] at hb; simp; omega) (by simp; omega) (fun s' zs hs' hz hf=>?_) (fun w hw=>RdC.none') (Nat.le_refl _)
  simp only [Nat.zero_add,List.nil_append] at hs' ⊢
  refine yS s' fun a1 a2 a3 a4=>?_
  refine zAC (lo:=0) (hi:=0) (mx:=s'.c) ?_ rfl (by simp) rfl
  rw [zJJ a3]
  refine zCL (s:=s') (m:=0) (c':=s'.c) (Nat.zero_le _) (Nat.zero_le _) (Nat.le_refl _) ?_
  simp only [Nat.zero_mul,List.take_zero,Nat.sub_zero]
  exact h ⟨s'.a,0,s'.c⟩ rfl
 ·refine fun w hw=>?_
  exact h ⟨none,0,0⟩ rfl w (hw.zAk _ _)
theorem zRl {t:Nat} {a b:Sl} {La Lb:List TX} {Q:Sl→K} (hla:La.length ≤ 10000000) (hlb:Lb.length ≤ 10000000) (ha:∀ w,Holds B Γ w→RdC w a 1 (La.map xU)) (hb:∀ w,Holds B Γ w→RdC w b 1 (Lb.map xU)) (h:∀ s,HG B (SlS s (La++Lb)::Γ) (Q s)) :
  HG B (blk t (.cells [a.val,b.val].toArray zAi (0,0))::Γ) (zT.call (Sl.mk (some ⟨t,0,none⟩) 2 2) Q):=fun w hw=>by
 refine zC8 _ _ _ ?_
 have han:a.n = La.length:=by have:=(ha w hw.tail).len; simpa using this.symm
 have hbn:b.n = Lb.length:=by have:=(hb w hw.tail).len; simpa using this.symm
 refine Sep.hg hw ?_
 clear hw w
 unfold zT
 have rd:∀ {X:List zB} [Drops X (blk t (.cells [a.val,b.val].toArray zAi (0,0))::Γ)],∀ w,Holds B X w→RdC w (Sl.mk (some ⟨t,0,none⟩) 2 2) 1 ([a,b].map Sl.val):=fun w hw=>by
  have:=RdC.zLM (esz:=1) (E:=zAi) (b:=t) (n:=2) (vs:=[a.val,b.val]) (cs:=[a.val,b.val].toArray) (Γ:=blk t (.cells [a.val,b.val].toArray zAi (0,0))::Γ) hw.drops List.mem_cons_self (by simp) rfl 2
  simpa using this
 refine vQ (α:=Int×Int) (ι:=Nat) (fun x j=>j ≤ 2∧x.2 = (j:Int)∧x.1 = (if j = 0 then 0 else if j = 1 then La.length else La.length + Lb.length:Nat)) (fun x j=>blk t (.cells [a.val,b.val].toArray zAi (0,0))::Γ) (fun x j=>2 - j) 0 ⟨by omega,rfl,rfl⟩ ?_
 rintro k' ⟨_,_⟩ j ⟨hj,rfl,rfl⟩ hk'
 simp only at hk' ⊢
 unfold zT.b1 zT.s2
 match j,hj with
 | 0,_=>
  refine s_t ?_
  refine zAA (L:=[a,b]) (j:=0) (x:=a) rd rfl ?_ rfl
  refine zBK (e':=(La.length:Int)) (by rw [wrap64 (by simp <;> omega) (by simp <;> omega)]; simp <;> omega) ?_
  refine s_f ?_
  refine qU ?_
  exact hk' _ 1 ⟨by omega,rfl,rfl⟩ (by omega)
 | 1,_=>
  refine s_t ?_
  refine zAA (L:=[a,b]) (j:=1) (x:=b) rd rfl ?_ rfl
  refine zBK (e':=((La.length + Lb.length:Nat):Int)) (by rw [wrap64 (by simp <;> omega) (by simp <;> omega)]; simp <;> omega) ?_
  refine s_f ?_
  refine qU ?_
  exact hk' _ 2 ⟨by omega,rfl,rfl⟩ (by omega)
 | 2,_=>
  refine s_f ?_
  refine zWB (n:=La.length + Lb.length) (by omega) fun s0 hs0=>?_
  refine vQ (α:=Sl×Int) (ι:=Nat) (fun x j=>j ≤ 2∧x.2 = (j:Int)∧x.1.n = (if j = 0 then 0 else if j = 1 then La.length else La.length + Lb.length)) (fun x j=>SlS x.1 (if j = 0 then [] else if j = 1 then La else La++Lb)::blk t (.cells [a.val,b.val].toArray zAi (0,0))::Γ) (fun x j=>2 - j) 0 ⟨by omega,rfl,hs0⟩ ?_
  rintro k2 ⟨s1,_⟩ j ⟨hj,rfl,hs1⟩ hk2
  simp only at hs1 hk2 ⊢
  unfold zT.b3
  match j,hj with
  | 0,_=>
   refine s_t ?_
   refine zAA (L:=[a,b]) (j:=0) (x:=a) rd rfl ?_ rfl
   simp only [if_true] at hs1
   refine xR (s:=s1) (us:=La.map xU) (fun w hw=>ha w hw.drops) (fun v hv=>by obtain ⟨y,_,rfl⟩:=List.mem_map.1 hv; rfl) (by omega) fun s2 hs2=>?_
   refine qU ?_
   exact hk2 (s2,1) 1 ⟨by omega,rfl,by show s2.n = La.length; omega⟩ (by omega)
  | 1,_=>
   refine s_t ?_
   refine zAA (L:=[a,b]) (j:=1) (x:=b) rd rfl ?_ rfl
   have hs1':s1.n = La.length:=hs1
   refine xR (s:=s1) (vs:=La.map xU) (us:=Lb.map xU) (fun w hw=>hb w hw.drops) (fun v hv=>by obtain ⟨y,_,rfl⟩:=List.mem_map.1 hv; rfl) (by omega) fun s2 hs2=>?_
   refine qU ?_
   rw [← List.map_append]
   exact hk2 (s2,2) 2 ⟨by omega,rfl,by show s2.n = La.length + Lb.length; omega⟩ (by omega)
  | 2,_=>
   refine s_f ?_
   show HG B (SlS s1 (La++Lb)::blk t (.cells [a.val,b.val].toArray zAi (0,0))::Γ) _
   exact zC (h s1)
end
end
section
open Go Go.Sep
def jW (L:List TX):List TX:=uD (zCl L)
theorem zQa (L:List TX):(jW L).Pairwise (· < ·):=zJ5 _ (zWA L)
theorem zJh {L:List TX} {x:TX}:x ∈ jW L ↔ x ∈ L:=by unfold jW; rw [zHJ,zT5]
theorem zHK (L:List TX):(jW L).length ≤ L.length:=by
 have:=zFN (zCl L)
 rwa [zNA] at this
section
variable {B:World} {Γ Δ:List zB} {k:K}
theorem zTT {s:Sl} {xs:List UInt8} {q:ByteArray→K} (hr:∀ w,Holds B Γ w→RdB w s xs) (h:HG B Γ (q (bs xs))):HG B Γ (Rd Tryz.prog (convert zH3 uh s.val) Value.string q):=fun w hw=>zVK (by kernel_rfl) (hr w hw) (h w hw)
theorem zO6 {s:Sl} {L:List TX} {key:TX} {Q:Bool→K} (hL:L.length < 1000000000) (hr:∀ w,Holds B Γ w→RdC w s 1 (L.map xU)) (h:HG B Γ (Q (decide (key ∈ L)))):HG B Γ (zBP.call s (bs key) Q):=fun w hw=>by
 refine zQQ _ _ _ _ ?_
 have hn:s.n = L.length:=by have:=(hr w hw).len; simpa using this.symm
 refine Sep.hg hw ?_
 clear hw w
 unfold zBP
 refine j4 (α:=Int) (fun x=>∃ i:Nat,x = (i:Int)∧i ≤ L.length∧key ∉ L.take i) (fun x=>L.length - x.toNat) ⟨0,rfl,Nat.zero_le _,by simp⟩ fun k' x hx hk'=>?_
 obtain ⟨i,rfl,hi,hno⟩:=hx
 unfold zBP.b1
 refine zH (fun hb=>?_) fun hb=>?_
 ·have hil:i < L.length:=by simp only [decide_eq_true_eq] at hb; omega
  have hge:L[i]? = some L[i]:=List.getElem?_eq_getElem hil
  have hmem:L[i] ∈ L:=List.getElem_mem hil
  have htk:L.take (i + 1) = L.take i++[L[i]]:=List.take_succ_eq_append_getElem hil
  generalize L[i] = x at hge hmem htk
  refine zAa hr hge ?_
  rw [uU,uU]
  refine zH (fun he=>?_) fun he=>?_
  ·have he':x = key:=by simpa using he
   rw [show decide (key ∈ L) = true by rw [← he']; simpa using hmem] at h
   exact h
  ·have he':¬ x = key:=by simpa using he
   refine qU ?_
   refine hk' _ ⟨i + 1,by simp,hil,?_⟩ (by omega)
   rw [htk]
   simp only [List.mem_append,List.mem_singleton,not_or]
   exact ⟨hno,fun e=>he' e.symm⟩
 ·have hil:i = L.length:=by simp only [decide_eq_false_iff_not] at hb; omega
  rw [hil,List.take_length] at hno
  rw [show decide (key ∈ L) = false by simpa using hno] at h
  exact h
end
end
section
open Go Go.Sep
abbrev zFg (t:TxX):Prop:=40 < t.reads.length∨40 < t.writes.length∨60 < t.ops.length∨(∃ k ∈ t.reads,200 < k.length)∨(∃ k ∈ t.writes,200 < k.length)∨∃ x ∈ t.ops,200 < x.1.key.length∨200 < x.1.val.length
abbrev zEb (a b:TxX):Prop:=a.kind = b.kind∧a.to = b.to∧a.reads = b.reads∧a.writes = b.writes∧a.ops.map Prod.fst = b.ops.map Prod.fst
section
variable {B:World} {Γ Γ0 Δ:List zB} {k:K}
theorem zHL {α β:Type} (f:α→List Value) {esz off:Nat} {L:List α} {s:Sl} {j:Nat} {jj:Int} {x:α} {c:β→Value} {v:β} {k:β→K} (hf:∀ x,(f x).length = esz) (hr:∀ w,Holds B Γ w→RdC w s esz (L.flatMap f)) (hx:L[j]? = some x) (hv:(f x)[off]? = some (c v)) (h:HG B Γ (k v)) (hj:jj = (j:Int):=by first | rfl | omega) :
  HG B Γ (Idx s jj esz fun t=>Ld (t.add off) c k):=fun w hw=>by
 subst hj
 have hrw:=hr w hw
 have hj:j < L.length:=(List.getElem?_eq_some_iff.1 hx).1
 have ho:off < esz:=by rw [← hf x]; exact (List.getElem?_eq_some_iff.1 hv).1
 have hn:L.length = s.n:=by
  have:=hrw.len; rw [zn f esz hf] at this
  exact Nat.eq_of_mul_eq_mul_right (by omega) this
 cases ha:s.a with
 | none=>have:=hrw.nil ha; omega
 | some a=>
  refine ⟨a,_,ha,by omega,by omega,rfl,v,?_,h w hw⟩
  simp only [Int.toNat_natCast]
  have h2:=zOW f esz hf hrw ha hx off (by simpa [hf] using ho)
  rw [h2]
  simpa using hv
theorem zTU {α β:Type} (f:α→List Value) {esz:Nat} {L:List α} {s:Sl} {j:Nat} {jj:Int} {x:α} {c:β→Value} {v:β} {k:β→K} (hf:∀ x,(f x).length = esz) (hr:∀ w,Holds B Γ w→RdC w s esz (L.flatMap f)) (hx:L[j]? = some x) (hv:(f x)[0]? = some (c v)) (h:HG B Γ (k v)) (hj:jj = (j:Int):=by first | rfl | omega) :
  HG B Γ (Idx s jj esz fun t=>Ld t c k):=fun w hw=>by
 obtain ⟨a,t,h1,h2,h3,h4,h5⟩:=zHL f (off:=0) hf hr hx hv h hj w hw
 rw [add0] at h5
 exact ⟨a,t,h1,h2,h3,h4,h5⟩
theorem zKz {w:World} {t:TxX} (h:zCs w t):t.rs.n = t.reads.length∧t.ws.n = t.writes.length∧t.os.n = t.ops.length :=
 ⟨by have:=h.1.len; simpa using this.symm,by have:=h.2.1.len; simpa using this.symm,zAb zBL (by omega) h.2.2.1⟩
theorem zRm {t:TxX} {Q:Bool→K} (hr:∀ w,Holds B Γ w→zCs w t) (h:HG B Γ (Q (decide (zFg t)))):HG B Γ (yQ.call (txL t).toArray Q):=fun w hw=>by
 refine zLm _ _ _ ?_
 obtain ⟨n1,n2,n3⟩:=zKz (hr w hw)
 refine Sep.hg hw ?_
 clear hw w
 unfold yQ
 refine zR fun t1=>?_
 have yes:zFg t→HG B (blk t1 (.cells (txL t).toArray yg (0,0))::Γ) (Q true):=fun hg=>by
  rw [show decide (zFg t) = true from decide_eq_true hg] at h
  exact zC h
 repeat refine zh ?_
 refine zH (fun hb=>?_) fun hb=>?_
 ·unfold yQ.s1
  exact s_t (yes (.inl (by simp only [decide_eq_true_eq] at hb; omega)))
 repeat refine zh ?_
 refine zH (fun hb2=>?_) fun hb2=>?_
 ·unfold yQ.s1
  exact s_t (yes (.inr (.inl (by simp only [decide_eq_true_eq] at hb2; omega))))
 repeat refine zh ?_
 by_cases hb3:60 < t.os.n
 ·rw [show decide ((60:Int) < (t.os.n:Int)) = true by simp; omega]
  unfold yQ.s1
  exact s_t (yes (.inr (.inr (.inl (by omega)))))
 rw [show decide ((60:Int) < (t.os.n:Int)) = false by simp; omega]
 simp only [decide_eq_false_iff_not] at hb hb2
 unfold yQ.s1
 repeat refine zh ?_
 refine j4 (α:=Int) (fun x=>∃ i:Nat,x = (i:Int)∧i ≤ t.reads.length∧∀ k ∈ t.reads.take i,k.length ≤ 200) (fun x=>t.reads.length - x.toNat) ⟨0,rfl,Nat.zero_le _,by simp⟩ fun k1 x hx hk1=>?_
 obtain ⟨i,rfl,hi,hs1⟩:=hx
 unfold yQ.b2
 repeat refine zh ?_
 refine zH (fun hc=>?_) fun hc=>?_
 ·have hil:i < t.reads.length:=by simp only [decide_eq_true_eq] at hc; omega
  have hge:t.reads[i]? = some t.reads[i]:=List.getElem?_eq_getElem hil
  have hmem:t.reads[i] ∈ t.reads:=List.getElem_mem hil
  have htk:t.reads.take (i + 1) = t.reads.take i++[t.reads[i]]:=List.take_succ_eq_append_getElem hil
  generalize t.reads[i] = x at hge hmem htk
  repeat refine zh ?_
  refine zAa (L:=t.reads) (fun w hw=>(hr w hw.tail).1) hge ?_
  have hsz:(bs x).size = x.length:=rfl
  refine zH (fun hd=>?_) fun hd=>?_
  ·exact yes (.inr (.inr (.inr (.inl ⟨x,hmem,by simp only [decide_eq_true_eq] at hd; omega⟩))))
  ·refine qU ?_
   refine hk1 _ ⟨i + 1,by simp,hil,fun y hy=>?_⟩ (by omega)
   rw [htk] at hy
   rcases List.mem_append.1 hy with hy | hy
   ·exact hs1 y hy
   ·rw [List.mem_singleton.1 hy]; simp only [decide_eq_false_iff_not] at hd; omega
 have hil:i = t.reads.length:=by simp only [decide_eq_false_iff_not] at hc; omega
 rw [hil,List.take_length] at hs1
 refine j4 (α:=Int) (fun x=>∃ i:Nat,x = (i:Int)∧i ≤ t.writes.length∧∀ k ∈ t.writes.take i,k.length ≤ 200) (fun x=>t.writes.length - x.toNat) ⟨0,rfl,Nat.zero_le _,by simp⟩ fun k2 x hx hk2=>?_
 obtain ⟨j,rfl,hj,hs2⟩:=hx
 unfold yQ.b3
 repeat refine zh ?_
 refine zH (fun hc2=>?_) fun hc2=>?_
 ·have hil:j < t.writes.length:=by simp only [decide_eq_true_eq] at hc2; omega
  have hge:t.writes[j]? = some t.writes[j]:=List.getElem?_eq_getElem hil
  have hmem:t.writes[j] ∈ t.writes:=List.getElem_mem hil
  have htk:t.writes.take (j + 1) = t.writes.take j++[t.writes[j]]:=List.take_succ_eq_append_getElem hil
  generalize t.writes[j] = x at hge hmem htk
  repeat refine zh ?_
  refine zAa (L:=t.writes) (fun w hw=>(hr w hw.tail).2.1) hge ?_
  have hsz:(bs x).size = x.length:=rfl
  refine zH (fun hd=>?_) fun hd=>?_
  ·exact yes (.inr (.inr (.inr (.inr (.inl ⟨x,hmem,by simp only [decide_eq_true_eq] at hd; omega⟩)))))
  ·refine qU ?_
   refine hk2 _ ⟨j + 1,by simp,hil,fun y hy=>?_⟩ (by omega)
   rw [htk] at hy
   rcases List.mem_append.1 hy with hy | hy
   ·exact hs2 y hy
   ·rw [List.mem_singleton.1 hy]; simp only [decide_eq_false_iff_not] at hd; omega
 have hjl:j = t.writes.length:=by simp only [decide_eq_false_iff_not] at hc2; omega
 rw [hjl,List.take_length] at hs2
 refine j4 (α:=Int) (fun x=>∃ i:Nat,x = (i:Int)∧i ≤ t.ops.length∧∀ y ∈ t.ops.take i,y.1.key.length ≤ 200∧y.1.val.length ≤ 200) (fun x=>t.ops.length - x.toNat) ⟨0,rfl,Nat.zero_le _,by simp⟩ fun k3 x hx hk3=>?_
 obtain ⟨m,rfl,hm,hs3⟩:=hx
 unfold yQ.b4
 repeat refine zh ?_
 refine zH (fun hc3=>?_) fun hc3=>?_
 ·have hil:m < t.ops.length:=by simp only [decide_eq_true_eq] at hc3; omega
  have hge:t.ops[m]? = some t.ops[m]:=List.getElem?_eq_getElem hil
  have hmem:t.ops[m] ∈ t.ops:=List.getElem_mem hil
  have htk:t.ops.take (m + 1) = t.ops.take m++[t.ops[m]]:=List.take_succ_eq_append_getElem hil
  generalize t.ops[m] = x at hge hmem htk
  repeat refine zh ?_
  refine zHL opF (off:=1) (c:=Value.string) (x:=x) (v:=bs x.1.key) zBL (fun w hw=>(hr w hw.tail).2.2.1) hge rfl ?_
  have hsz:(bs x.1.key).size = x.1.key.length:=rfl
  unfold yQ.s5
  refine zH (fun hd=>?_) fun hd=>?_
  ·refine s_t ?_
   exact yes (.inr (.inr (.inr (.inr (.inr ⟨x,hmem,.inl (by simp only [decide_eq_true_eq] at hd; omega)⟩)))))
  ·repeat refine zh ?_
   refine fun w hw=>?_
   have hxl:x.2.n = x.1.val.length:=by have:=((hr w hw.tail).2.2.2 x hmem).len; simpa using this.symm
   refine Sep.hg hw ?_
   clear hw w
   refine zHL opF (off:=2) (c:=Sl.val) (x:=x) (v:=x.2) zBL (fun w hw=>(hr w hw.tail).2.2.1) hge rfl ?_
   refine zH (fun he=>?_) fun he=>?_
   ·exact yes (.inr (.inr (.inr (.inr (.inr ⟨x,hmem,.inr (by simp only [decide_eq_true_eq] at he; omega)⟩)))))
   ·refine qU ?_
    refine hk3 _ ⟨m + 1,by simp,hil,fun y hy=>?_⟩ (by omega)
    rw [htk] at hy
    rcases List.mem_append.1 hy with hy | hy
    ·exact hs3 y hy
    ·rw [List.mem_singleton.1 hy]; simp only [decide_eq_false_iff_not] at hd he; omega
 ·have hml:m = t.ops.length:=by simp only [decide_eq_false_iff_not] at hc3; omega
  rw [hml,List.take_length] at hs3
  rw [show decide (zFg t) = false by
   simp only [decide_eq_false_iff_not]
   rintro (g | g | g | ⟨k,hk,g⟩ | ⟨k,hk,g⟩ | ⟨x,hx,g⟩)
   ·omega
   ·omega
   ·omega
   ·have:=hs1 k hk; omega
   ·have:=hs2 k hk; omega
   ·have:=hs3 x hx; omega] at h
  exact zC h
end
end
section
open Go Go.Sep Go.Sep.Bt
abbrev zAn (x:zBQ):List Value:=[.string x.1,.bool x.2.1.has,x.2.2.val,.int .i64 x.2.1.home,.int .u64 x.2.1.cnt]
theorem zDe (x:zBQ):(zAn x).length = 5:=rfl
theorem zWC (L:List zBQ):∀ v ∈ L.flatMap zAn,yX v = true:=fun v hv=>by
 obtain ⟨x,_,hx⟩:=List.mem_flatMap.1 hv
 simp only [zAn,List.mem_cons,List.not_mem_nil,or_false] at hx
 rcases hx with rfl | rfl | rfl | rfl | rfl <;> rfl
abbrev Pool:=List (Sl×List UInt8)
abbrev zaf (P:Pool):zB:=Sep.stars (P.map fun p=>Bytes yO p.1 p.2)
def inP (P:Pool) (s:Sl) (xs:List UInt8):Prop:=(xs = []∧s.n = 0)∨(s,xs) ∈ P
theorem inP.mono {P P':Pool} {s:Sl} {xs:List UInt8} (h:inP P s xs) (hP:∀ x ∈ P,x ∈ P'):inP P' s xs:=h.imp id (hP _)
theorem zWD {w:World} {s:Sl} (h:s.n = 0):RdB w s []:=⟨by simp [h],fun _=>h,fun a _ i hi=>by simp at hi⟩
theorem zLz {B w:World} {Γ:List zB} {α:Type} {F:α→zB} {l:List α} {x:α} (hx:x ∈ l) (h:Holds B (Sep.stars (l.map F)::Γ) w):∃ Δ,Holds B (F x::Δ) w:=by
 obtain ⟨A,C,rfl⟩:=List.append_of_mem hx
 exact ⟨_,((Holds.flat.1 h).perm zGV).perm List.perm_middle⟩
theorem inP.rd {B w:World} {Γ:List zB} {P:Pool} {s:Sl} {xs:List UInt8} (h:inP P s xs) (hw:Holds B (zaf P::Γ) w):RdB w s xs:=by
 rcases h with ⟨rfl,h⟩ | h
 ·exact zWD h
 ·obtain ⟨Δ,h2⟩:=zLz h hw
  exact h2.rdC List.mem_cons_self
structure R6 (n:Nat) (M:yY) (P:Pool) (X:List zBQ):Prop where
 mod:M = X.map zAd
 ok:∀ x ∈ X,x.2.1.ok∧inP P x.2.2 x.2.1.val
 n1:1 ≤ n
 n3:n ≤ 3
 srt:Srt jA M
abbrev zah (st n:Nat) (rs:Sl) (X:List zBQ) (Γ:List zB):List zB:=blk st (.cells [.int .i64 n,rs.val].toArray zGP (0,0))::SlC xX 5 rs (X.flatMap zAn)::Γ
def zai (st n:Nat) (M:yY) (P:Pool):zB:=ex fun rs=>ex fun X:List zBQ=>Sep.stars (pur (R6 n M P X)::zah st n rs X [])
section
variable {B:World} {Γ Δ:List zB} {k:K} {st n:Nat} {M:yY} {P:Pool}
instance (priority:=high) zaj:Sep.Own st (zai st n M P::Γ) (zai st n M P) Γ:=⟨.refl _⟩
end
end
section
open Go Go.Sep Go.Sep.Bt
section
variable {B:World} {Γ Δ:List zB}
end
end
end Go.Proofs.YtdemfamgieonbaaGreat
namespace Go.Proofs.YtdemfamgieonbaaGreat
open Go Go.Sep Go.Sep.Bt
section
variable {B:World} {Γ Δ:List zB} {k:K} {st sd n:Nat} {M:yY} {P:Pool}
end
end Go.Proofs.YtdemfamgieonbaaGreat
namespace Go.Proofs.YtdemfamgieonbaaGreat
open Go Go.Sep Go.RowKit
end Go.Proofs.YtdemfamgieonbaaGreat
namespace Go.Proofs.YtdemfamgieonbaaGreat
section
open Go Go.Sep
def vP (t:TxX) (o:OpM):Bool :=
 if 32 < o.val.length∨o.kind < 1∨7 < o.kind then false
 else if o.kind = 7 then decide (o.key = []) && decide (o.n = 0)
 else if o.key ∉ t.writes∧(o.key ∉ t.reads∨o.kind = 2∨o.kind = 3∨o.kind = 6) then false
 else if o.kind ≠ 6∧o.n ≠ 0 then false
 else decide (o.kind = 2) || (decide (o.kind = 4) || decide (o.val.length = 0))
abbrev zDD (L:List TX):Prop:=L.Pairwise (· < ·)
abbrev zAJ (n:Int) (t:TxX):Prop:=n < 1∨3 < n∨¬ zDD t.reads∨¬ zDD t.writes∨8 < t.reads.length∨8 < t.writes.length∨8 < t.reads.length + t.writes.length
abbrev zFh (t:TxX):Prop:=(∃ k ∈ t.reads++t.writes,k.length < 1∨16 < k.length)∨∃ k ∈ t.reads,k ∈ t.writes
def vE (n:Int) (t:TxX):Bool :=
 if zAJ n t then false
 else if zFh t then false
 else if t.kind = 2 then decide (t.reads.length = 0) && (decide (t.ops.length = 0) && (decide (t.writes.length = 1) && (decide (0 ≤ t.to) && decide (t.to < n))))
 else if t.kind ≠ 1∨t.to ≠ 0∨16 < t.ops.length then false
 else t.ops.all fun x=>vP t x.1
theorem zFi {a b:TxX} (h:zEb a b) (n:Int):vE n a = vE n b:=by
 obtain ⟨h1,h2,h3,h4,h5⟩:=h
 have hl:a.ops.length = b.ops.length:=by have:=congrArg List.length h5; simpa using this
 have ho:(a.ops.all fun x=>vP a x.1) = (b.ops.all fun x=>vP b x.1):=by
  have e:∀ o,vP a o = vP b o:=fun o=>by unfold vP; rw [h3,h4]
  have e2:∀ (t:TxX),(t.ops.all fun x=>vP b x.1) = ((t.ops.map Prod.fst).all fun o=>vP b o):=fun t=>by rw [List.all_map]; rfl
  simp only [e]
  rw [e2 a,e2 b,h5]
 unfold vE zAJ zFh
 rw [h1,h2,h3,h4,hl,ho]
theorem zNR {α β:Type} (f:α→β) (L:List α):L.flatMap (fun x=>[f x]) = L.map f:=by induction L <;> simp_all
section
variable {B:World} {Γ Δ:List zB} {k:K}
theorem zRn {α:Type} {a:Addr} {cs:List Value} {c:α→Value} {x:α} {k:α→K} (hn:∀ w,Holds B Γ w→RdN w a cs.toArray) (hv:cs[0]? = some (c x)) (h:HG B Γ (k x)):HG B Γ (Ld a c k):=fun w hw=>⟨x,by
 have:=hn w hw 0 (by have:=(List.getElem?_eq_some_iff.1 hv).1; simpa using this)
 rw [add0] at this
 rw [this]; simpa using hv,h w hw⟩
theorem zXo {Γ0:List zB} {a:Addr} {n:Nat} {cs:List Value} {k:Array Value→K} (hn:∀ w,Holds B Γ0 w→RdN w a cs.toArray) (hl:cs.length = n) (h:HG B Γ (k cs.toArray)):HG B Γ (vG (Holds B Γ0) a n k):=fun w hw=>⟨cs.toArray,by simpa using hl,fun w' hw'=>hn w' hw',h w hw⟩
theorem zDj {α:Type} (f:α→List Value) {esz:Nat} {L:List α} {s:Sl} {j:Nat} {jj:Int} {x:α} {k:Addr→K} (hf:∀ x,(f x).length = esz) (he:0 < esz) (hr:∀ w,Holds B Γ w→RdC w s esz (L.flatMap f)) (hx:L[j]? = some x) (h:∀ t,(∀ w,RdC w s esz (L.flatMap f)→RdN w t (f x).toArray)→HG B Γ (k t)) (hj:jj = (j:Int):=by first | rfl | omega) :
  HG B Γ (Idx s jj esz k):=fun w hw=>by
 subst hj
 have hrw:=hr w hw
 have hj:j < L.length:=(List.getElem?_eq_some_iff.1 hx).1
 have hn:L.length = s.n:=by
  have:=hrw.len; rw [zn f esz hf] at this
  exact Nat.eq_of_mul_eq_mul_right he this
 cases ha:s.a with
 | none=>have:=hrw.nil ha; omega
 | some a=>
  refine ⟨a,_,ha,by omega,by omega,rfl,h _ (fun w' hw'=>?_) w hw⟩
  simp only [Int.toNat_natCast]
  exact zOW f esz hf hw' ha hx
theorem zJ6 {s:Sl} {L:List TX} {Q:Bool→K} (hL:L.length < 1000000000) (hr:∀ w,Holds B Γ w→RdC w s 1 (L.map xU)) (h:HG B Γ (Q (decide (zDD L)))):HG B Γ (jG.call s Q):=fun w hw=>by
 refine zKK _ _ _ ?_
 have hn:s.n = L.length:=by have:=(hr w hw).len; simpa using this.symm
 refine Sep.hg hw ?_
 clear hw w
 unfold jG
 refine j4 (α:=Int) (fun x=>∃ i:Nat,x = (i:Int)∧1 ≤ i∧i ≤ L.length + 1∧zDD (L.take i)) (fun x=>L.length + 1 - x.toNat) ⟨1,rfl,Nat.le_refl _,by omega,?_⟩ fun k' x hx hk'=>?_
 ·match L with
  | []=>exact List.Pairwise.nil
  | x::L=>exact List.pairwise_singleton _ _
 obtain ⟨i,rfl,hi1,hi,hp⟩:=hx
 unfold jG.b1
 refine zH (fun hb=>?_) fun hb=>?_
 ·have hil:i < L.length:=by simp only [decide_eq_true_eq] at hb; omega
  obtain ⟨j,rfl⟩:∃ j,i = j + 1:=⟨i - 1,by omega⟩
  have g1:L[j]? = some L[j]:=List.getElem?_eq_getElem (by omega)
  have g2:L[j + 1]? = some L[j + 1]:=List.getElem?_eq_getElem hil
  have t1:L.take (j + 1) = L.take j++[L[j]]:=List.take_succ_eq_append_getElem (by omega)
  have t2:L.take (j + 1 + 1) = L.take (j + 1)++[L[j + 1]]:=List.take_succ_eq_append_getElem hil
  have hpi:zDD L→L[j] < L[j + 1]:=fun h=>(List.pairwise_iff_getElem.1 h) j (j + 1) (by omega) hil (by omega)
  generalize L[j] = x at g1 t1 hpi
  generalize L[j + 1] = y at g2 t2 hpi
  refine vk ?_
  refine qU ?_
  refine zAa hr g1 ?_ (by omega)
  refine zAa hr g2 ?_ (by omega)
  rw [uU,uU,zCM]
  refine zH (fun hc=>?_) fun hc=>?_
  ·have hxy:¬ x < y:=by simpa using hc
   rw [show decide (zDD L) = false from decide_eq_false fun h=>hxy (hpi h)] at h
   exact h
  ·have hxy:x < y:=by simpa using hc
   refine qU ?_
   refine hk' _ ⟨j + 2,by simp; omega,by omega,by omega,?_⟩ (by omega)
   rw [show j + 2 = j + 1 + 1 from rfl,t2]
   refine List.pairwise_append.2 ⟨hp,List.pairwise_singleton _ _,fun a ha b hb=>?_⟩
   rw [List.mem_singleton.1 hb]
   rw [t1] at ha hp
   rcases List.mem_append.1 ha with ha | ha
   ·exact List.lt_trans ((List.pairwise_append.1 hp).2.2 a ha x (by simp)) hxy
   ·rw [List.mem_singleton.1 ha]; exact hxy
 ·have hil:L.length ≤ i:=by simp only [decide_eq_false_iff_not] at hb; omega
  rw [List.take_of_length_le hil] at hp
  rw [show decide (zDD L) = true from decide_eq_true hp] at h
  exact h
theorem zXp {t:TxX} {x:OpX} {Q:Bool→K} (hr:∀ w,Holds B Γ w→zCs w t) (hl:t.reads.length < 100000000∧t.writes.length < 100000000) (hx:∀ w,Holds B Γ w→RdB w x.2 x.1.val) (h:HG B Γ (Q (vP t x.1))):HG B Γ (qJ.call (txL t).toArray (opF x).toArray Q):=fun w hw=>by
 refine zQR _ _ _ _ ?_
 have hxl:x.2.n = x.1.val.length:=by have:=(hx w hw).len; simpa using this.symm
 refine Sep.hg hw ?_
 clear hw w
 unfold qJ
 refine zR fun t2=>?_
 refine zR fun o3=>?_
 have fin:HG B (blk o3 (.cells (opF x).toArray qw (0,0))::blk t2 (.cells (txL t).toArray yg (0,0))::Γ) (Q (vP t x.1)):=zC h
 generalize hR:vP t x.1 = R at fin
 unfold vP at hR
 have S4:∀ b,(b = true ↔ x.1.kind ≠ 6∧x.1.n ≠ 0)→(if x.1.kind ≠ 6∧x.1.n ≠ 0 then false else decide (x.1.kind = 2) || (decide (x.1.kind = 4) || decide (x.1.val.length = 0))) = R→HG B (blk o3 (.cells (opF x).toArray qw (0,0))::blk t2 (.cells (txL t).toArray yg (0,0))::Γ) (qJ.s4 Q ⟨o3,0,none⟩ b):=fun b hb hR=>by
  unfold qJ.s4 qJ.s5
  refine zH (fun hb1=>?_) fun hb1=>?_
  ·rw [if_pos (hb.1 hb1)] at hR
   rw [hR]; exact fin
  ·rw [if_neg fun h=>by rw [hb.2 h] at hb1; cases hb1] at hR
   repeat refine zh ?_
   refine zH (fun hc=>?_) fun hc=>?_
   ·rw [hc] at hR
    rw [show true = R by rw [← hR]; rfl]; exact fin
   ·repeat refine zh ?_
    rw [hc] at hR
    refine zH (fun hd=>?_) fun hd=>?_
    ·rw [hd] at hR
     rw [show true = R by rw [← hR]; rfl]; exact fin
    ·repeat refine zh ?_
     rw [hd] at hR
     rw [show decide ((x.2.n:Int) = 0) = R by rw [← hR,hxl]; simp only [Bool.false_or]; exact decide_eq_decide.2 (by omega)]
     exact fin
 have S3:∀ b,(b = true ↔ x.1.key ∉ t.writes∧(x.1.key ∉ t.reads∨x.1.kind = 2∨x.1.kind = 3∨x.1.kind = 6))→(if x.1.key ∉ t.writes∧(x.1.key ∉ t.reads∨x.1.kind = 2∨x.1.kind = 3∨x.1.kind = 6) then false else if x.1.kind ≠ 6∧x.1.n ≠ 0 then false else decide (x.1.kind = 2) || (decide (x.1.kind = 4) || decide (x.1.val.length = 0))) = R→HG B (blk o3 (.cells (opF x).toArray qw (0,0))::blk t2 (.cells (txL t).toArray yg (0,0))::Γ) (qJ.s3 Q ⟨o3,0,none⟩ b):=fun b hb hR=>by
  unfold qJ.s3
  refine zH (fun hb1=>?_) fun hb1=>?_
  ·rw [if_pos (hb.1 hb1)] at hR
   rw [hR]; exact fin
  ·rw [if_neg fun h=>by rw [hb.2 h] at hb1; cases hb1] at hR
   repeat refine zh ?_
   refine zH (fun hc=>?_) fun hc=>?_
   ·have hc':x.1.kind ≠ 6:=by simpa using hc
    repeat refine zh ?_
    exact S4 _ (by simp [hc']) hR
   ·have hc':x.1.kind = 6:=by simpa using hc
    exact S4 _ (by simp [hc']) hR
 have S1:∀ b,(b = true ↔ 32 < x.1.val.length∨x.1.kind < 1∨7 < x.1.kind)→HG B (blk o3 (.cells (opF x).toArray qw (0,0))::blk t2 (.cells (txL t).toArray yg (0,0))::Γ) (qJ.s1 Q ⟨t2,0,none⟩ ⟨o3,0,none⟩ b):=fun b hb=>by
  unfold qJ.s1 qJ.s2
  refine zH (fun hb1=>?_) fun hb1=>?_
  ·rw [if_pos (hb.1 hb1)] at hR
   rw [hR]; exact fin
  ·rw [if_neg fun h=>by rw [hb.2 h] at hb1; cases hb1] at hR
   repeat refine zh ?_
   refine zH (fun hc=>?_) fun hc=>?_
   ·have hc':x.1.kind = 7:=by simpa using hc
    rw [if_pos hc'] at hR
    repeat refine zh ?_
    rw [uU]
    refine zH (fun hd=>?_) fun hd=>?_
    ·have hd':x.1.key = []:=by simpa using hd
     repeat refine zh ?_
     rw [show decide (x.1.n = 0) = R by rw [← hR,hd']; rfl]
     exact fin
    ·have hd':x.1.key ≠ []:=by simpa using hd
     rw [show false = R by rw [← hR,decide_eq_false hd']; rfl]
     exact fin
   ·have hc':x.1.kind ≠ 7:=by simpa using hc
    rw [if_neg hc'] at hR
    repeat refine zh ?_
    refine zO6 (L:=t.writes) (key:=x.1.key) (by omega) (fun w hw=>(hr w hw.drops).2.1) ?_
    by_cases hw1:x.1.key ∈ t.writes
    ·rw [decide_eq_true hw1]
     refine s_f ?_
     exact S3 _ (by simp [hw1]) hR
    rw [decide_eq_false hw1]
    refine s_t ?_
    repeat refine zh ?_
    refine zO6 (L:=t.reads) (key:=x.1.key) (by omega) (fun w hw=>(hr w hw.drops).1) ?_
    by_cases hr1:x.1.key ∈ t.reads
    ·rw [decide_eq_true hr1]
     refine s_f ?_
     repeat refine zh ?_
     refine zH (fun hd=>?_) fun hd=>?_
     ·exact S3 _ (by
              have:x.1.kind = 2:=by simpa using hd
              simp [hw1,this]) hR
     repeat refine zh ?_
     refine zH (fun he=>?_) fun he=>?_
     ·exact S3 _ (by
              have:x.1.kind = 3:=by simpa using he
              simp [hw1,this]) hR
     repeat refine zh ?_
     refine S3 _ ?_ hR
     have h2:¬ x.1.kind = 2:=by simpa using hd
     have h3:¬ x.1.kind = 3:=by simpa using he
     simp [hw1,hr1,h2,h3]
    ·rw [decide_eq_false hr1]
     refine s_t ?_
     exact S3 _ (by simp [hw1,hr1]) hR
 repeat refine zh ?_
 refine zH (fun hb=>?_) fun hb=>?_
 ·exact S1 _ (by
          have:32 < x.1.val.length:=by simp only [decide_eq_true_eq] at hb; omega
          simp [this])
 have h32:¬ 32 < x.1.val.length:=by simp only [decide_eq_false_iff_not] at hb; omega
 repeat refine zh ?_
 refine zH (fun hc=>?_) fun hc=>?_
 ·exact S1 _ (by
          have:x.1.kind < 1:=by simpa using hc
          simp [this])
 have h1:¬ x.1.kind < 1:=by simpa using hc
 repeat refine zh ?_
 refine S1 _ ?_
 simp [h32,h1]
theorem zRo {t:TxX} {n:Int} {Q:Bool→K} (hr:∀ w,Holds B Γ w→zCs w t) (hl:t.reads.length < 10000000∧t.writes.length < 10000000∧t.ops.length < 10000000) (h:HG B Γ (Q (vE n t))):HG B Γ (zk.call (txL t).toArray n Q):=fun w hw=>by
 refine zLn _ _ _ _ ?_
 obtain ⟨n1,n2,n3⟩:=zKz (hr w hw)
 refine Sep.hg hw ?_
 clear hw w
 unfold zk
 refine zR fun t2=>?_
 have fin:HG B (blk t2 (.cells (txL t).toArray yg (0,0))::Γ) (Q (vE n t)):=zC h
 generalize hR:vE n t = R at fin
 unfold vE at hR
 have S1:∀ b,(b = true ↔ zAJ n t)→HG B (blk t2 (.cells (txL t).toArray yg (0,0))::Γ) (zk.s1 Q n ⟨t2,0,none⟩ b):=fun b hb=>by
  unfold zk.s1
  refine zH (fun hb1=>?_) fun hb1=>?_
  ·rw [if_pos (hb.1 hb1)] at hR
   rw [hR]; exact fin
  rw [if_neg fun h=>by rw [hb.2 h] at hb1; cases hb1] at hR
  refine vk ?_
  refine zBw [blk t2 (.cells (txL t).toArray yg (0,0))] ?_
  repeat refine zh ?_
  refine zR fun t9=>?_
  refine zCh (A':=SlC uh 1 ⟨some ⟨t9,0,none⟩,0,0⟩ []) (zEI (vs:=[]) rfl (by simp)) ?_
  repeat refine zh ?_
  refine xR (s:=⟨some ⟨t9,0,none⟩,0,0⟩) (us:=t.reads.map xU) (fun w hw=>(hr w hw.drops).1) (fun v hv=>by obtain ⟨y,_,rfl⟩:=List.mem_map.1 hv; rfl) (by simp only; omega) fun a1 ha1=>?_
  repeat refine zh ?_
  refine xR (s:=a1) (us:=t.writes.map xU) (fun w hw=>(hr w hw.drops).2.1) (fun v hv=>by obtain ⟨y,_,rfl⟩:=List.mem_map.1 hv; rfl) (by simp only at ha1; omega) fun all hall=>?_
  rw [show []++t.reads.map xU++t.writes.map xU = (t.reads++t.writes).map xU by simp]
  have hln:(t.reads++t.writes).length = t.reads.length + t.writes.length:=List.length_append
  have halln:all.n = t.reads.length + t.writes.length:=by simp only at ha1; omega
  have fin2:HG B (SlS all (t.reads++t.writes)::blk t2 (.cells (txL t).toArray yg (0,0))::Γ) (Q R):=zC fin
  refine j4 (α:=Int) (fun x=>∃ i:Nat,x = (i:Int)∧i ≤ (t.reads++t.writes).length∧(∀ k ∈ (t.reads++t.writes).take i,1 ≤ k.length∧k.length ≤ 16)∧∀ k ∈ t.reads.take i,k ∉ t.writes) (fun x=>(t.reads++t.writes).length - x.toNat) ⟨0,rfl,Nat.zero_le _,by simp,by simp⟩ fun k1 x hx hk1=>?_
  obtain ⟨i,rfl,hi,hs1,hs2⟩:=hx
  unfold zk.b2
  refine zH (fun hc=>?_) fun hc=>?_
  ·have hil:i < (t.reads++t.writes).length:=by simp only [decide_eq_true_eq] at hc; omega
   have hge:(t.reads++t.writes)[i]? = some (t.reads++t.writes)[i]:=List.getElem?_eq_getElem hil
   have hmem:(t.reads++t.writes)[i] ∈ t.reads++t.writes:=List.getElem_mem hil
   have htk:(t.reads++t.writes).take (i + 1) = (t.reads++t.writes).take i++[(t.reads++t.writes)[i]]:=List.take_succ_eq_append_getElem hil
   have hrt:t.reads.take (i + 1) = t.reads.take i++if i < t.reads.length then [(t.reads++t.writes)[i]] else []:=by
    by_cases hir:i < t.reads.length
    ·rw [if_pos hir,List.take_succ_eq_append_getElem hir,List.getElem_append_left hir]
    ·rw [if_neg hir,List.take_of_length_le (by omega),List.take_of_length_le (by omega),List.append_nil]
   generalize (t.reads++t.writes)[i] = x at hge hmem htk hrt
   have hsz:(bs x).size = x.length:=rfl
   have S3:∀ b,(b = true ↔ (x.length < 1∨16 < x.length)∨(i < t.reads.length∧x ∈ t.writes))→HG B (SlS all (t.reads++t.writes)::blk t2 (.cells (txL t).toArray yg (0,0))::Γ) (zk.s3 Q k1 n ⟨t2,0,none⟩ all (i:Int) b):=fun b hb=>by
    unfold zk.s3
    refine zH (fun hb1=>?_) fun hb1=>?_
    ·have:zFh t:=by
      rcases hb.1 hb1 with h | ⟨h,h'⟩
      ·exact .inl ⟨x,hmem,h⟩
      ·refine .inr ⟨x,?_,h'⟩
       rw [List.getElem?_append_left h] at hge
       exact List.mem_of_getElem? hge
     rw [if_pos this] at hR
     rw [hR]; exact fin2
    ·have hnb:¬ ((x.length < 1∨16 < x.length)∨(i < t.reads.length∧x ∈ t.writes)):=fun h=>by rw [hb.2 h] at hb1; cases hb1
     refine qU ?_
     refine hk1 _ ⟨i + 1,by simp,hil,fun y hy=>?_,fun y hy=>?_⟩ (by omega)
     ·rw [htk] at hy
      rcases List.mem_append.1 hy with hy | hy
      ·exact hs1 y hy
      ·rw [List.mem_singleton.1 hy]; omega
     ·rw [hrt] at hy
      rcases List.mem_append.1 hy with hy | hy
      ·exact hs2 y hy
      ·split at hy
       ·rename_i hir
        rw [List.mem_singleton.1 hy]
        exact fun hxw=>hnb (.inr ⟨hir,hxw⟩)
       ·cases hy
   refine vk ?_
   refine zAa (L:=t.reads++t.writes) (fun w hw=>(yh (s:=all) hw).1) hge ?_
   refine zH (fun hd=>?_) fun hd=>?_
   ·exact S3 _ (by
            have:x.length < 1:=by simp only [decide_eq_true_eq] at hd; omega
            simp [this])
   refine zAa (L:=t.reads++t.writes) (fun w hw=>(yh (s:=all) hw).1) hge ?_
   have hd':¬ x.length < 1:=by simp only [decide_eq_false_iff_not] at hd; omega
   refine zH (fun he=>?_) fun he=>?_
   ·exact S3 _ (by
            have:16 < x.length:=by simp only [decide_eq_true_eq] at he; omega
            simp [this])
   have he':¬ 16 < x.length:=by simp only [decide_eq_false_iff_not] at he; omega
   repeat refine zh ?_
   refine zH (fun hf=>?_) fun hf=>?_
   ·have hir:i < t.reads.length:=by simp only [decide_eq_true_eq] at hf; omega
    refine zDj (fun x:TX=>[xU x]) (L:=t.reads++t.writes) (esz:=1) (fun _=>rfl) (by omega) (fun w hw=>by rw [zNR]; exact (yh (s:=all) hw).1) hge (fun t86 ht86=>?_) rfl
    repeat refine zh ?_
    refine zRn (cs:=[xU x]) (x:=bs x) (fun w hw=>ht86 w (by rw [zNR]; exact (yh (s:=all) hw).1)) rfl ?_
    refine zO6 (L:=t.writes) (key:=x) (by omega) (fun w hw=>(hr w hw.drops).2.1) ?_
    exact S3 _ (by
            rw [decide_eq_true_eq]; constructor
            ·exact fun h=>.inr ⟨hir,h⟩
            ·rintro ((h | h) | h)
             ·exact absurd h hd'
             ·exact absurd h he'
             ·exact h.2)
   ·have hir:¬ i < t.reads.length:=by simp only [decide_eq_false_iff_not] at hf; omega
    exact S3 _ (by
            constructor
            ·exact fun h=>by cases h
            ·rintro ((h | h) | h)
             ·exact absurd h hd'
             ·exact absurd h he'
             ·exact absurd h.1 hir)
  have hil:i = (t.reads++t.writes).length:=by simp only [decide_eq_false_iff_not] at hc; omega
  rw [hil,List.take_length] at hs1
  rw [List.take_of_length_le (by omega)] at hs2
  rw [if_neg (by
   rintro (⟨k,hk,h⟩ | ⟨k,hk,h⟩)
   ·have:=hs1 k hk; omega
   ·exact hs2 k hk h)] at hR
  have S4:∀ b,b = R→HG B (SlS all (t.reads++t.writes)::blk t2 (.cells (txL t).toArray yg (0,0))::Γ) (zk.s4 Q k1 b):=fun b hb=>by
   unfold zk.s4
   rw [hb]; exact fin2
  repeat refine zh ?_
  refine zH (fun hd=>?_) fun hd=>?_
  ·have hk2:t.kind = 2:=by simpa using hd
   rw [if_pos hk2] at hR
   repeat refine zh ?_
   refine zH (fun he=>?_) fun he=>?_
   rotate_left
   ·refine S4 _ ?_
    rw [← hR,show decide (t.reads.length = 0) = false from decide_eq_false (by simp only [decide_eq_false_iff_not] at he; omega)]; rfl
   rw [show decide (t.reads.length = 0) = true from decide_eq_true (by simp only [decide_eq_true_eq] at he; omega),Bool.true_and] at hR
   repeat refine zh ?_
   refine zH (fun he2=>?_) fun he2=>?_
   rotate_left
   ·refine S4 _ ?_
    rw [← hR,show decide (t.ops.length = 0) = false from decide_eq_false (by simp only [decide_eq_false_iff_not] at he2; omega)]; rfl
   rw [show decide (t.ops.length = 0) = true from decide_eq_true (by simp only [decide_eq_true_eq] at he2; omega),Bool.true_and] at hR
   repeat refine zh ?_
   refine zH (fun he3=>?_) fun he3=>?_
   rotate_left
   ·refine S4 _ ?_
    rw [← hR,show decide (t.writes.length = 1) = false from decide_eq_false (by simp only [decide_eq_false_iff_not] at he3; omega)]; rfl
   rw [show decide (t.writes.length = 1) = true from decide_eq_true (by simp only [decide_eq_true_eq] at he3; omega),Bool.true_and] at hR
   repeat refine zh ?_
   refine zH (fun he4=>?_) fun he4=>?_
   rotate_left
   ·refine S4 _ ?_
    rw [← hR,he4]; rfl
   rw [he4,Bool.true_and] at hR
   repeat refine zh ?_
   exact S4 _ hR
  have hk2:¬ t.kind = 2:=by simpa using hd
  rw [if_neg hk2] at hR
  have S5:∀ b,(b = true ↔ t.kind ≠ 1∨t.to ≠ 0∨16 < t.ops.length)→HG B (SlS all (t.reads++t.writes)::blk t2 (.cells (txL t).toArray yg (0,0))::Γ) (zk.s5 Q k1 ⟨t2,0,none⟩ b):=fun b hb=>by
   unfold zk.s5
   refine zH (fun hb1=>?_) fun hb1=>?_
   ·rw [if_pos (hb.1 hb1)] at hR
    rw [hR]; exact fin2
   rw [if_neg fun h=>by rw [hb.2 h] at hb1; cases hb1] at hR
   refine j4 (α:=Int) (fun x=>∃ i:Nat,x = (i:Int)∧i ≤ t.ops.length∧((t.ops.take i).all fun x=>vP t x.1) = true) (fun x=>t.ops.length - x.toNat) ⟨0,rfl,Nat.zero_le _,by simp⟩ fun k6 x hx hk6=>?_
   obtain ⟨m,rfl,hm,hs3⟩:=hx
   unfold zk.b6
   repeat refine zh ?_
   refine zH (fun hc6=>?_) fun hc6=>?_
   ·have hml:m < t.ops.length:=by simp only [decide_eq_true_eq] at hc6; omega
    have hge:t.ops[m]? = some t.ops[m]:=List.getElem?_eq_getElem hml
    have hmem:t.ops[m] ∈ t.ops:=List.getElem_mem hml
    have htk:t.ops.take (m + 1) = t.ops.take m++[t.ops[m]]:=List.take_succ_eq_append_getElem hml
    generalize t.ops[m] = x at hge hmem htk
    repeat refine zh ?_
    refine zAw opF zBL (fun w hw=>(hr w hw.drops).2.2.1) hge ?_
    refine zXp (t:=t) (x:=x) (fun w hw=>hr w hw.drops) ⟨by omega,by omega⟩ (fun w hw=>(hr w hw.drops).2.2.2 x hmem) ?_
    by_cases ho:vP t x.1 = true
    ·rw [ho]
     refine s_f ?_
     refine qU ?_
     refine hk6 _ ⟨m + 1,by simp,hml,?_⟩ (by omega)
     rw [htk,List.all_append,hs3]; simpa using ho
    ·have ho':vP t x.1 = false:=by simpa using ho
     rw [ho']
     refine s_t ?_
     rw [show false = R by rw [← hR]; symm; rw [List.all_eq_false]; exact ⟨x,hmem,by simpa using ho'⟩]
     exact fin2
   ·have hml:m = t.ops.length:=by simp only [decide_eq_false_iff_not] at hc6; omega
    rw [hml,List.take_length] at hs3
    rw [show true = R by rw [← hR,hs3]]
    exact fin2
  repeat refine zh ?_
  refine zH (fun he=>?_) fun he=>?_
  ·exact S5 _ (by
           have:t.kind ≠ 1:=by simpa using he
           simp [this])
  have hk1':t.kind = 1:=by simpa using he
  repeat refine zh ?_
  refine zH (fun hf=>?_) fun hf=>?_
  ·exact S5 _ (by
           have:t.to ≠ 0:=by simpa using hf
           simp [this])
  have hto:t.to = 0:=by simpa using hf
  repeat refine zh ?_
  refine S5 _ ?_
  simp [hk1',hto]
  omega
 refine zH (fun hb=>S1 _ (by
                  have:n < 1:=by simpa using hb
                  simp [zAJ,this])) fun hb=>?_
 have hn1:¬ n < 1:=by simpa using hb
 refine zH (fun hb=>S1 _ (by
                  have:3 < n:=by simpa using hb
                  simp [zAJ,this])) fun hb=>?_
 have hn3:¬ 3 < n:=by simpa using hb
 repeat refine zh ?_
 refine zJ6 (L:=t.reads) (by omega) (fun w hw=>(hr w hw.drops).1) ?_
 by_cases hr1:zDD t.reads
 rotate_left
 ·rw [decide_eq_false hr1]
  exact s_t (S1 _ (by simp [zAJ,hr1]))
 rw [decide_eq_true hr1]
 refine s_f ?_
 repeat refine zh ?_
 refine zJ6 (L:=t.writes) (by omega) (fun w hw=>(hr w hw.drops).2.1) ?_
 by_cases hr2:zDD t.writes
 rotate_left
 ·rw [decide_eq_false hr2]
  exact s_t (S1 _ (by simp [zAJ,hr2]))
 rw [decide_eq_true hr2]
 refine s_f ?_
 repeat refine zh ?_
 refine zH (fun hb=>S1 _ (by
                  have:8 < t.reads.length:=by simp only [decide_eq_true_eq] at hb; omega
                  simp [zAJ,this])) fun hb=>?_
 have h8:¬ 8 < t.reads.length:=by simp only [decide_eq_false_iff_not] at hb; omega
 repeat refine zh ?_
 refine zH (fun hb=>S1 _ (by
                  have:8 < t.writes.length:=by simp only [decide_eq_true_eq] at hb; omega
                  simp [zAJ,this])) fun hb=>?_
 have h9:¬ 8 < t.writes.length:=by simp only [decide_eq_false_iff_not] at hb; omega
 repeat refine zh ?_
 refine zBK (e':=(t.reads.length + t.writes.length:Int)) (by rw [wrap64 (by omega) (by omega)]; omega) ?_
 refine S1 _ ?_
 simp only [zAJ,hn1,hn3,hr1,hr2,h8,h9,not_true,false_or,decide_eq_true_eq]
 omega
end
end
section
open Go Go.Sep Go.RowKit
theorem zWE {α β:Type} (f:α→β) (L:List α):L.flatMap (fun x=>[f x]) = L.map f:=by induction L <;> simp_all
theorem zZe {w:World} {cs:List Value} (hc:cs.length = 4) (y:Rdy w (.fld 0 1 (.int .i64) (.fld 1 1 .str (.fld 2 1 (.sl (.int .u8) 1) (.fld 3 1 (.int .i64) .nil)))) cs) :
  ∃ x:OpX,cs = opF x∧RdB w x.2 x.1.val∧-9223372036854775808 ≤ x.1.n∧x.1.n ≤ 9223372036854775807:=by
 match cs,hc with
 | [a,b,c,d],_=>
  obtain ⟨⟨x0,e0,_⟩,⟨x1,e1,_⟩,⟨s,e2,_,_,h1,h2⟩,⟨x3,e3,w3⟩,_⟩:=y
  cases e0; cases e1; cases e2; cases e3
  simp [Lit.wf,IntKind.min,IntKind.max,IntKind.signed,IntKind.bits] at w3
  obtain ⟨xs,_,h3⟩:=zVH h1 h2
  obtain ⟨l,rfl⟩:=zLQ x1
  exact ⟨(⟨x0,l,xs,x3⟩,s),rfl,h3,by simp only; omega⟩
theorem zNS {w:World} {s:Sl} (h1:s.a = none→s.n = 0∧s.c = 0) (h2:∀ a i,s.a = some a→i < s.n→∃ cs',cs'.length = 1∧(∀ j,j < 1→w.cell? (a.add (i * 1 + j)) = cs'[j]?)∧Rdy w .str cs'):∃ L:List (List UInt8),RdC w s 1 (L.map xU):=by
 obtain ⟨L,_,hL,_⟩:=zIk (fun x:List UInt8=>[xU x]) (fun _=>True) (fun _=>rfl) h1 h2 fun cs hc hr=>by
  obtain ⟨b,rfl,_⟩:=hr
  obtain ⟨x,rfl⟩:=zLQ b
  exact ⟨x,rfl,trivial⟩
 exact ⟨L,by rw [zWE] at hL; exact hL⟩
theorem zXq {w:World} {cs:Array Value} (hc:cs.size = 5) (y:Rdy w zHt (Value.agg cs).cells.toList):∃ t:TxX,cs = (txL t).toArray∧zCs w t∧∀ x ∈ t.ops,-9223372036854775808 ≤ x.1.n∧x.1.n ≤ 9223372036854775807:=by
 obtain ⟨l⟩:=cs
 match l,hc with
 | [a,b,c,d,e],_=>
  obtain ⟨⟨x0,e0,_⟩,⟨rs,e1,_,_,r1,r2⟩,⟨ws,e2,_,_,w1,w2⟩,⟨os,e3,_,_,o1,o2⟩,⟨x4,e4,_⟩,_⟩:=y
  cases e0; cases e1; cases e2; cases e3; cases e4
  obtain ⟨R,hR⟩:=zNS r1 r2
  obtain ⟨S,hS⟩:=zNS w1 w2
  obtain ⟨O,_,hO,hd⟩:=zIk opF (fun x=>RdB w x.2 x.1.val∧-9223372036854775808 ≤ x.1.n∧x.1.n ≤ 9223372036854775807) zBL o1 o2 fun cs hc hr=>zZe hc hr
  exact ⟨⟨x0,R,S,O,x4,rs,ws,os⟩,rfl,⟨hR,hS,hO,fun x hx=>(hd x hx).1⟩,fun x hx=>(hd x hx).2⟩
theorem zQb {B w:World} {Γ:List zB} {t:TxX} (h:zCs B t) (hw:Holds B Γ w):zCs w t:=⟨h.1.old hw,h.2.1.old hw,h.2.2.1.old hw,fun x hx=>(h.2.2.2 x hx).old hw⟩
end
end Go.Proofs.YtdemfamgieonbaaGreat
namespace Go.Proofs.YtdemfamgieonbaaGreat
open Go Go.Sep Go.Sep.Bt
abbrev zGl (n:Nat) (M:yY) (ks:List (List UInt8)) (W:WM):Prop:=∀ p ∈ W,p.1 ∈ ks∧p.2.home = (vo n M (bs p.1)).home∧p.2.cnt = (vo n M (bs p.1)).cnt
theorem zGl.now {n:Nat} {M:yY} {ks:List (List UInt8)} {W:WM} (h:zGl n M ks W) (k:List UInt8):(xV n M W k).home = (vo n M (bs k)).home∧(xV n M W k).cnt = (vo n M (bs k)).cnt:=by
 unfold xV
 cases hm:y9 k W with
 | none=>exact ⟨rfl,rfl⟩
 | some r=>exact (h _ (zFC hm)).2
theorem zTV {ν:Type} {W:List (List UInt8×ν)} {k:List UInt8} {v:ν} {p:List UInt8×ν} (h:p ∈ vL k v W):p = (k,v)∨p ∈ W:=by
 rcases zE7 k W with ⟨_,h2,_,_⟩ | ⟨j,x,hj,h0,_,_,h2,_⟩
 ·rw [h2] at h
  rcases List.mem_append.1 h with h | h
  ·exact .inr h
  ·exact .inl (List.mem_singleton.1 h)
 ·rw [h2] at h
  rcases List.mem_or_eq_of_mem_set h with h | h
  ·exact .inr h
  ·exact .inl h
theorem zGl.set {n:Nat} {M:yY} {ks:List (List UInt8)} {W:WM} (h:zGl n M ks W) {k:List UInt8} (hk:k ∈ ks) (has:Bool) (val:List UInt8):zGl n M ks (setW n M W k has val):=fun p hp=>by
 rcases zTV hp with rfl | hp
 ·exact ⟨hk,(h.now k).1,(h.now k).2⟩
 ·exact h p hp
theorem zWF {n:Nat} {M:yY} {W:WM} {k:List UInt8} {d:Int}:(zFH n M W k d).2 = 0∨(zFH n M W k d).2 = 110∨(zFH n M W k d).2 = 111:=by
 unfold zFH
 repeat' split
 all_goals simp
theorem zUN {n:Nat} {M:yY} {W:WM} {O:OM} {o:OpM}:(stepW n M W O o).2.2 = 0∨(stepW n M W O o).2.2 = 110∨(stepW n M W O o).2.2 = 111:=by
 unfold stepW
 repeat' split
 all_goals first | exact zWF | simp
theorem zJi {t:TxX} {o:OpM} (h:vP t o = true) (hk:o.kind = 2∨o.kind = 3∨o.kind = 6):o.key ∈ t.writes:=by
 by_cases hw:o.key ∈ t.writes
 ·exact hw
 ·exfalso
  unfold vP at h
  split at h
  ·cases h
  split at h
  ·omega
  split at h
  ·cases h
  ·rename_i h3
   exact h3 ⟨hw,.inr hk⟩
theorem zWG {n:Nat} {M:yY} {ks:List (List UInt8)} {W:WM} {k:List UInt8} {d:Int} (h:zGl n M ks W) (hk:k ∈ ks):zGl n M ks (zFH n M W k d).1:=by
 unfold zFH
 by_cases h1:(xV n M W k).has = true∧(xV n M W k).val.length ≠ 8
 ·rw [if_pos h1]; exact h
 rw [if_neg h1]
 generalize (if (xV n M W k).has then numOf (xV n M W k).val else 0) = a
 cases zHw a d
 ·rw [if_neg (by simp)]; exact h.set hk _ _
 ·rw [if_pos rfl]; exact h
theorem zNT {n:Nat} {M:yY} {t:TxX} {W:WM} {O:OM} {o:OpM} (h:zGl n M t.writes W) (ho:vP t o = true):zGl n M t.writes (stepW n M W O o).1:=by
 unfold stepW
 split
 ·exact h
 split
 ·exact h
 split
 ·exact h.set (zJi ho (.inl (by assumption))) _ _
 split
 ·exact h.set (zJi ho (.inr (.inl (by assumption)))) _ _
 split
 ·exact h
 split
 ·exact h
 split
 ·exact zWG h (zJi ho (.inr (.inr (by assumption))))
 ·exact h
abbrev zQc (x:OpX):Bool:=decide (x.1.kind = 1∨x.1.kind = 7)
theorem zUO {n:Nat} {M:yY} {W:WM} {O:OM} {x:OpX}:(stepW n M W O x.1).2.1.length = O.length + if zQc x then 1 else 0:=by
 unfold stepW zQc
 by_cases h1:x.1.kind = 1
 ·simp [h1]
 by_cases h7:x.1.kind = 7
 ·simp [h7]
 rw [if_neg h1,if_neg h7]
 repeat' split
 all_goals first | (simp only [h1,h7,or_self,decide_false,Bool.false_eq_true,if_false]; done) | (simp [h1,h7] at *)
theorem zTW {n:Nat} {M:yY} {t:TxX}:∀ {xs:List OpX} {W:WM} {O:OM},(∀ x ∈ xs,vP t x.1 = true)→zGl n M t.writes W →
  ((zFI n M xs W O).2.2 = 0∨(zFI n M xs W O).2.2 = 110∨(zFI n M xs W O).2.2 = 111)∧zGl n M t.writes (zFI n M xs W O).1∧((zFI n M xs W O).2.2 = 0→(zFI n M xs W O).2.1.length = O.length + (xs.filter zQc).length)
 | [],W,O,_,h=>⟨.inl rfl,h,fun _=>by simp [zQU]⟩
 | x::xs,W,O,hr,h=>by
  have hx:=hr x List.mem_cons_self
  rw [zFJ]
  split
  ·rename_i h0
   exact ⟨zUN,zNT h hx,fun h1=>absurd h1 h0⟩
  ·have ih:=zTW (n:=n) (M:=M) (t:=t) (xs:=xs) (W:=(stepW n M W O x.1).1) (O:=(stepW n M W O x.1).2.1) (fun y hy=>hr y (List.mem_cons_of_mem _ hy)) (zNT h hx)
   refine ⟨ih.1,ih.2.1,fun h1=>?_⟩
   rw [ih.2.2 h1,zUO,List.filter_cons]
   split <;> simp <;> omega
abbrev zak (n:Nat) (M:yY) (t:TxX) (p:List UInt8×Rec):Prop:=p.1 ∈ t.writes∧(if t.kind = 2 then p.2.home = t.to∧p.2.cnt = (vo n M (bs p.1)).cnt + 1 else p.2.home = (vo n M (bs p.1)).home∧p.2.cnt = (vo n M (bs p.1)).cnt)
theorem zID {n:Int} {t:TxX} (h:vE n t = true) (hk:t.kind = 2):t.ops = []∧∃ k,t.writes = [k]:=by
 unfold vE at h
 split at h
 ·cases h
 split at h
 ·cases h
 simp only [Bool.and_eq_true,decide_eq_true_eq] at h
 refine ⟨List.length_eq_zero_iff.1 h.2.1,?_⟩
 obtain ⟨k,hk⟩:=List.length_eq_one_iff.1 h.2.2.1
 exact ⟨k,hk⟩
theorem zNU {n:Int} {t:TxX} (h:vE n t = true) (hk:t.kind ≠ 2):∀ x ∈ t.ops,vP t x.1 = true:=by
 unfold vE at h
 split at h
 ·cases h
 split at h
 ·cases h
 split at h
 ·cases h
 ·exact List.all_eq_true.1 h
theorem zXr {n:Nat} {M:yY} {t:TxX} {g:Int} (h:vE g t = true) :
  ((jJ n M t).2.2 = 0∨(jJ n M t).2.2 = 110∨(jJ n M t).2.2 = 111)∧((jJ n M t).2.2 = 0→(∀ p ∈ (jJ n M t).1,zak n M t p)∧(jJ n M t).2.1.length = (t.ops.filter zQc).length):=by
 unfold jJ
 split
 ·rename_i hk
  obtain ⟨ho,k,hw⟩:=zID h hk
  rw [hw,zFd,ho]
  split
  ·exact ⟨.inr (.inr rfl),fun h1=>by simp at h1⟩
  ·rw [zNK]
   refine ⟨.inl rfl,fun _=>⟨fun p hp=>?_,rfl⟩⟩
   have hn:xV n M [] k = vo n M (bs k):=rfl
   rcases zTV hp with rfl | hp
   ·refine ⟨by rw [hw]; simp,?_⟩
    rw [if_pos hk,hn]
    exact ⟨rfl,rfl⟩
   ·cases hp
 ·rename_i hk
  obtain ⟨h1,h2,h3⟩:=zTW (n:=n) (M:=M) (t:=t) (xs:=t.ops) (W:=[]) (O:=[]) (zNU h hk) (by simp)
  refine ⟨h1,fun h0=>⟨fun p hp=>?_,by rw [h3 h0]; simp⟩⟩
  refine ⟨(h2 p hp).1,?_⟩
  rw [if_neg hk]
  exact (h2 p hp).2
section
variable {B:World} {Γ Δ:List zB} {st:Nat} {M:yY} {q:Bool→K}
end
end Go.Proofs.YtdemfamgieonbaaGreat
namespace Go.Proofs.YtdemfamgieonbaaGreat
open Go Go.Sep Go.RowKit
end Go.Proofs.YtdemfamgieonbaaGreat
namespace Go.Proofs.YtdemfamgieonbaaGreat
section
open Go Go.Sep Go.Sep.Bt
theorem zQd {n:Nat} {M:yY}:∀ {xs ys:List OpX} {W:WM} {O:OM},xs.map Prod.fst = ys.map Prod.fst→zFI n M xs W O = zFI n M ys W O
 | [],[],_,_,_=>rfl
 | [],y::ys,_,_,h=>by cases h
 | x::xs,[],_,_,h=>by cases h
 | x::xs,y::ys,W,O,h=>by
  simp only [List.map_cons,List.cons.injEq] at h
  rw [zFJ,zFJ,h.1]
  split
  ·rfl
  ·exact zQd h.2
theorem zUP {n:Nat} {M:yY} {a b:TxX} (h:zEb a b):jJ n M a = jJ n M b:=by
 obtain ⟨h1,h2,h3,h4,h5⟩:=h
 unfold jJ
 rw [h1,h2,h4,zQd h5]
section
variable {B:World} {Γ Δ:List zB} {st n:Nat} {M:yY}
theorem zO7 {Q:Array Value→Sl→K} {t:TxX} (htx:zZa t) (ht:∀ w,Holds B Γ w→zCs w t)
  (h:∀ (e:Int) (os:Sl) (O:OX) (rows:Sl) (R:WX),e = (jJ n M t).2.2→(e ≠ 0→O = []∧R = [])→(e = 0→O.map Prod.fst = (jJ n M t).2.1∧qV R = zGj (jJ n M t).1)→(∀ p ∈ R,p.2.1.ok)→HG B (SlC qH 2 os (O.flatMap oF)::Sep.stars (O.map oB)::SlC xX 5 rows (R.flatMap zHb)::Sep.stars (R.map wB)::ze st n M::Γ) (Q #[.int .i64 e,os.val] rows)) :
  HG B (ze st n M::Γ) (vJ.call (some ⟨st,0,none⟩) (txL t).toArray Q):=by
 refine zQV (t:=t) htx ht (fun hb=>?_) fun hz os O rows R hO hR hRok=>?_
 ·refine fun w hw=>?_
  have h1:Holds B (SlC qH 2 ⟨none,0,0⟩ (([]:OX).flatMap oF)::Sep.stars (([]:OX).map oB)::SlC xX 5 ⟨none,0,0⟩ (([]:WX).flatMap zHb)::Sep.stars (([]:WX).map wB)::_) w:=((hw.zCv.zAk xX 5).zCv).zAk qH 2
  exact h _ _ [] _ [] rfl (fun _=>⟨rfl,rfl⟩) (fun h0=>absurd h0 hb) (by simp) w h1
 ·exact h 0 os O rows R hz.symm (fun h0=>absurd rfl h0) (fun _=>⟨hO,hR⟩) hRok
theorem zUQ {k:K} (h:(∀ x ∈ M,x.2.ok)→HG B (ze st n M::Γ) k):HG B (ze st n M::Γ) k:=zHD fun t X hM hok h1 h3=>by
 subst hM
 exact zBV hok h1 h3 (h hok)
end
end
section
open Go Go.Sep
def zL0 (n:Nat):List UInt8:=if h:n < 128 then [u8 n] else u8 (n % 128 + 128)::zL0 (n / 128)
termination_by n
decreasing_by omega
theorem zIE {n:Nat} (h:n < 128):zL0 n = [u8 n]:=by rw [zL0,dif_pos h]
theorem zQe {n:Nat} (h:¬ n < 128):zL0 n = u8 (n % 128 + 128)::zL0 (n / 128):=by rw [zL0,dif_neg h]
theorem zGm:∀ (k n:Nat),n < 128 ^ (k + 1)→(zL0 n).length ≤ k + 1
 | 0,n,h=>by rw [zIE (by omega)]; simp
 | k + 1,n,h=>by
  by_cases hn:n < 128
  ·rw [zIE hn]; simp
  ·rw [zQe hn]
   have:n / 128 < 128 ^ (k + 1):=Nat.div_lt_of_lt_mul (by rw [Nat.pow_succ] at h; omega)
   have:=zGm k _ this
   simp only [List.length_cons]; omega
theorem zal (n:Nat):bitsOf .or .u8 (IntKind.wrap .u8 (n:Int)) 128 = ((u8 (n % 128 + 128)).toNat:Int):=by
 rw [zTO]
 unfold bitsOf
 simp only
 have key:∀ x:BitVec 8,(x ||| 128#8).toNat = x.toNat % 128 + 128:=by decide
 have h2:(BitVec.ofInt (IntKind.bits .u8) ((u8 n).toNat:Int) ||| BitVec.ofInt (IntKind.bits .u8) 128).toNat = (BitVec.ofInt (IntKind.bits .u8) ((u8 n).toNat:Int)).toNat % 128 + 128:=key (BitVec.ofInt 8 ((u8 n).toNat:Int))
 have h3:(BitVec.ofInt (IntKind.bits .u8) ((u8 n).toNat:Int)).toNat = (u8 n).toNat:=by
  show (BitVec.ofInt 8 ((u8 n).toNat:Int)).toNat = _
  rw [BitVec.ofInt_natCast,BitVec.toNat_ofNat,Nat.mod_eq_of_lt (by have:=(u8 n).toNat_lt; omega)]
 rw [h2,h3,zTO]
 simp only [u8N]
 omega
theorem zZf (n:Nat) (k:Nat) (hk:k < 64):zGK .u64 (n:Int) (k:Int) = ((n / 2 ^ k:Nat):Int):=by
 unfold zGK
 have:min ((k:Int).toNat) (IntKind.bits .u64) = k:=by simp [IntKind.bits]; omega
 rw [this,Int.fdiv_eq_ediv_of_nonneg _ (Int.le_of_lt (Int.pow_pos (by decide))),Int.natCast_ediv,Int.natCast_pow]
 rfl
end
section
open Go Go.Sep
abbrev opB (x:OpX):zB:=Bytes yO x.2 x.1.val
abbrev txC (t:TxX) (Γ:List zB):List zB:=SlS t.rs t.reads::SlS t.ws t.writes::SlC qw 4 t.os (t.ops.flatMap opF)::Sep.stars (t.ops.map opB)::Γ
abbrev zUR (a b:TxX):Prop:=zEb a b
section
variable {B:World} {Γ Δ:List zB} {k:K}
theorem zCn {α:Type} {F:α→zB} {l:List α} {x:α} {w:World} (hx:x ∈ l) (h:Holds B (Sep.stars (l.map F)::Γ) w):∃ Δ,Holds B (F x::Δ) w:=by
 obtain ⟨i,hi⟩:=List.getElem?_of_mem hx
 exact ⟨_,zRB i hi h⟩
theorem zO8 {t:TxX} {w:World} (h:Holds B (txC t Γ) w):zCs w t :=
 ⟨(yh (s:=t.rs) h).1,(yh (s:=t.ws) h).1,(yh (s:=t.os) h).1,fun x hx=>by
  obtain ⟨Δ,hd⟩:=zCn (F:=opB) hx h.tail.tail.tail
  exact hd.rdC (E:=yO) List.mem_cons_self⟩
theorem zFY {E T esz:Nat} {us:List Value} {s:Sl} {Q:Sl→K} (hr:∀ w,Holds B Γ w→RdC w s esz us) (hfl:∀ u ∈ us,yX u = true) (hroom:us.length ≤ 100000000) (he:0 < esz) (h:∀ s',s'.n = s.n→HG B (SlC E esz s' us::Γ) (Q s')) (hT:zF2 Tryz.prog T T E esz = true:=by kernel_rfl) :
  HG B Γ (Ite s.a.isNone (Q (Sl.mk none 0 0)) (New E #[] fun t5=>Do Tryz.prog (Builtin.append_ #[T,T] T #[Sl.val (Sl.mk (some t5) 0 0),s.val]) Sl.val fun t7=>Q t7)):=fun w hw=>by
 have hrw:=hr w hw
 have hl:=hrw.len
 have hsn:s.n ≤ us.length:=by rw [hl]; exact Nat.le_mul_of_pos_right _ he
 refine Sep.hg hw ?_
 clear hw
 refine zH (fun hb=>?_) fun hb=>?_
 ·have ha:s.a = none:=by cases hs:s.a with
   | none=>rfl
   | some a=>rw [hs] at hb; cases hb
  have hn:s.n = 0:=hrw.nil ha
  have hus:us = []:=List.length_eq_zero_iff.1 (by rw [hl,hn,Nat.zero_mul])
  refine fun w2 hw2=>h ⟨none,0,0⟩ hn.symm w2 ?_
  rw [hus]
  exact hw2.zAk E esz
 ·refine zR fun t5=>?_
  refine zCh (A':=SlC E esz ⟨some ⟨t5,0,none⟩,0,0⟩ []) (zEI (vs:=[]) rfl (by simp)) ?_
  refine xR (s:=⟨some ⟨t5,0,none⟩,0,0⟩) (us:=us) (fun w hw=>hr w hw.drops) hfl (by simp only; omega) (hT:=hT) fun s' hs'=>?_
  exact h s' (by simp only at hs'; omega)
theorem zUS {s:Sl} {xs:List UInt8} {Q:Sl→K} (hr:∀ w,Holds B Γ w→RdB w s xs) (hl:xs.length ≤ 90000000) (h:∀ s',HG B (Bytes yO s' xs::Γ) (Q s')):HG B Γ (xu.call s Q):=fun w hw=>by
 refine zGY _ _ _ ?_
 refine Sep.hg hw ?_
 clear hw w
 unfold xu
 exact zFY (us:=xs.map jm) hr (zFX _) (by rw [List.length_map]; omega) (by omega) fun s' _=>h s'
theorem zNV {s:Sl} {L:List TX} {Q:Sl→K} (hr:∀ w,Holds B Γ w→RdC w s 1 (L.map xU)) (hl:L.length ≤ 90000000) (h:∀ s',HG B (SlS s' L::Γ) (Q s')):HG B Γ (qm.call s Q):=fun w hw=>by
 refine zDL _ _ _ ?_
 refine Sep.hg hw ?_
 clear hw w
 unfold qm
 exact zFY (us:=L.map xU) hr (fun v hv=>by obtain ⟨y,_,rfl⟩:=List.mem_map.1 hv; rfl) (by rw [List.length_map]; omega) (by omega) fun s' _=>h s'
theorem zWH (L:List OpX):∀ v ∈ L.flatMap opF,yX v = true:=fun v hv=>by
 obtain ⟨x,_,hx⟩:=List.mem_flatMap.1 hv
 simp only [opF,List.mem_cons,List.not_mem_nil,or_false] at hx
 rcases hx with rfl | rfl | rfl | rfl <;> rfl
theorem zUT {s:Sl} {L:List OpX} {Q:Sl→K} (hr:∀ w,Holds B Γ w→RdC w s 4 (L.flatMap opF)) (hl:L.length ≤ 20000000) (h:∀ s',HG B (SlC qw 4 s' (L.flatMap opF)::Γ) (Q s')):HG B Γ (xK.call s Q):=fun w hw=>by
 refine zDM _ _ _ ?_
 refine Sep.hg hw ?_
 clear hw w
 unfold xK
 exact zFY (us:=L.flatMap opF) hr (zWH L) (by rw [zn _ 4 zBL]; omega) (by omega) fun s' _=>h s'
theorem zHx {α:Type} {f:α→List Value} {esz:Nat} (hf:∀ x,(f x).length = esz):∀ {L:List α} {i off:Nat} {x y:α} {v:Value},L[i]? = some x→off < esz→(f x).set off v = f y→(L.flatMap f).set (i * esz + off) v = (L.set i y).flatMap f
 | [],i,off,x,y,v,hx,_,_=>by simp at hx
 | z::L,0,off,x,y,v,hx,ho,hy=>by
  have hzx:z = x:=by simpa using hx
  subst hzx
  rw [Nat.zero_mul,Nat.zero_add,List.flatMap_cons,List.set_cons_zero,List.flatMap_cons,List.set_append_left _ _ (by rw [hf]; exact ho),hy]
 | z::L,i + 1,off,x,y,v,hx,ho,hy=>by
  have ih:=zHx hf (L:=L) (i:=i) (by simpa using hx) ho hy
  rw [List.flatMap_cons,List.set_cons_succ,List.flatMap_cons,← ih,List.set_append_right _ _ (by rw [hf,Nat.succ_mul]; omega),hf]
  congr 2
  rw [Nat.succ_mul]; omega
theorem zTX {t:TxX} {Q:Array Value→K} (hr:∀ w,Holds B Γ w→zCs w t) (hl:t.reads.length ≤ 1000∧t.writes.length ≤ 1000∧t.ops.length ≤ 1000∧∀ x ∈ t.ops,x.1.val.length ≤ 1000000) (h:∀ t',zUR t' t→HG B (txC t' Γ) (Q (txL t').toArray)):HG B Γ (zBB.call (txL t).toArray Q):=fun w hw=>by
 refine zOx _ _ _ ?_
 refine Sep.hg hw ?_
 clear hw w
 obtain ⟨hl1,hl2,hl3,hl4⟩:=hl
 unfold zBB
 refine zR fun t1=>?_
 refine zR fun t2=>?_
 repeat refine zh ?_
 refine zNV (fun w hw=>(hr w hw.drops).1) (by omega) fun rs=>?_
 refine zBC ?_
 refine zNV (fun w hw=>(hr w hw.drops).2.1) (by omega) fun ws=>?_
 refine zBC ?_
 refine zUT (fun w hw=>(hr w hw.drops).2.2.1) (by omega) fun os=>?_
 repeat refine zh ?_
 refine fun w hw=>Sep.hg (show Holds B (Sep.stars (([]:List OpX).map opB)::_) w from hw.zCv) ?_
 clear hw w
 refine yS os fun a1 a2 a3 a4=>?_
 rw [zn _ 4 zBL] at a1
 refine zC (Δ:=SlC qw 4 os (t.ops.flatMap opF)::Sep.stars (([]:List OpX).map opB)::blk t1 (.cells [.int .i64 t.kind,rs.val,ws.val,os.val,.int .i64 t.to].toArray yg (0,0))::blk t2 (.cells [.int .i64 0,Sl.val ⟨none,0,0⟩,Sl.val ⟨none,0,0⟩,Sl.val ⟨none,0,0⟩,.int .i64 0].toArray yg (0,0))::SlS ws t.writes::SlS rs t.reads::Γ) ?_
 refine vQ (α:=Int) (ι:=Nat×List OpX) (fun x i=>x = (i.1:Int)∧i.1 ≤ t.ops.length∧i.2.map Prod.fst = t.ops.map Prod.fst∧i.2.drop i.1 = t.ops.drop i.1)
  (fun x i=>SlC qw 4 os (i.2.flatMap opF)::Sep.stars ((i.2.take i.1).map opB)::blk t1 (.cells [.int .i64 t.kind,rs.val,ws.val,os.val,.int .i64 t.to].toArray yg (0,0))::blk t2 (.cells [.int .i64 0,Sl.val ⟨none,0,0⟩,Sl.val ⟨none,0,0⟩,Sl.val ⟨none,0,0⟩,.int .i64 0].toArray yg (0,0))::SlS ws t.writes::SlS rs t.reads::Γ)
  (fun x i=>t.ops.length - i.1) (0,t.ops) ⟨rfl,Nat.zero_le _,rfl,rfl⟩ ?_
 rintro k' _ ⟨i,L⟩ ⟨rfl,hi,hm,hd⟩ hk'
 simp only at hi hm hd hk' ⊢
 have hLl:L.length = t.ops.length:=by have:=congrArg List.length hm; simpa using this
 unfold zBB.b1
 refine zH (fun hb=>?_) fun hb=>?_
 ·have hil:i < t.ops.length:=by simp only [decide_eq_true_eq] at hb; omega
  have hge:L[i]? = some t.ops[i]:=by
   have:=congrArg (·[0]?) hd
   simp only [List.getElem?_drop,Nat.add_zero] at this
   rw [this,List.getElem?_eq_getElem hil]
  have hmem:t.ops[i] ∈ t.ops:=List.getElem_mem hil
  generalize t.ops[i] = x at hge hmem
  have hvl:=hl4 x hmem
  refine zAw opF zBL (fun w hw=>(yh (s:=os) hw).1) hge ?_
  refine zR fun o4=>?_
  repeat refine zh ?_
  refine zUS (xs:=x.1.val) (fun w hw=>(hr w hw.drops).2.2.2 x hmem) (by omega) fun vs=>?_
  repeat refine zh ?_
  refine vZ (s:=os) (i:=i) ?_
  refine zPx (s:=os) ?_ (by rw [zn _ 4 zBL]; omega)
  rw [zHx (y:=((x.1,vs):OpX)) zBL hge (by omega) rfl]
  refine qU ?_
  have hA:(L.set i (x.1,vs)).map Prod.fst = t.ops.map Prod.fst:=by
   rw [← hm,List.map_set]
   refine List.ext_getElem? fun j=>?_
   rw [List.getElem?_set]
   split
   ·rename_i hij
    subst hij
    split
    ·simp [hge]
    ·rename_i hj; simp only [List.length_map] at hj; omega
   ·rfl
  have hB:(L.set i (x.1,vs)).drop (i + 1) = t.ops.drop (i + 1):=by
   rw [List.drop_set_of_lt (by omega),← List.drop_drop,hd,List.drop_drop]
  have h:=hk' ((i:Int) + 1) (i + 1,L.set i (x.1,vs)) ⟨by simp,hil,hA,hB⟩ (by simp only; omega)
  have ht:(L.set i (x.1,vs)).take (i + 1) = L.take i++[((x.1,vs):OpX)]:=by
   have hx:(L.set i (x.1,vs))[i]? = some (x.1,vs):=by rw [List.getElem?_set_self (by omega)]
   rw [List.take_add_one,hx,List.take_set_of_le (Nat.le_refl _)]
   rfl
  simp only at h
  rw [ht] at h
  have:=zAG (F:=opB) (A:=L.take i) (C:=[]) (x:=((x.1,vs):OpX)) (Γ:=SlC qw 4 os ((L.set i (x.1,vs)).flatMap opF)::blk t1 (.cells [.int .i64 t.kind,rs.val,ws.val,os.val,.int .i64 t.to].toArray yg (0,0))::blk t2 (.cells [.int .i64 0,Sl.val ⟨none,0,0⟩,Sl.val ⟨none,0,0⟩,Sl.val ⟨none,0,0⟩,.int .i64 0].toArray yg (0,0))::SlS ws t.writes::SlS rs t.reads::Γ) (zC h)
  rw [List.append_nil] at this
  exact zC this
 ·have hil:i = t.ops.length:=by simp only [decide_eq_false_iff_not] at hb; omega
  rw [hil,← hLl,List.take_length]
  repeat refine zh ?_
  have:=h ⟨t.kind,t.reads,t.writes,L,t.to,rs,ws,os⟩ ⟨rfl,rfl,rfl,rfl,hm⟩
  exact zC this
theorem zO9 {t:TxX} {Q:Sl→K} (hr1:∀ w,Holds B Γ w→RdC w t.rs 1 (t.reads.map xU)) (hr2:∀ w,Holds B Γ w→RdC w t.ws 1 (t.writes.map xU)) (hl:t.reads.length ≤ 400000) (hl2:t.writes.length ≤ 400000) (h:∀ s,HG B (SlS s (jW (t.reads++t.writes))::Γ) (Q s)):HG B Γ (zCj.call (txL t).toArray Q):=fun w hw=>by
 refine zOy _ _ _ ?_
 refine Sep.hg hw ?_
 clear hw w
 unfold zCj
 refine zR fun t1=>?_
 repeat refine zh ?_
 refine zR fun t8=>?_
 refine zRl (La:=t.reads) (Lb:=t.writes) (by omega) (by omega) (fun w hw=>hr1 w hw.drops) (fun w hw=>hr2 w hw.drops) fun s=>?_
 have hln:(t.reads++t.writes).length = t.reads.length + t.writes.length:=List.length_append
 refine fun w hw=>zFE (by omega) hw fun w hw=>?_
 refine Sep.hg hw ?_
 clear hw w
 refine zRk (by rw [zNA]; omega) fun s'=>?_
 have:=h s'
 unfold jW at this
 exact zC this
end
end
section
open Go Go.Sep
def zHc (p:Nat) (xs:List UInt8):zB:=ex fun s:Sl=>Sep.stars [blk p (.cells [s.val].toArray zDm (0,0)),SlC yO 1 s (xs.map jm)]
section
variable {B:World} {Γ Δ:List zB} {p:Nat} {xs:List UInt8} {k Q:K}
theorem zTY (h:∀ s,HG B (blk p (.cells [s.val].toArray zDm (0,0))::SlC yO 1 s (xs.map jm)::Γ) k):HG B (zHc p xs::Γ) k:=zC1 fun s=>zBX (h s)
theorem zI6 {s:Sl} (h:HG B (zHc p xs::Γ) k):HG B (blk p (.cells [s.val].toArray zDm (0,0))::SlC yO 1 s (xs.map jm)::Γ) k:=fun w hw=>by
 refine h w ?_
 have h3:Holds B (Sep.stars [blk p (.cells [s.val].toArray zDm (0,0)),SlC yO 1 s (xs.map jm)]::Γ) w:=Holds.flat.2 hw
 exact h3.imp fun g hg=>⟨s,hg⟩
instance (priority:=high) zbF:Sep.Own p (zHc p xs::Γ) (zHc p xs) Γ:=⟨.refl _⟩
theorem zUU {q0:Addr→K} (h:∀ p,HG B (zHc p []::Γ) (q0 ⟨p,0,none⟩)):HG B Γ (New zDm #[Sl.val ⟨none,0,0⟩] q0):=by
 refine zR fun p=>?_
 refine fun w hw=>?_
 refine hg (show Holds B (SlC yO 1 ⟨none,0,0⟩ (([]:List UInt8).map jm)::_) w from hw.zAk _ _) ?_
 refine zDW ?_
 exact zI6 (h p)
theorem zWI {n:Nat} (hn:n < 1180591620717411303424) (hx:xs.length ≤ 50000000) (h:HG B (zHc p (xs++zL0 n)::Γ) Q):HG B (zHc p xs::Γ) (xE.call (some ⟨p,0,none⟩) (n:Int) Q):=by
 refine fun w hw=>zKM _ _ _ _ ?_
 refine hg hw ?_
 clear hw w
 have hnl:=zGm 9 n (by simpa using hn)
 unfold xE
 refine vQ (α:=Int) (ι:=Nat×List UInt8) (fun x i=>x = (i.1:Int)∧i.2++zL0 i.1 = xs++zL0 n) (fun x i=>zHc p i.2::Γ) (fun x i=>i.1) (n,xs) ⟨rfl,rfl⟩ ?_
 rintro k' _ ⟨m,ys⟩ ⟨rfl,he⟩ hk'
 simp only at he hk' ⊢
 have hyl:ys.length ≤ 50000010:=by have:=congrArg List.length he; simp only [List.length_append] at this; omega
 unfold xE.b1
 refine zH (fun hb=>?_) fun hb=>?_
 ·have hm:¬ m < 128:=by simp only [decide_eq_true_eq] at hb; omega
  refine vg ?_
  refine zTY fun s=>?_
  refine yS s fun a1 a2 a3 a4=>?_
  simp only [List.length_map] at a1
  repeat refine zh ?_
  refine zBK rfl ?_
  refine zBK (zal m) ?_
  refine zR fun t16=>?_
  refine xR (s:=s) (esz:=1) (us:=[jm (u8 (m % 128 + 128))]) (zAX rfl) (by simp [jm,yX]) (by simp only; omega) fun s2 _=>?_
  rw [show ys.map jm++[jm (u8 (m % 128 + 128))] = (ys++[u8 (m % 128 + 128)]).map jm by simp]
  repeat refine zh ?_
  refine zTv (by decide) ?_
  refine zBK (zZf m 7 (by decide)) ?_
  refine zq s2 ?_
  refine zQ p ?_
  refine zI6 ?_
  refine zC (hk' ((m / 2 ^ 7:Nat):Int) (m / 2 ^ 7,ys++[u8 (m % 128 + 128)]) ⟨rfl,?_⟩ (by simp only; omega))
  simp only
  rw [← he,zQe hm]; simp
 ·have hm:m < 128:=by simp only [decide_eq_false_iff_not] at hb; omega
  refine vg ?_
  refine zTY fun s=>?_
  refine yS s fun a1 a2 a3 a4=>?_
  simp only [List.length_map] at a1
  repeat refine zh ?_
  refine zBK (zTO m) ?_
  refine zR fun t16=>?_
  refine xR (s:=s) (esz:=1) (us:=[jm (u8 m)]) (zAX rfl) (by simp [jm,yX]) (by simp only; omega) fun s2 _=>?_
  rw [show ys.map jm++[jm (u8 m)] = (ys++[u8 m]).map jm by simp]
  repeat refine zh ?_
  refine zq s2 ?_
  refine zQ p ?_
  refine zI6 ?_
  rw [← zIE hm,he]
  exact zC h
theorem zXs {b:Sl} {ys:List UInt8} (hr:∀ w,Holds B Γ w→RdB w b ys) (hy:ys.length ≤ 10000000) (hx:xs.length ≤ 10000000) (h:HG B (zHc p (xs++zL0 ys.length++ys)::Γ) Q):HG B (zHc p xs::Γ) (jZ.call (some ⟨p,0,none⟩) b Q):=by
 refine fun w hw=>zJY _ _ _ _ ?_
 have hbn:b.n = ys.length:=by have:=(hr w hw.drops).len; simpa using this.symm
 refine hg hw ?_
 clear hw w
 have hnl:=zGm 9 ys.length (by simp; omega)
 unfold jZ
 refine zBK (zDg (by omega) (by omega)) ?_
 rw [hbn]
 refine zWI (by omega) (by omega) ?_
 refine vg ?_
 refine zTY fun s=>?_
 refine yS s fun a1 a2 a3 a4=>?_
 simp only [List.length_map,List.length_append] at a1
 repeat refine zh ?_
 refine xR (s:=s) (esz:=1) (us:=ys.map jm) (fun w hw=>hr w hw.drops) (zFX _) (by omega) fun s2 _=>?_
 rw [← List.map_append]
 repeat refine zh ?_
 refine zq s2 ?_
 refine zQ p ?_
 refine zI6 ?_
 exact zC h
theorem zXt {q:Sl→K} (hx:xs.length ≤ 50000000) (h:∀ s,HG B (SlC yO 1 s (xs.map jm)::zHc p xs::Γ) (q s)):HG B (zHc p xs::Γ) (zBT.call (some ⟨p,0,none⟩) q):=by
 refine fun w hw=>zJX _ _ _ ?_
 refine hg hw ?_
 clear hw w
 unfold zBT
 refine vg ?_
 refine zTY fun s=>?_
 repeat refine zh ?_
 refine fun w hw=>zEL _ _ _ ?_
 refine hg hw ?_
 clear hw w
 unfold uO
 refine zFY (us:=xs.map jm) (fun w hw=>(yh (s:=s) hw).1) (zFX _) (by simp; omega) (by omega) fun s2 _=>?_
 refine zq s ?_
 refine zQ p ?_
 refine zI6 ?_
 exact zC (h s2)
end
end
section
open Go Go.Sep
def zL1 (t:TxX) (o:OpM):Bool :=
 if 32 < o.val.length∨(o.n ≠ 0∧o.kind ≠ 6) then false
 else if o.kind = 2 then decide (o.key ∈ t.writes)
 else if o.kind = 3∨o.kind = 6 then decide (o.key ∈ t.writes) && decide (o.val.length = 0)
 else if o.kind = 4 then decide (o.key ∈ t.reads++t.writes)
 else if o.kind = 1∨o.kind = 5 then decide (o.key ∈ t.reads++t.writes) && decide (o.val.length = 0)
 else if o.kind = 7 then decide (o.key = [])
 else false
theorem zUV (t:TxX) (o:OpM):zL1 t o = vP t o:=by
 unfold zL1 vP
 by_cases h1:32 < o.val.length
 ·simp [h1]
 simp only [h1,false_or]
 by_cases hw:o.key ∈ t.writes <;> by_cases hr:o.key ∈ t.reads <;> by_cases hn:o.n = 0 <;> by_cases hv:o.val.length = 0 <;>
  (by_cases k1:o.kind = 1
   ·simp [k1,hw,hr,hn,hv]
   by_cases k2:o.kind = 2
   ·simp [k2,hw,hr,hn,hv]
   by_cases k3:o.kind = 3
   ·simp [k3,hw,hr,hn,hv]
   by_cases k4:o.kind = 4
   ·simp [k4,hw,hr,hn,hv]
   by_cases k5:o.kind = 5
   ·simp [k5,hw,hr,hn,hv]
   by_cases k6:o.kind = 6
   ·simp [k6,hw,hr,hn,hv]
   by_cases k7:o.kind = 7
   ·simp [k7,hw,hr,hn,hv]
   have k8:o.kind < 1∨7 < o.kind:=by omega
   simp [k1,k2,k3,k4,k5,k6,k7,k8])
abbrev zJ7 (k:TX):Prop:=1 ≤ k.length∧k.length ≤ 16
abbrev zPA (t:TxX):Prop:=t.reads.length ≤ 8∧t.writes.length ≤ 8 - t.reads.length∧(zDD t.reads∧∀ k ∈ t.reads,zJ7 k)∧(zDD t.writes∧∀ k ∈ t.writes,zJ7 k)∧∀ k ∈ t.reads,k ∉ t.writes
theorem zWJ {n:Int} {t:TxX} (h1:1 ≤ n) (h3:n ≤ 3):zPA t ↔ ¬ zAJ n t∧¬ zFh t:=by
 constructor
 ·rintro ⟨a1,a2,⟨a3,a4⟩,⟨a5,a6⟩,a7⟩
  refine ⟨?_,?_⟩
  ·rintro (h | h | h | h | h | h | h)
   ·omega
   ·omega
   ·exact h a3
   ·exact h a5
   ·omega
   ·omega
   ·omega
  ·rintro (⟨k,hk,h⟩ | ⟨k,hk,h⟩)
   ·rcases List.mem_append.1 hk with hk | hk
    ·have:=a4 k hk; omega
    ·have:=a6 k hk; omega
   ·exact a7 k hk h
 ·rintro ⟨h,g⟩
  simp only [zAJ,not_or,Classical.not_not] at h
  obtain ⟨_,_,b1,b2,b3,b4,b5⟩:=h
  refine ⟨by omega,by omega,⟨b1,fun k hk=>?_⟩,⟨b2,fun k hk=>?_⟩,fun k hk hw=>g (.inr ⟨k,hk,hw⟩)⟩
  ·have h6:¬ (k.length < 1∨16 < k.length):=fun h=>g (.inl ⟨k,List.mem_append_left _ hk,h⟩)
   exact ⟨by omega,by omega⟩
  ·have h6:¬ (k.length < 1∨16 < k.length):=fun h=>g (.inl ⟨k,List.mem_append_right _ hk,h⟩)
   exact ⟨by omega,by omega⟩
section
variable {B:World} {Γ Δ:List zB} {k:K}
theorem zGn {s:Sl} {L:List TX} {key:TX} {Q:Bool→K} (hL:L.length < 100000000) (hr:∀ w,Holds B Γ w→RdC w s 1 (L.map xU)) (h:HG B Γ (Q (decide (key ∈ L)))):HG B Γ (yw.call s (bs key) Q):=fun w hw=>by
 refine zCi _ _ _ _ ?_
 have hn:s.n = L.length:=by have:=(hr w hw).len; simpa using this.symm
 refine Sep.hg hw ?_
 clear hw w
 unfold yw
 refine fun w hw=>zDN _ _ _ _ ?_
 refine Sep.hg hw ?_
 clear hw w
 unfold y5
 refine j4 (α:=Int) (fun x=>∃ i:Nat,x = (i:Int)∧i ≤ L.length∧key ∉ L.take i) (fun x=>L.length - x.toNat) ⟨0,rfl,Nat.zero_le _,by simp⟩ fun k' x hx hk'=>?_
 obtain ⟨i,rfl,hi,hno⟩:=hx
 unfold y5.b1
 refine zH (fun hb=>?_) fun hb=>?_
 ·have hil:i < L.length:=by simp only [decide_eq_true_eq] at hb; omega
  have hge:L[i]? = some L[i]:=List.getElem?_eq_getElem hil
  have hmem:L[i] ∈ L:=List.getElem_mem hil
  have htk:L.take (i + 1) = L.take i++[L[i]]:=List.take_succ_eq_append_getElem hil
  generalize L[i] = x at hge hmem htk
  refine zAa hr hge ?_
  rw [uU,uU]
  refine zH (fun he=>?_) fun he=>?_
  ·have he':key = x:=by simpa using he
   rw [show decide (key ∈ L) = true from decide_eq_true (by rw [he']; exact hmem)] at h
   show HG B Γ (Q (decide ((0:Int) ≤ (i:Int))))
   rw [show decide ((0:Int) ≤ (i:Int)) = true by simp]
   exact h
  ·have he':¬ key = x:=by simpa using he
   refine qU ?_
   refine hk' _ ⟨i + 1,by simp,hil,?_⟩ (by omega)
   rw [htk]
   simp only [List.mem_append,List.mem_singleton,not_or]
   exact ⟨hno,he'⟩
 ·have hil:i = L.length:=by simp only [decide_eq_false_iff_not] at hb; omega
  rw [hil,List.take_length] at hno
  rw [show decide (key ∈ L) = false from decide_eq_false hno] at h
  show HG B Γ (Q (decide ((0:Int) ≤ -1)))
  rw [show decide ((0:Int) ≤ -1) = false by decide]
  exact h
theorem zQf {s:Sl} {L:List TX} {Q:Bool→K} (hL:L.length < 1000000000) (hr:∀ w,Holds B Γ w→RdC w s 1 (L.map xU)) (h:HG B Γ (Q (decide (zDD L∧∀ k ∈ L,zJ7 k)))):HG B Γ (xZ.call s Q):=fun w hw=>by
 refine zMb _ _ _ ?_
 have hn:s.n = L.length:=by have:=(hr w hw).len; simpa using this.symm
 refine Sep.hg hw ?_
 clear hw w
 unfold xZ
 refine j4 (α:=Int) (fun x=>∃ i:Nat,x = (i:Int)∧i ≤ L.length∧zDD (L.take i)∧∀ k ∈ L.take i,zJ7 k) (fun x=>L.length - x.toNat) ⟨0,rfl,Nat.zero_le _,by simp,by simp⟩ fun k' x hx hk'=>?_
 obtain ⟨i,rfl,hi,hp,hks⟩:=hx
 unfold xZ.b1
 refine zH (fun hb=>?_) fun hb=>?_
 ·have hil:i < L.length:=by simp only [decide_eq_true_eq] at hb; omega
  have g2:L[i]? = some L[i]:=List.getElem?_eq_getElem hil
  have t2:L.take (i + 1) = L.take i++[L[i]]:=List.take_succ_eq_append_getElem hil
  have m2:L[i] ∈ L:=List.getElem_mem hil
  have hpi:∀ j x,L[j]? = some x→j < i→zDD L→x < L[i]:=fun j x hx hj h=>by
   obtain ⟨h1,rfl⟩:=List.getElem?_eq_some_iff.1 hx
   exact (List.pairwise_iff_getElem.1 h) j i h1 hil hj
  generalize L[i] = y at g2 t2 m2 hpi
  have hsz:(bs y).size = y.length:=rfl
  have no:¬ (zDD L∧∀ k ∈ L,zJ7 k)→HG B Γ (xZ.s2 Q k' s s (s.n:Int) (i:Int) true):=fun hn=>by
   rw [decide_eq_false hn] at h
   unfold xZ.s2
   exact s_t h
  refine zAa hr g2 ?_
  rw [uU]
  refine zH (fun hc=>?_) fun hc=>?_
  ·refine no fun hh=>?_
   have:y = []:=by simpa using hc
   have:=(hh.2 y m2).1
   simp_all
  have hy1:1 ≤ y.length:=by
   have:y ≠ []:=by simpa using hc
   exact List.length_pos_iff.2 this
  refine zH (fun hd=>?_) fun hd=>?_
  ·refine no fun hh=>?_
   have:=(hh.2 y m2).2
   simp only [decide_eq_true_eq] at hd; omega
  have hy16:y.length ≤ 16:=by simp only [decide_eq_false_iff_not] at hd; omega
  have yes:zDD (L.take (i + 1))→HG B Γ (xZ.s2 Q k' s s (s.n:Int) (i:Int) false):=fun hp2=>by
   unfold xZ.s2
   refine s_f ?_
   refine qU ?_
   refine hk' _ ⟨i + 1,by simp,hil,hp2,fun k hk=>?_⟩ (by omega)
   rw [t2] at hk
   rcases List.mem_append.1 hk with hk | hk
   ·exact hks k hk
   ·rw [List.mem_singleton.1 hk]; exact ⟨hy1,hy16⟩
  refine zH (fun he=>?_) fun he=>?_
  ·obtain ⟨j,rfl⟩:∃ j,i = j + 1:=⟨i - 1,by simp only [decide_eq_true_eq] at he; omega⟩
   have g1:L[j]? = some L[j]:=List.getElem?_eq_getElem (by omega)
   have t1:L.take (j + 1) = L.take j++[L[j]]:=List.take_succ_eq_append_getElem (by omega)
   have hxy:=hpi j _ g1 (by omega)
   generalize L[j] = x at g1 t1 hxy
   refine qU ?_
   refine zAa hr g1 ?_ (by omega)
   rw [uU,zCM]
   by_cases hlt:x < y
   ·rw [decide_eq_true hlt]
    refine yes ?_
    rw [t2]
    refine List.pairwise_append.2 ⟨hp,List.pairwise_singleton _ _,fun a ha b hb=>?_⟩
    rw [List.mem_singleton.1 hb]
    rw [t1] at ha hp
    rcases List.mem_append.1 ha with ha | ha
    ·exact List.lt_trans ((List.pairwise_append.1 hp).2.2 a ha x (by simp)) hlt
    ·rw [List.mem_singleton.1 ha]; exact hlt
   ·rw [decide_eq_false hlt]
    exact no fun hh=>hlt (hxy hh.1)
  ·have hi0:i = 0:=by simp only [decide_eq_false_iff_not] at he; omega
   subst hi0
   refine yes ?_
   rw [t2]; simp
 ·have hil:i = L.length:=by simp only [decide_eq_false_iff_not] at hb; omega
  rw [hil,List.take_length] at hp hks
  rw [decide_eq_true (show zDD L∧∀ k ∈ L,zJ7 k from ⟨hp,hks⟩)] at h
  exact h
theorem zXu {t:TxX} {x:OpX} {Q:Bool→K} (hr:∀ w,Holds B Γ w→zCs w t) (hl:t.reads.length < 10000000∧t.writes.length < 10000000) (hx:∀ w,Holds B Γ w→RdB w x.2 x.1.val) (h:HG B Γ (Q (vP t x.1))):HG B Γ (yP.call (txL t).toArray (opF x).toArray Q):=fun w hw=>by
 refine zOz _ _ _ _ ?_
 have hxl:x.2.n = x.1.val.length:=by have:=(hx w hw).len; simpa using this.symm
 refine Sep.hg hw ?_
 clear hw w
 unfold yP
 refine zR fun t2=>?_
 refine zR fun o3=>?_
 have fin:HG B (blk o3 (.cells (opF x).toArray qw (0,0))::blk t2 (.cells (txL t).toArray yg (0,0))::Γ) (Q (zL1 t x.1)):=by rw [zUV]; exact zC h
 generalize hR:zL1 t x.1 = R at fin
 unfold zL1 at hR
 have hlen:decide ((x.2.n:Int) = 0) = decide (x.1.val.length = 0):=decide_eq_decide.2 (by omega)
 have S2:∀ w k:Bool,w = decide (x.1.key ∈ t.writes)→k = decide (x.1.key ∈ t.reads++t.writes)→¬ (32 < x.1.val.length∨(x.1.n ≠ 0∧x.1.kind ≠ 6))→HG B (blk o3 (.cells (opF x).toArray qw (0,0))::blk t2 (.cells (txL t).toArray yg (0,0))::Γ) (yP.s2 Q ⟨o3,0,none⟩ w k):=fun w k hw hk hn=>by
  rw [if_neg hn,← hw,← hk] at hR
  unfold yP.s2
  repeat refine zh ?_
  refine zH (fun h2=>?_) fun h2=>?_
  ·rw [if_pos (by simpa using h2)] at hR
   rw [hR]; exact fin
  have h2':¬ x.1.kind = 2:=by simpa using h2
  rw [if_neg h2'] at hR
  have S3t:x.1.kind = 3∨x.1.kind = 6→HG B (blk o3 (.cells (opF x).toArray qw (0,0))::blk t2 (.cells (txL t).toArray yg (0,0))::Γ) (yP.s3 Q ⟨o3,0,none⟩ w k x.1.kind true):=fun h36=>by
   rw [if_pos h36] at hR
   unfold yP.s3 yP.s4
   refine s_t ?_
   refine zH (fun hb=>?_) fun hb=>?_
   ·rw [hb,Bool.true_and] at hR
    repeat refine zh ?_
    rw [hlen,hR]; exact fin
   ·rw [hb,Bool.false_and] at hR
    rw [hR]; exact fin
  refine zH (fun h3=>?_) fun h3=>?_
  ·rw [show decide (x.1.kind = 3) = true from h3]
   exact S3t (.inl (by simpa using h3))
  have h3':¬ x.1.kind = 3:=by simpa using h3
  by_cases h6:x.1.kind = 6
  ·rw [decide_eq_true h6]
   exact S3t (.inr h6)
  rw [decide_eq_false h6]
  rw [if_neg (by omega)] at hR
  unfold yP.s3
  refine s_f ?_
  refine zH (fun h4=>?_) fun h4=>?_
  ·rw [if_pos (by simpa using h4)] at hR
   rw [hR]; exact fin
  have h4':¬ x.1.kind = 4:=by simpa using h4
  rw [if_neg h4'] at hR
  have S5t:x.1.kind = 1∨x.1.kind = 5→HG B (blk o3 (.cells (opF x).toArray qw (0,0))::blk t2 (.cells (txL t).toArray yg (0,0))::Γ) (yP.s5 Q ⟨o3,0,none⟩ k x.1.kind true):=fun h15=>by
   rw [if_pos h15] at hR
   unfold yP.s5 yP.s6
   refine s_t ?_
   refine zH (fun hb=>?_) fun hb=>?_
   ·rw [hb,Bool.true_and] at hR
    repeat refine zh ?_
    rw [hlen,hR]; exact fin
   ·rw [hb,Bool.false_and] at hR
    rw [hR]; exact fin
  refine zH (fun h1=>?_) fun h1=>?_
  ·rw [show decide (x.1.kind = 1) = true from h1]
   exact S5t (.inl (by simpa using h1))
  have h1':¬ x.1.kind = 1:=by simpa using h1
  by_cases h5:x.1.kind = 5
  ·rw [decide_eq_true h5]
   exact S5t (.inr h5)
  rw [decide_eq_false h5]
  rw [if_neg (by omega)] at hR
  unfold yP.s5
  refine s_f ?_
  refine zH (fun h7=>?_) fun h7=>?_
  ·rw [if_pos (by simpa using h7)] at hR
   repeat refine zh ?_
   rw [uU]
   rw [show (x.1.key == (⟨#[]⟩:ByteArray).toList) = R by rw [← hR]; cases x.1.key <;> simp]
   exact fin
  ·rw [if_neg (by simpa using h7)] at hR
   rw [hR]; exact fin
 have S1:∀ b,(b = true ↔ 32 < x.1.val.length∨(x.1.n ≠ 0∧x.1.kind ≠ 6))→HG B (blk o3 (.cells (opF x).toArray qw (0,0))::blk t2 (.cells (txL t).toArray yg (0,0))::Γ) (yP.s1 Q ⟨t2,0,none⟩ ⟨o3,0,none⟩ b):=fun b hb=>by
  unfold yP.s1
  refine zH (fun hb1=>?_) fun hb1=>?_
  ·rw [if_pos (hb.1 hb1)] at hR
   rw [hR]; exact fin
  have hn:¬ (32 < x.1.val.length∨(x.1.n ≠ 0∧x.1.kind ≠ 6)):=fun h=>by rw [hb.2 h] at hb1; cases hb1
  repeat refine zh ?_
  refine zGn (L:=t.writes) (key:=x.1.key) (by omega) (fun w hw=>(hr w hw.drops).2.1) ?_
  by_cases hw1:x.1.key ∈ t.writes
  ·rw [decide_eq_true hw1]
   refine s_t ?_
   exact S2 true true (by simp [hw1]) (by simp [hw1]) hn
  rw [decide_eq_false hw1]
  refine s_f ?_
  repeat refine zh ?_
  refine zGn (L:=t.reads) (key:=x.1.key) (by omega) (fun w hw=>(hr w hw.drops).1) ?_
  exact S2 false _ (by simp [hw1]) (by simp [hw1]) hn
 repeat refine zh ?_
 refine zH (fun hb=>?_) fun hb=>?_
 ·exact S1 true (by
           have:32 < x.1.val.length:=by simp only [decide_eq_true_eq] at hb; omega
           simp [this])
 have h32:¬ 32 < x.1.val.length:=by simp only [decide_eq_false_iff_not] at hb; omega
 repeat refine zh ?_
 refine zH (fun hc=>?_) fun hc=>?_
 ·have hc':x.1.n ≠ 0:=by simpa using hc
  repeat refine zh ?_
  exact S1 _ (by simp [h32,hc'])
 ·have hc':x.1.n = 0:=by simpa using hc
  exact S1 _ (by simp [h32,hc'])
abbrev dfV (b:Nat):Value:=.func (.func 170) #[] #[.pointer (some ⟨b,0,none⟩)]
abbrev cfV (b:Nat):Value:=.func (.func 115) #[] #[.pointer (some ⟨b,0,none⟩)]
theorem zQg {t:TxX} {Q:Bool→K} (hr:∀ w,Holds B Γ w→zCs w t) (hl:t.reads.length < 10000000∧t.writes.length < 10000000) (h:HG B Γ (Q (decide (zPA t)))):HG B Γ (xY.call (txL t).toArray Q):=fun w hw=>by
 refine zJW _ _ _ ?_
 obtain ⟨n1,n2,n3⟩:=zKz (hr w hw)
 refine Sep.hg hw ?_
 clear hw w
 unfold xY
 refine zR fun t1=>?_
 have no:¬ zPA t→HG B (blk t1 (.cells (txL t).toArray yg (0,0))::Γ) (xY.s1 Q ⟨t1,0,none⟩ true):=fun hn=>by
  rw [decide_eq_false hn] at h
  unfold xY.s1
  exact s_t (zC h)
 repeat refine zh ?_
 refine zH (fun hb=>no fun hd=>by have:=hd.1; simp only [decide_eq_true_eq] at hb; omega) fun hb=>?_
 have hr8:t.reads.length ≤ 8:=by simp only [decide_eq_false_iff_not] at hb; omega
 repeat refine zh ?_
 refine zBK (e':=8 - (t.rs.n:Int)) (by rw [wrap64 (by omega) (by omega)]) ?_
 refine zH (fun hb2=>no fun hd=>by have:=hd.2.1; simp only [decide_eq_true_eq] at hb2; omega) fun hb2=>?_
 have hw8:t.writes.length ≤ 8 - t.reads.length:=by simp only [decide_eq_false_iff_not] at hb2; omega
 repeat refine zh ?_
 refine zQf (L:=t.reads) (by omega) (fun w hw=>(hr w hw.drops).1) ?_
 by_cases hr1:zDD t.reads∧∀ k ∈ t.reads,zJ7 k
 rotate_left
 ·rw [decide_eq_false hr1]
  exact s_t (no fun hd=>hr1 hd.2.2.1)
 rw [decide_eq_true hr1]
 refine s_f ?_
 repeat refine zh ?_
 refine zQf (L:=t.writes) (by omega) (fun w hw=>(hr w hw.drops).2.1) ?_
 by_cases hr2:zDD t.writes∧∀ k ∈ t.writes,zJ7 k
 rotate_left
 ·rw [decide_eq_false hr2]
  exact no fun hd=>hr2 hd.2.2.2.1
 rw [decide_eq_true hr2]
 unfold xY.s1
 refine s_f ?_
 repeat refine zh ?_
 have ok:decide (zPA t) = !(t.reads.any fun k=>decide (k ∈ t.writes)):=by
  rw [Bool.eq_iff_iff]
  simp only [decide_eq_true_eq,Bool.not_eq_true',List.any_eq_false]
  constructor
  ·exact fun hd=>fun k hk=>hd.2.2.2.2 k hk
  ·exact fun ha=>⟨hr8,hw8,hr1,hr2,fun k hk=>by simpa using ha k hk⟩
 rw [ok] at h
 refine fun w hw=>zBu _ _ _ _ ?_
 refine Sep.hg hw ?_
 clear hw w
 unfold q9
 refine fun w hw=>zCU _ _ _ _ ?_
 refine Sep.hg hw ?_
 clear hw w
 show HG B _ (zHv Tryz.prog (zVj Value.string) t.rs (dfV t1) _)
 refine zIu (vV:=fun x:TX=>xU x) (L:=t.reads) (fun k=>decide (k ∈ t.writes)) n1 (by omega) (fun i x k hx hk=>zAa (fun w hw=>(hr w hw.drops).1) hx hk) (fun x q _ hq=>?_) ?_
 ·refine zEV (cs:=[.pointer (some ⟨t1,0,none⟩)]) ?_
  refine fun w hw=>zIB _ _ _ _ ?_
  refine Sep.hg hw ?_
  clear hw w
  unfold zCd
  repeat refine zh ?_
  refine zGn (L:=t.writes) (key:=x) (by omega) (fun w hw=>(hr w hw.drops).2.1) ?_
  exact hq
 ·rw [zGg,zOs]
  exact zC h
theorem zWK {t:TxX} {n:Int} {Q:Int→K} (hr:∀ w,Holds B Γ w→zCs w t) (hl:t.reads.length < 10000000∧t.writes.length < 10000000∧t.ops.length < 10000000) (h:HG B Γ (Q (if vE n t then 0 else 1))):HG B Γ (qR.call (txL t).toArray n Q):=fun w hw=>by
 refine zMa _ _ _ _ ?_
 obtain ⟨n1,n2,n3⟩:=zKz (hr w hw)
 refine Sep.hg hw ?_
 clear hw w
 unfold qR
 refine zR fun t2=>?_
 have S2:∀ b,b = vE n t→HG B (blk t2 (.cells (txL t).toArray yg (0,0))::Γ) (qR.s2 Q b):=fun b hb=>by
  unfold qR.s2
  rw [← hb] at h
  refine zH (fun hc=>?_) fun hc=>?_
  ·have:b = false:=by simpa using hc
   rw [this] at h
   exact zC h
  ·have:b = true:=by simpa using hc
   rw [this] at h
   exact zC h
 have S1:∀ b,(b = true ↔ ¬ zAJ n t∧¬ zFh t)→HG B (blk t2 (.cells (txL t).toArray yg (0,0))::Γ) (qR.s1 Q n ⟨t2,0,none⟩ b):=fun b hb=>by
  have hR:vE n t = (b && if t.kind = 2 then decide (t.reads.length = 0) && (decide (t.ops.length = 0) && (decide (t.writes.length = 1) && (decide (0 ≤ t.to) && decide (t.to < n))))
    else if t.kind ≠ 1∨t.to ≠ 0∨16 < t.ops.length then false else t.ops.all fun x=>vP t x.1):=by
   unfold vE
   cases b with
   | true=>
    obtain ⟨h1,h2⟩:=hb.1 rfl
    rw [if_neg h1,if_neg h2,Bool.true_and]
   | false=>
    rw [Bool.false_and]
    by_cases h1:zAJ n t
    ·rw [if_pos h1]
    ·rw [if_neg h1]
     by_cases h2:zFh t
     ·rw [if_pos h2]
     ·exact absurd (hb.2 ⟨h1,h2⟩) (by simp)
  unfold qR.s1
  repeat refine zh ?_
  refine zH (fun hk1=>?_) fun hk1=>?_
  ·have hk1':t.kind = 1:=by simpa using hk1
   rw [if_neg (by omega)] at hR
   refine zH (fun hb1=>?_) fun hb1=>?_
   rotate_left
   ·exact S2 _ (by rw [hR,hb1]; rfl)
   rw [hb1,Bool.true_and] at hR
   repeat refine zh ?_
   refine zH (fun hto=>?_) fun hto=>?_
   rotate_left
   ·have:t.to ≠ 0:=by simpa using hto
    exact S2 _ (by rw [hR,if_pos (.inr (.inl this))])
   have hto':t.to = 0:=by simpa using hto
   repeat refine zh ?_
   refine zH (fun ho=>?_) fun ho=>?_
   rotate_left
   ·have:16 < t.ops.length:=by simp only [decide_eq_false_iff_not] at ho; omega
    exact S2 _ (by rw [hR,if_pos (.inr (.inr this))])
   have ho':¬ 16 < t.ops.length:=by simp only [decide_eq_true_eq] at ho; omega
   rw [if_neg (by rintro (g | g | g) <;> contradiction)] at hR
   repeat refine zh ?_
   refine fun w hw=>zBt _ _ _ _ ?_
   refine Sep.hg hw ?_
   clear hw w
   unfold q8
   refine fun w hw=>zCT _ _ _ _ ?_
   refine Sep.hg hw ?_
   clear hw w
   show HG B _ (zHv Tryz.prog (zVi 4) t.os (cfV t2) _)
   refine zIu (vV:=fun x=>.agg (opF x).toArray) (L:=t.ops) (fun x=>!vP t x.1) n3 (by omega) (fun i x k hx hk=>zZU zBL (by omega) (fun w hw=>(hr w hw.drops).2.2.1) hx hk) (fun x q hx hq=>?_) ?_
   ·refine zEV (cs:=[.pointer (some ⟨t2,0,none⟩)]) ?_
    refine fun w hw=>zKL _ _ _ _ ?_
    refine Sep.hg hw ?_
    clear hw w
    unfold zEH
    refine zR fun o2=>?_
    repeat refine zh ?_
    refine zXu (t:=t) (x:=x) (fun w hw=>hr w hw.drops) ⟨by omega,by omega⟩ (fun w hw=>(hr w hw.drops).2.2.2 x hx) ?_
    exact zC hq
   ·rw [zGg,zOs]
    refine S2 _ ?_
    rw [hR,List.all_eq_not_any_not]
  have hk1':¬ t.kind = 1:=by simpa using hk1
  refine zH (fun hk2=>?_) fun hk2=>?_
  rotate_left
  ·have hk2':¬ t.kind = 2:=by simpa using hk2
   rw [if_neg hk2',if_pos (.inl hk1'),Bool.and_false] at hR
   exact S2 _ hR.symm
  have hk2':t.kind = 2:=by simpa using hk2
  rw [if_pos hk2'] at hR
  refine zH (fun hb1=>?_) fun hb1=>?_
  rotate_left
  ·exact S2 _ (by rw [hR,hb1]; rfl)
  rw [hb1,Bool.true_and] at hR
  repeat refine zh ?_
  refine zH (fun he=>?_) fun he=>?_
  rotate_left
  ·refine S2 _ ?_
   rw [hR,show decide (t.reads.length = 0) = false from decide_eq_false (by simp only [decide_eq_false_iff_not] at he; omega)]; rfl
  rw [show decide (t.reads.length = 0) = true from decide_eq_true (by simp only [decide_eq_true_eq] at he; omega),Bool.true_and] at hR
  repeat refine zh ?_
  refine zH (fun he2=>?_) fun he2=>?_
  rotate_left
  ·refine S2 _ ?_
   rw [hR,show decide (t.ops.length = 0) = false from decide_eq_false (by simp only [decide_eq_false_iff_not] at he2; omega)]; rfl
  rw [show decide (t.ops.length = 0) = true from decide_eq_true (by simp only [decide_eq_true_eq] at he2; omega),Bool.true_and] at hR
  repeat refine zh ?_
  refine zH (fun he3=>?_) fun he3=>?_
  rotate_left
  ·refine S2 _ ?_
   rw [hR,show decide (t.writes.length = 1) = false from decide_eq_false (by simp only [decide_eq_false_iff_not] at he3; omega)]; rfl
  rw [show decide (t.writes.length = 1) = true from decide_eq_true (by simp only [decide_eq_true_eq] at he3; omega),Bool.true_and] at hR
  repeat refine zh ?_
  refine zH (fun he4=>?_) fun he4=>?_
  rotate_left
  ·refine S2 _ ?_
   rw [hR,he4]; rfl
  rw [he4,Bool.true_and] at hR
  repeat refine zh ?_
  exact S2 _ hR.symm
 refine zH (fun hb=>?_) fun hb=>?_
 rotate_left
 ·have:n < 1:=by simp only [decide_eq_false_iff_not] at hb; omega
  exact S1 _ (by simp [zAJ,this])
 have hn1:1 ≤ n:=by simpa using hb
 refine zH (fun hb=>?_) fun hb=>?_
 rotate_left
 ·have:3 < n:=by simp only [decide_eq_false_iff_not] at hb; omega
  exact S1 _ (by simp [zAJ,this])
 have hn3:n ≤ 3:=by simpa using hb
 repeat refine zh ?_
 refine zQg (t:=t) (fun w hw=>hr w hw.drops) ⟨by omega,by omega⟩ ?_
 exact S1 _ (by rw [decide_eq_true_eq]; exact zWJ hn1 hn3)
end
end
section
open Go Go.Sep Go.Sep.Bt
structure MkX where
 key:TX
 home:Int
 cnt:Int
deriving DecidableEq
abbrev mkL (m:MkX):List Value:=[xU m.key,.int .i64 m.home,.int .u64 m.cnt]
theorem zDE (m:MkX):(mkL m).length = 3:=rfl
theorem zWL (L:List MkX):∀ v ∈ L.flatMap mkL,yX v = true:=fun v hv=>by
 obtain ⟨x,_,hx⟩:=List.mem_flatMap.1 hv
 simp only [mkL,List.mem_cons,List.not_mem_nil,or_false] at hx
 rcases hx with rfl | rfl | rfl <;> rfl
abbrev zam (n:Nat) (M:yY) (k:TX):MkX:=⟨k,(vo n M (bs k)).home,(vo n M (bs k)).cnt⟩
def zBy (n:Nat) (M:yY) (ks:List TX):List MkX:=ks.map (zam n M)
abbrev tgL (a b c d:Int):List Value:=[.int .i64 a,.int .u64 b,.int .u64 c,.int .i64 d]
abbrev orL (a b c d:Int) (t:TxX) (ms:Sl):List Value:=[.int .i64 a,.int .u64 b,.int .u64 c,.int .i64 d,.int .i64 t.kind,t.rs.val,t.ws.val,t.os.val,.int .i64 t.to,ms.val]
theorem zWM {t:TxX} (h:¬ zFg t):t.reads.length ≤ 40∧t.writes.length ≤ 40∧t.ops.length ≤ 60∧(∀ x ∈ t.reads++t.writes,x.length ≤ 200)∧∀ x ∈ t.ops,x.1.key.length ≤ 200∧x.1.val.length ≤ 200:=by
 simp only [zFg,not_or,Nat.not_lt,not_exists,not_and] at h
 obtain ⟨h1,h2,h3,h4,h5,h6⟩:=h
 refine ⟨h1,h2,h3,fun x hx=>?_,fun x hx=>⟨(h6 x hx).1,(h6 x hx).2⟩⟩
 rcases List.mem_append.1 hx with hx | hx
 ·exact h4 x hx
 ·exact h5 x hx
section
variable {B:World} {Γ Δ:List zB} {k:K} {st sd n:Nat} {M:yY}
theorem zWN {E esz:Nat} {vs:List Value} (h:HG B (SlC E esz ⟨none,0,0⟩ vs::Γ) k) (hv:vs = []:=by rfl):HG B Γ k:=fun w hw=>h w (by rw [hv]; exact hw.zAk E esz)
theorem zWO {t:TxX} {Q:Sl→K} (hr:∀ w,Holds B Γ w→zCs w t) (hl:t.reads.length ≤ 1000∧t.writes.length ≤ 1000) (hk:∀ x ∈ t.reads++t.writes,x.length ≤ 1000)
  (h:∀ s,HG B (SlC yu 3 s ((zBy n M (jW (t.reads++t.writes))).flatMap mkL)::ze st n M::Γ) (Q s)):HG B (ze st n M::Γ) (zAL.call (some ⟨st,0,none⟩) (txL t).toArray Q):=fun w hw=>by
 refine zLW _ _ _ _ ?_
 refine Sep.hg hw ?_
 clear hw w
 have hks:∀ x ∈ jW (t.reads++t.writes),x.length ≤ 1000:=fun x hx=>hk x (zJh.1 hx)
 have hkl:=zHK (t.reads++t.writes)
 rw [List.length_append] at hkl
 unfold zAL
 refine zR fun t3=>?_
 repeat refine zh ?_
 refine zO9 (fun w hw=>(hr w hw.drops).1) (fun w hw=>(hr w hw.drops).2.1) (by omega) (by omega) fun ks=>?_
 generalize jW (t.reads++t.writes) = K at hks hkl h ⊢
 refine zWN (E:=yu) (esz:=3) (vs:=([]:List MkX).flatMap mkL) ?_
 refine yS ks fun a1 a2 a3 a4=>?_
 rw [List.length_map,Nat.mul_one] at a1
 refine zC (Δ:=SlC yu 3 ⟨none,0,0⟩ (([]:List MkX).flatMap mkL)::SlS ks K::ze st n M::Γ) ?_
 refine vQ (α:=Sl×Int) (ι:=Nat) (fun x i=>x.2 = (i:Int)∧i ≤ K.length) (fun x i=>SlC yu 3 x.1 ((zBy n M (K.take i)).flatMap mkL)::SlS ks K::ze st n M::Γ) (fun x i=>K.length - i) 0 ⟨rfl,Nat.zero_le _⟩ ?_
 rintro k' ⟨o,_⟩ i ⟨rfl,hi⟩ hk'
 simp only at hi hk' ⊢
 refine yS o fun b1 b2 b3 b4=>?_
 rw [zn _ 3 zDE,zBy,List.length_map,List.length_take] at b1
 unfold zAL.b1
 refine zH (fun hb=>?_) fun hb=>?_
 ·have hil:i < K.length:=by simp only [decide_eq_true_eq] at hb; omega
  have hge:K[i]? = some K[i]:=List.getElem?_eq_getElem hil
  have hmem:K[i] ∈ K:=List.getElem_mem hil
  have htk:K.take (i + 1) = K.take i++[K[i]]:=List.take_succ_eq_append_getElem hil
  generalize K[i] = x at hge hmem htk
  have hxl:=hks x hmem
  have hsz:(bs x).size = x.length:=rfl
  refine zAa (L:=K) (fun w hw=>(yh (s:=ks) hw).1) hge ?_
  refine zQ st ?_
  refine zAM (by omega) fun sl hok=>?_
  refine zR fun r7=>?_
  refine qX (b:=r7) (l':=zBv (vo n M (bs x)) sl) ?_
  repeat refine zh ?_
  refine zOZ (s:=o) (m:=1) (us:=[.string (bs x),.int .i64 (vo n M (bs x)).home,.int .u64 (vo n M (bs x)).cnt]) (fun o2 ho2=>?_)
  refine qU ?_
  rw [show (zBy n M (K.take i)).flatMap mkL++[.string (bs x),.int .i64 (vo n M (bs x)).home,.int .u64 (vo n M (bs x)).cnt] = (zBy n M (K.take (i + 1))).flatMap mkL by rw [htk]; simp [zBy]]
  exact zC (hk' (o2,(i:Int) + 1) (i + 1) ⟨by simp,hil⟩ (by omega))
 ·have hil:i = K.length:=by simp only [decide_eq_false_iff_not] at hb; omega
  rw [hil,List.take_length]
  exact zC (h o)
theorem zXv {t:TxX} {a b c d:Int} {Q:Array Value→K} (hr:∀ w,Holds B Γ w→zCs w t) (hl:t.reads.length ≤ 1000∧t.writes.length ≤ 1000∧t.ops.length ≤ 1000∧∀ x ∈ t.ops,x.1.val.length ≤ 1000000) (hk:∀ x ∈ t.reads++t.writes,x.length ≤ 1000)
  (h:∀ t' ms,zUR t' t→HG B (SlC yu 3 ms ((zBy n M (jW (t.reads++t.writes))).flatMap mkL)::ze st n M::txC t' Γ) (Q (orL a b c d t' ms).toArray)) :
  HG B (ze st n M::Γ) (zDV.call (some ⟨st,0,none⟩) (tgL a b c d).toArray (txL t).toArray Q):=fun w hw=>by
 refine zMS _ _ _ _ _ ?_
 refine Sep.hg hw ?_
 clear hw w
 unfold zDV
 refine zR fun tag4=>?_
 refine zR fun t5=>?_
 refine zR fun t6=>?_
 repeat refine zh ?_
 refine zTX (t:=t) (fun w hw=>hr w hw.drops) hl fun t' ht'=>?_
 repeat refine zh ?_
 refine zQ st ?_
 refine zWO (t:=t) (fun w hw=>hr w hw.drops) ⟨hl.1,hl.2.1⟩ hk fun ms=>?_
 repeat refine zh ?_
 exact zC (h t' ms ht')
end
end
end Go.Proofs.YtdemfamgieonbaaGreat
namespace Go.Sep
section
open Go Go.RowKit Go.MapKept
structure Fnd {α:Type} [DecidableEq α] (P:Program) (kt:TypeId) (enc:α→Value):Prop where
 chk:∀ a w,(Instr.checkKey false 10000 kt (enc a)).run P w = .ok () w
 bits:∀ a,Instr.sameBits 10000 (enc a) (enc a) = true
 find:∀ (β:Type) (cV:β→Value) (es:Array MapEntry) (m:List (α×β)),zEX enc cV es m→∀ a w,((Instr.findKey kt (enc a) es.toList).run P w = .ok none w∧y9 a m = none∧(∀ v,vL a v m = m++[(a,v)])) ∨
  ∃ j x,(Instr.findKey kt (enc a) es.toList).run P w = .ok (some (j,cV x)) w∧j < m.length∧m[j]? = some (a,x)∧y9 a m = some x∧(∀ v,vL a v m = m.set j (a,v))
theorem zbn {α:Type} [DecidableEq α] {P:Program} {kt:TypeId} {cel:α→List Value} (h:zKF P kt cel):Fnd P kt (kyS cel):=⟨fun a w=>h.chk a false w,h.bits,fun β cV es m hr a w=>by
 rcases zHF h hr a w with ⟨g1,g2,g3,_⟩ | ⟨j,x,g1,g2,g3,g4,g5,_⟩
 ·exact .inl ⟨g1,g2,g3⟩
 ·exact .inr ⟨j,x,g1,g2,g3,g4,g5⟩⟩
theorem zQh {p:MapEntry→Bool}:∀ {l:List MapEntry} {j:Nat} {e:MapEntry},l[j]? = some e→p e = true→(∀ i x,i < j→l[i]? = some x→p x = false)→l.findIdx? p = some j
 | [],_,_,h,_,_=>by simp at h
 | a::l,0,e,h,hp,_=>by
  simp at h; subst h
  simp [List.findIdx?_cons,hp]
 | a::l,j + 1,e,h,hp,hn=>by
  have h0:=hn 0 a (by omega) rfl
  rw [List.findIdx?_cons,h0]
  simp only [Bool.false_eq_true,if_false]
  rw [zQh (j:=j) (by simpa using h) hp fun i x hi hx=>hn (i + 1) x (by omega) (by simpa using hx)]
  rfl
section
variable {α β:Type} [DecidableEq α] {P:Program} {B:World} {Γ Δ:List zB} {kt:TypeId} {enc:α→Value} {cV:β→Value} {k:K}
def zRp (enc:α→Value) (cV:β→Value) (b:Nat) (m:List (α×β)) (z:β) (a:α) (st:Int):zB:=ex fun es:Array MapEntry=>ex fun c:Nat=>fun g=>
 (stamps es c∧∃ m1 j e,zEX enc cV es m1∧j < m1.length∧es[j]? = some e∧(e.born:Int) = st∧e.key = enc a∧(∀ v,m1.set j (a,v) = vL a v m)∧m1 = vL a ((y9 a m).getD z) m)∧blk b (.map es c) g
instance (priority:=high) zbG {b:Nat} {m:List (α×β)} {z:β} {a:α} {st:Int} {Γ:List zB}:Own b (zRp enc cV b m z a st::Γ) (zRp enc cV b m z a st) Γ:=⟨.refl _⟩
theorem zRp.map {m:List (α×β)} {z:β} {a:α} {st:Int} {b:Nat} {w:World} (h:Holds B (zRp enc cV b m z a st::Δ) w):Holds B (xM enc cV b (vL a ((y9 a m).getD z) m)::Δ) w:=by
 obtain ⟨es,h1⟩:=Holds.ex.1 h
 obtain ⟨c,h1⟩:=Holds.ex.1 h1
 obtain ⟨hst,m1,j,e,hr,hj,he,hbn,hek,hm,h2⟩:=h1.fact fun g hg=>hg.1
 subst h2
 exact xM.shuts ⟨hr,hst⟩ (h1.imp fun g hg=>hg.2)
theorem zHI {v:β}:∀ {m:List (α×β)} {a:α},y9 a m = some v→vL a v m = m
 | [],_,h=>by simp [y9] at h
 | p::m,a,h=>by
  unfold y9 at h
  unfold vL
  split at h
  ·rename_i hp
   simp only [Option.some.injEq] at h
   rw [if_pos hp,hp,← h]
  ·rename_i hp
   rw [if_neg hp,zHI h]
theorem zNW (m:List (α×β)) (a:α) (v:β):y9 a (vL a v m) = some v:=by rw [zFA,if_pos rfl]
theorem zWP {T E:TypeId} {b:Nat} {m:List (α×β)} {z:β} {a:α} {k:β→Int→K} (hF:Fnd P kt enc) (hz:zBN P E (cV z)) (h:∀ st,HG B (zRp enc cV b m z a st::Δ) (k ((y9 a m).getD z) st)) (hT:P.underlying T = some (.map kt E):=by kernel_rfl) [p:Own b Γ (xM enc cV b m) Δ] :
  HG B Γ (Do2 P (Instr.mapEntry T (.map (some b)) (enc a)) (fun x y=>.tuple #[cV x,.int .i64 y]) k):=fun w hw=>by
 obtain ⟨es,c,⟨hr,hst⟩,h1⟩:=xM.opens (hw.perm p.perm)
 have hb:=h1.block
 have hlen:es.size = m.length:=by have:=congrArg List.length hr; simpa using this
 have key:∀ {es' c' v st w'},(Instr.mapEntry T (.map (some b)) (enc a)).run P w = .ok (.tuple #[cV v,goInt st]) w'→v = (y9 a m).getD z→(stamps es' c'∧∃ m1 j e,zEX enc cV es' m1∧j < m1.length∧es'[j]? = some e∧(e.born:Int) = st∧e.key = enc a∧(∀ v,m1.set j (a,v) = vL a v m)∧m1 = vL a ((y9 a m).getD z) m) →
   Holds B (blk b (.map es' c')::Δ) w'→Do2 P (Instr.mapEntry T (.map (some b)) (enc a)) (fun x y=>.tuple #[cV x,.int .i64 y]) k w:=fun {es' c' v st w'} h3 h4 h5 h6=>by
  subst h4
  exact ⟨_,st,w',h3,h st w' (Holds.ex.2 ⟨es',Holds.ex.2 ⟨c',h6.imp fun g hg=>⟨h5,hg⟩⟩⟩)⟩
 rcases hF.find β cV es m hr a w with ⟨g1,g2,h2⟩ | ⟨j,x,g1,hj,h0,g2,h2⟩
 ·obtain ⟨e1,h3⟩:=h1.zFa (P:=P) (es':=es.push { key:=enc a,val:=cV z,born:=c }) (c':=c + 1)
  refine key (es':=es.push { key:=enc a,val:=cV z,born:=c }) (c':=c + 1) (v:=z) (st:=(c:Int)) ?_ (by rw [g2]; rfl) ⟨zGd hst _ _,m++[(a,z)],m.length,⟨enc a,cV z,c⟩,?_,by simp,?_,rfl,rfl,fun v=>?_,by rw [h2,g2]; rfl⟩ h3
  ·unfold Instr.mapEntry
   simp only [Sem.run_bind,run_underlying hT,Result.andThen,MapKept.run_getObj_map hb,hF.chk,g1,zAU hz,e1,Sem.run_pure]
  ·simp only [zEX,Array.toList_push,List.map_append,List.map_cons,List.map_nil]
   rw [show es.toList.map (fun e=>(e.key,e.val)) = _ from hr]
  ·rw [← hlen]; simp
  ·rw [h2,List.set_append]; simp
 ·have hes:∃ e,es.toList[j]? = some e∧e.key = enc a:=by
   have:=zEm hr j
   rw [h0] at this
   cases he:es.toList[j]? with
   | none=>rw [he] at this; simp at this
   | some e=>
    rw [he] at this
    simp only [Option.map_some,Option.some.injEq,Prod.mk.injEq] at this
    exact ⟨e,rfl,this.1⟩
  obtain ⟨e,he,hek⟩:=hes
  have he2:es[j]? = some e:=by rw [← he,Array.getElem?_toList]
  have hmod:(es.modify j fun e'=>{ e' with key:=enc a }) = es:=by
   apply Array.ext_getElem?
   intro i
   rw [Array.getElem?_modify]
   split
   ·rename_i hij
    subst hij
    rw [he2]
    simp [← hek]
   ·rfl
  obtain ⟨e1,h3⟩:=h1.zFa (P:=P) (es':=es) (c':=c)
  refine key (es':=es) (c':=c) (v:=x) (st:=(e.born:Int)) ?_ (by rw [g2]; rfl) ⟨hst,m,j,e,hr,hj,he2,rfl,hek,fun v=>(h2 v).symm,by rw [g2]; exact (zHI g2).symm⟩ h3
  unfold Instr.mapEntry
  simp only [Sem.run_bind,run_underlying hT,Result.andThen,MapKept.run_getObj_map hb,hF.chk,g1,he2,Option.map_some,Option.getD_some,hek,Instr.keyThatStays,hF.bits,if_true,Sem.run_pure,hmod,e1]
theorem zRq {T:TypeId} {b:Nat} {m:List (α×β)} {z:β} {a:α} {v:β} {x:Value} {st:Int} (hx:x = cV v) (h:HG B (xM enc cV b (vL a v m)::Δ) k) [p:Own b Γ (zRp enc cV b m z a st) Δ] :
  HG B Γ (DoU P (Instr.entryStore T (.map (some b)) (.int .i64 st) x) k):=fun w hw=>by
 subst hx
 obtain ⟨es,h1⟩:=Holds.ex.1 (hw.perm p.perm)
 obtain ⟨c,h1⟩:=Holds.ex.1 h1
 obtain ⟨hst,m1,j,e,hr,hj,he,hbn,hek,hm,_⟩:=h1.fact fun g hg=>hg.1
 have h1:=h1.imp fun g hg=>hg.2
 have hb:=h1.block
 have hidx:es.findIdx? (fun e'=>((e'.born:Nat):Int) == st) = some j:=by
  rw [show es.findIdx? (fun e'=>((e'.born:Nat):Int) == st) = es.toList.findIdx? (fun e'=>((e'.born:Nat):Int) == st) by cases es; simp]
  refine zQh (e:=e) (by rw [← he,Array.getElem?_toList]) (by simp [hbn]) fun i x hi hx=>?_
  simp only [beq_eq_false_iff_ne,ne_eq,← hbn,Int.natCast_inj]
  intro hbe
  have hl:j < es.toList.length:=by
   have:=(Array.getElem?_eq_some_iff.1 he).1; simpa using this
  have h1:(es.toList.map (·.born))[i]? = some e.born:=by rw [List.getElem?_map,hx,← hbe]; rfl
  have h2:(es.toList.map (·.born))[j]? = some e.born:=by rw [List.getElem?_map,Array.getElem?_toList,he]; rfl
  have:=(List.getElem?_inj (by simp at hl ⊢; omega) hst.1).1 (h1.trans h2.symm)
  omega
 obtain ⟨e1,h3⟩:=h1.zFa (P:=P) (es':=es.modify j fun e'=>{ e' with val:=cV v }) (c':=c)
 refine ⟨(),_,?_,h _ (xM.shuts ⟨?_,?_⟩ h3)⟩
 ·unfold Instr.entryStore
  simp only [Sem.run_bind,MapKept.run_getObj_map hb,Result.andThen,asInt,asIntOf,Sem.run_pure,hidx,e1]
 ·rw [← hm]
  simp only [zEX]
  apply List.ext_getElem?
  intro i
  have hi:=zEm hr i
  simp only [List.getElem?_map,Array.getElem?_toList,Array.getElem?_modify] at hi ⊢
  by_cases hij:j = i
  ·subst hij
   rw [List.getElem?_set_self hj,he]
   simp [hek]
  ·rw [List.getElem?_set_ne hij,if_neg hij]
   exact hi
 ·have:(es.modify j fun e'=>{ e' with val:=cV v }) = es.modify j fun e'=>{ e' with key:=enc a,val:=cV v }:=by
   apply Array.ext_getElem?
   intro i
   simp only [Array.getElem?_modify]
   split
   ·rename_i hij
    subst hij
    rw [he]
    simp [← hek]
   ·rfl
  rw [this]
  exact zEu hst _ _ _
end
section
variable {P:Program} {B:World} {Γ Δ:List zB} {k:K}
theorem zan {k:(World→Prop)→K} (S:World→Prop) (h0:∀ w,Holds B Γ w→S w) (h:HG B Γ (k S)):HG B Γ (yZ k):=fun w hw=>⟨S,h0 w hw,h w hw⟩
theorem zao {S:World→Prop} (h0:∀ w,Holds B Γ w→S w) (h:HG B Γ k):HG B Γ (Sv S k):=fun w hw=>⟨h0 w hw,h w hw⟩
theorem zXw {S:World→Prop} {a:Addr} {n:Nat} {l:List Value} {k:Array Value→K} (h0:∀ w,S w→RdN w a l.toArray) (h:HG B Γ (k l.toArray)) (hn:l.length = n:=by rfl):HG B Γ (vG S a n k):=fun w hw=>⟨l.toArray,by simpa using hn,h0,h w hw⟩
theorem zZg {S:World→Prop} {α:Type} {a:Addr} {c:α→Value} {x:α} {k:α→K} (h0:∀ w,S w→w.cell? a = some (c x)) (h:HG B Γ (k x)):HG B Γ (LdS S a c k):=fun w hw=>⟨x,h0,h w hw⟩
theorem zZh {S:World→Prop} {α:Type} {s:Sem Value} {c:α→Value} {x:α} {k:α→K} (h0:∀ w,S w→s.run P w = .ok (c x) w) (h:HG B Γ (k x)):HG B Γ (RdS P S s c k):=fun w hw=>⟨x,h0,h w hw⟩
theorem zWQ {a:Addr} {b off n:Nat} {l l':List Value} {T:TypeId} {fz:Nat×Nat} {w:World} (hw:Holds B Γ w) [ad:zC2 a b off] [p:Own b Γ (blk b (.cells l.toArray T fz)) Δ] (hl:(l.drop off).take n = l':=by rfl) (hn:l'.length = n:=by rfl):RdN w a l'.toArray:=by
 rw [ad.h]; exact zOX (zBU hw (p:=p)) hl hn
theorem zTZ {α β:Type} [DecidableEq α] {kt:TypeId} {cel:α→List Value} {cV:β→Value} {T E:TypeId} {b:Nat} {m:List (α×β)} {z:β} {a:α} {w:World} (hw:Holds B Γ w) (hE:zKF P kt cel) (hz:zBN P E (cV z)) (hT:P.underlying T = some (.map kt E):=by kernel_rfl) [p:Own b Γ (xM (kyS cel) cV b m) Δ] :
  (Instr.lookup T (.map (some b)) (kyS cel a) false).run P w = .ok (cV ((y9 a m).getD z)) w:=by
 obtain ⟨x,h1,rfl⟩:=zLc (B:=B) (Γ:=Γ) (Δ:=Δ) (P:=P) (b:=b) (m:=m) (a:=a) (k:=fun x _=>x = (y9 a m).getD z) hE hz (fun w _=>rfl) hT w hw
 exact h1
end
end
end Go.Sep
namespace Go.Proofs.YtdemfamgieonbaaGreat
section
open Go Go.Sep
set_option maxHeartbeats 4000000
attribute [local irreducible] G Gp Cx Tx Ex Sx Dx Ox Ax Lx Rx Fx Bx Bj Al Do Ld LdN St StN New zK Ar DoU Rd Rd2 Pu Cd Ite Fv vW jU jI yH zAZ zDH zDQ zDl Ext Dead Dr yZ Sv LdS vG RdS zDw Nn Idx zAz zDk Fld Bld Slc zDx Cat All yN jN jE jV
instance:AT Tryz.prog 35 3:=⟨by kernel_rfl⟩
instance:CB Tryz.prog 102:=⟨by kernel_rfl⟩
instance:CB Tryz.prog 13:=⟨by kernel_rfl⟩
instance:CB Tryz.prog 147:=⟨by kernel_rfl⟩
instance:CB Tryz.prog 148:=⟨by kernel_rfl⟩
instance:CB Tryz.prog 149:=⟨by kernel_rfl⟩
instance:CB Tryz.prog 50:=⟨by kernel_rfl⟩
instance:CB Tryz.prog 51:=⟨by kernel_rfl⟩
instance:CB Tryz.prog 54:=⟨by kernel_rfl⟩
instance:CB Tryz.prog 65:=⟨by kernel_rfl⟩
instance:CB Tryz.prog 89:=⟨by kernel_rfl⟩
instance:CB Tryz.prog 90:=⟨by kernel_rfl⟩
instance:CB Tryz.prog 91:=⟨by kernel_rfl⟩
instance:CT Tryz.prog 38:=⟨by kernel_rfl⟩
instance:FT Tryz.prog 35 0 0 1:=⟨by kernel_rfl⟩
instance:FT Tryz.prog 35 1 1 1:=⟨by kernel_rfl⟩
instance:FT Tryz.prog 35 2 2 1:=⟨by kernel_rfl⟩
instance:FT Tryz.prog 37 0 0 3:=⟨by kernel_rfl⟩
instance:FT Tryz.prog 37 1 3 1:=⟨by kernel_rfl⟩
instance:FT Tryz.prog 40 0 0 4:=⟨by kernel_rfl⟩
instance:FT Tryz.prog 40 1 4 5:=⟨by kernel_rfl⟩
instance:FT Tryz.prog 40 2 9 1:=⟨by kernel_rfl⟩
instance:FT Tryz.prog 48 0 0 1:=⟨by kernel_rfl⟩
instance:FT Tryz.prog 48 1 1 1:=⟨by kernel_rfl⟩
instance:FT Tryz.prog 48 2 2 10:=⟨by kernel_rfl⟩
instance:PLT Tryz.prog 207 [(0,1)]:=⟨_,Tryz.underlying207,by kernel_rfl⟩
instance:SLT Tryz.prog 275 33 1:=⟨by kernel_rfl⟩
instance:SZ Tryz.prog 35 3:=⟨by kernel_rfl⟩
instance:SZ Tryz.prog 38 1:=⟨by kernel_rfl⟩
instance:ZT Tryz.prog 207 (.agg #[(Sl.val ⟨none,0,0⟩)]):=⟨Tryz.t207,by kernel_rfl,by kernel_rfl⟩
instance:ZT Tryz.prog 3 (.int .i64 0):=⟨Tryz.t3,by kernel_rfl,by kernel_rfl⟩
instance:ZT Tryz.prog 33 (.int .u64 0):=⟨Tryz.t33,by kernel_rfl,by kernel_rfl⟩
instance:ZT Tryz.prog 35 (.agg #[(.int .i64 0),(.int .u64 0),(.int .u64 0)]):=⟨Tryz.t35,by kernel_rfl,by kernel_rfl⟩
def qo.s2 (Q:Sl→K) (c:Sl→Int→K) (a:Sl): K :=
 zAY.call a<|
 zo.call a fun b=>
 Q b
def qo.b1 (Q:Sl→K) (a:Sl→Int→K) (o:Sl) (p:Int) (b:Sl) (c:Int): K :=
 Ite (decide (c < p))
  (Idx o c 3 fun f=>
  LdN f 3 fun g=>
  New 84 #[(.string ⟨#[]⟩),.int .i64 0,.int .u64 0] fun d=>
  StN d 3 g<|
  Ld (d.add 1) (Value.int .i64) fun i=>
  New 3 #[.int .i64 i] fun j=>
  Do Tryz.prog (Builtin.append_ #[42,42] 42 #[Sl.val b,(Sl.val (Sl.mk (some j) 1 1))]) Sl.val fun k=>
  Ar (IntKind.wrap .i64 (c + 1)) fun l=>
  a k l)
  (Ite (decide ((b.n:Int) = 0))
   (New 3 #[.int .i64 0] fun m=>
   qo.s2 Q a (Sl.mk (some m) 1 1))
   (qo.s2 Q a b))
def qo (f:Av) (Q:Sl→K): K :=
 New 40 f fun b=>
 Ld (b.add 9) Sl.val fun a=>
 yN (α:=Sl×Int) (fun X x=>qo.b1 Q (fun c d=>X (c,d)) a (a.n:Int) x.1 x.2) ((Sl.mk none 0 0),0)
theorem zL2 (c Q w) (h:qo c Q w):qo.call c Q w:=by
 have:∀ d,XH 2 d→JH 8 fun D=>D [] (fun C=>∀ f,C [(2,Sl.val f)] (qo.s2 Q (fun a b=>d (a,b)) f)):=by intros; exact ⟨fun _ h=>⟨_,_,h⟩⟩
 have:∀ g i,LH 2 (fun x:Sl×Int=>[(2,Sl.val x.1),(6,Sl.val g),(7,.int .i64 i),(8,.int .i64 x.2)]) (fun X x=>qo.b1 Q (fun a b=>X (a,b)) g i x.1 x.2):=fun _ _=>⟨⟩
 exact zO 26 h Tryz.func13
def vw.s1 (Q:Bool→K) (a:Bool): K :=
 Q a
def vw (f:Av) (Q:Bool→K): K :=
 New 40 f fun a=>
 Ld (a.add 4) (Value.int .i64) fun b=>
 Ite (decide (b = 1))
  (LdN a 10 fun c=>
  qo.call c fun d=>
  vw.s1 Q (decide ((d.n:Int) = 1)))
  (vw.s1 Q false)
theorem zKP (a Q w) (h:vw a Q w):vw.call a Q w:=by
 have:JH 1000001 fun D=>D [] (fun C=>∀ b,C [(2,.bool b)] (vw.s1 Q b)):=⟨fun _ h=>⟨_,_,h⟩⟩
 exact zO 13 h Tryz.func14
def yG.s2 (Q:Sl→Int→K) (b:Addr) (l:Bool): K :=
 Ite l
  (Q (Sl.mk none 0 0) 1)
  (New 207 #[Sl.val ⟨none,0,0⟩] fun a=>
  Ld b (Value.int .i64) fun c=>
  Ar (IntKind.wrap .u64 c) fun d=>
  Ld (b.add 1) (Value.int .i64) fun f=>
  Ar (IntKind.wrap .u64 f) fun g=>
  New 33 #[.int .u64 d,.int .u64 g] fun i=>
  zAV.call (some a) (Sl.mk (some i) 2 2)<|
  LdN (b.add 2) 10 fun j=>
  uI.call (some a) j<|
  zBT.call (some a) fun k=>
  Q k 0)
def yG.s1 (Q:Sl→Int→K) (a:Addr) (d:Bool): K :=
 Ite (!d)
  (yG.s2 Q a true)
  (LdN (a.add 2) 10 fun b=>
  z8.call b 3 fun c=>
  yG.s2 Q a (decide (c ≠ 0)))
def yG (i:Av) (Q:Sl→Int→K): K :=
 New 48 i fun a=>
 Ld a (Value.int .i64) fun f=>
 Ite (decide (f = 1))
  (Ld (a.add 1) (Value.int .i64) fun g=>
  Ite (decide (g = 0))
   (yG.s1 Q a true)
   (Ld a (Value.int .i64) fun b=>
   Ite (decide (b = 2))
    (Ld (a.add 1) (Value.int .i64) fun c=>
    Ite (decide ((0:Int) ≤ c))
     (Ld (a.add 1) (Value.int .i64) fun d=>
     yG.s1 Q a (decide (d < 64)))
     (yG.s1 Q a false))
    (yG.s1 Q a false)))
  (Ld a (Value.int .i64) fun b=>
  Ite (decide (b = 2))
   (Ld (a.add 1) (Value.int .i64) fun c=>
   Ite (decide ((0:Int) ≤ c))
    (Ld (a.add 1) (Value.int .i64) fun d=>
    yG.s1 Q a (decide (d < 64)))
    (yG.s1 Q a false))
   (yG.s1 Q a false))
theorem zIF (c Q w) (h:yG c Q w):yG.call c Q w:=by
 have:JH 3 fun D=>∃ a,D [(1,(.pointer (some a)))] (fun C=>∀ d,C [(1,(.pointer (some a))),(36,.bool d)] (yG.s2 Q a d)):=⟨fun _ ⟨_,h⟩=>⟨_,_,h⟩⟩
 have:JH 2 fun D=>∃ b,D [(1,(.pointer (some b)))] (fun C=>∀ f,C [(1,(.pointer (some b))),(4,.bool f)] (yG.s1 Q b f)):=⟨fun _ ⟨_,h⟩=>⟨_,_,h⟩⟩
 exact zO 54 h Tryz.func52
def z8.s5 (Q b:Int→K) (f:Int) (g i:Sl) (j c:Int) (d:Bool): K :=
 Ite d
  (Q 1)
  (Ar (IntKind.wrap .i64 (c + 1)) fun a=>
  b a)
def z8.b4 (Q i:Int→K) (c:Int) (d f:Sl) (g a:Int): K :=
 Ite (decide (a < g))
  (Idx f a 3 fun j=>
  LdN j 3 fun k=>
  New 84 #[(.string ⟨#[]⟩),.int .i64 0,.int .u64 0] fun b=>
  StN b 3 k<|
  Dr<|
  Ld b Value.string fun l=>
  Idx d a 1 fun m=>
  Ld m Value.string fun n=>
  Ite (!(l.toList == n.toList))
   (z8.s5 Q i c d f g a true)
   (Ld (b.add 1) (Value.int .i64) fun o=>
   Ite (decide (o < 0))
    (z8.s5 Q i c d f g a true)
    (Ld (b.add 1) (Value.int .i64) fun p=>
    z8.s5 Q i c d f g a (decide (c ≤ p)))))
  (Q 0)
def z8.s3 (Q:Int→K) (b:Int) (c:Addr) (d:Sl) (f:Bool): K :=
 Ite f
  (Q 1)
  (Ld (c.add 9) Sl.val fun a=>
  yN (α:=Int) (fun X x=>z8.b4 Q X b d a (a.n:Int) x) 0)
def z8.s2 (Q:Int→K) (c:Int) (a:Addr) (b:Sl) (f:Bool): K :=
 Ite (!f)
  (z8.s3 Q c a b true)
  (Ld (a.add 9) Sl.val fun d=>
  z8.s3 Q c a b (decide ((d.n:Int) ≠ (b.n:Int))))
def z8.s1 (Q:Int→K) (b:Int) (a d:Addr) (c:Sl): K :=
 LdN (a.add 4) 5 fun f=>
 qR.call f b fun g=>
 Ite (decide (g = 0))
  (Ld d (Value.int .i64) fun i=>
  Ite (decide ((0:Int) ≤ i))
   (Ld d (Value.int .i64) fun j=>
   Ite (decide (j < 9))
    (Ld (d.add 1) (Value.int .u64) fun k=>
    Ite (decide ((0:Int) < k))
     (Ld (d.add 2) (Value.int .u64) fun l=>
     Ite (decide ((0:Int) < l))
      (Ld (a.add 3) (Value.int .i64) fun m=>
      Ite (decide ((0:Int) ≤ m))
       (Ld (a.add 3) (Value.int .i64) fun n=>
       z8.s2 Q b a c (decide (n < 3)))
       (z8.s2 Q b a c false))
      (z8.s2 Q b a c false))
     (z8.s2 Q b a c false))
    (z8.s2 Q b a c false))
   (z8.s2 Q b a c false))
  (z8.s2 Q b a c false)
def z8 (i:Av) (g:Int) (Q:Int→K): K :=
 New 40 i fun b=>
 Dr <| yZ fun S=>
 vG S b 3 fun d=>
 vG S (b.add 4) 5 fun f=>
 All [
  (zCj.call f fun c=>
  Sv S<|
  New 35 #[.int .i64 0,.int .u64 0,.int .u64 0] fun a=>
  Sv S<|
  StN a 3 d<|
  z8.s1 Q g b a c),
  (New 35 #[.int .i64 0,.int .u64 0,.int .u64 0] fun a=>
  Sv S<|
  zCj.call f fun c=>
  Sv S<|
  StN a 3 d<|
  z8.s1 Q g b a c)
  ]
theorem zL3 (q r Q w) (h:z8 q r Q w):z8.call q r Q w:=by
 have:∀ t,XH 6 t→JH 9 fun D=>∃ b c d f g,D [(1,.int .i64 b),(6,Sl.val c),(64,Sl.val d),(65,.int .i64 f),(66,.int .i64 g)] (fun C=>∀ u,C [(1,.int .i64 b),(6,Sl.val c),(64,Sl.val d),(65,.int .i64 f),(66,.int .i64 g),(88,.bool u)] (z8.s5 Q t b c d f g u)):=by intros; exact ⟨fun _ ⟨_,_,_,_,_,h⟩=>⟨_,_,h⟩⟩
 have:∀ v y z aa,LH 6 (fun x:Int=>[(1,.int .i64 v),(6,Sl.val y),(64,Sl.val z),(65,.int .i64 aa),(66,.int .i64 x)]) (fun X x=>z8.b4 Q X v y z aa x):=fun _ _ _ _=>⟨⟩
 have:JH 4 fun D=>∃ i j k,D [(1,.int .i64 i),(2,(.pointer (some j))),(6,Sl.val k)] (fun C=>∀ ab,C [(1,.int .i64 i),(2,(.pointer (some j))),(6,Sl.val k),(62,.bool ab)] (z8.s3 Q i j k ab)):=⟨fun _ ⟨_,_,_,h⟩=>⟨_,_,h⟩⟩
 have:JH 3 fun D=>∃ l m n,D [(1,.int .i64 l),(2,(.pointer (some m))),(6,Sl.val n)] (fun C=>∀ ac,C [(1,.int .i64 l),(2,(.pointer (some m))),(6,Sl.val n),(7,.bool ac)] (z8.s2 Q l m n ac)):=⟨fun _ ⟨_,_,_,h⟩=>⟨_,_,h⟩⟩
 have:JH 2 fun D=>∃ o p,D [(1,.int .i64 o),(2,(.pointer (some p)))] (fun C=>∀ ad ae,C [(1,.int .i64 o),(2,(.pointer (some p))),(5,(.pointer (some ad))),(6,Sl.val ae)] (z8.s1 Q o p ad ae)):=⟨fun _ ⟨_,_,h⟩=>⟨_,_,h⟩⟩
 have:DH 1 2 [7] (.s [0,1,3,2,4] (.a [(5,1,.a [(6,1,.a [(7,0,.s [8] .e)])]),(6,1,.a [(5,1,.a [(7,0,.s [8] .e)])])])):=⟨⟩
 exact zO 90 h Tryz.func54
def zCf (k:Av) (Q:Av→K): K :=
 New 40 k fun a=>
 New 40 #[.int .i64 0,.int .u64 0,.int .u64 0,.int .i64 0,.int .i64 0,Sl.val ⟨none,0,0⟩,Sl.val ⟨none,0,0⟩,Sl.val ⟨none,0,0⟩,.int .i64 0,Sl.val ⟨none,0,0⟩] fun b=>
 Dr <| yZ fun S=>
 vG S (a.add 4) 5 fun c=>
 LdS S (a.add 9) Sl.val fun d=>
 zBB.call c fun f=>
 Sv S<|
 qj.call d fun g=>
 StN (a.add 4) 5 f<|
 St (a.add 9) (Sl.val g)<|
 LdN a 10 fun i=>
 StN b 10 i<|
 LdN b 10 fun j=>
 Q j
theorem zMd (b Q w) (h:zCf b Q w):zCf.call b Q w:=by
 have:DH 1 2 [5,7,9] (.s [0,3,1,4] (.a [(2,1,.s [6] (.a [(5,0,.a [(7,0,.s [8] (.a [(9,0,.e)]))])]))])):=⟨⟩
 exact zO 12 h Tryz.func58
def zAV.b1 (Q:K) (f:Int→K) (g:Pt) (i:Sl) (j a:Int): K :=
 Ite (decide (a < j))
  (Idx i a 1 fun b=>
  Ld b (Value.int .u64) fun c=>
  xE.call g c<|
  Ar (IntKind.wrap .i64 (a + 1)) fun d=>
  f d)
  (Q)
def zAV (b:Pt) (a:Sl) (Q:K): K :=
 yN (α:=Int) (fun X x=>zAV.b1 Q X b a (a.n:Int) x) 0
theorem zMe (a b Q w) (h:zAV a b Q w):zAV.call a b Q w:=by
 have:∀ c d f,LH 1 (fun x:Int=>[(0,.pointer c),(6,Sl.val d),(7,.int .i64 f),(8,.int .i64 x)]) (fun X x=>zAV.b1 Q X c d f x):=fun _ _ _=>⟨⟩
 exact zO 16 h Tryz.func89
def uI.b2 (Q:K) (o l:Int→K) (c:Pt) (m:Sl) (n b:Int): K :=
 Ite (decide (b < n))
  (Idx m b 3 fun d=>
  LdN d 3 fun f=>
  New 84 #[(.string ⟨#[]⟩),.int .i64 0,.int .u64 0] fun a=>
  StN a 3 f<|
  Ld (a.add 1) (Value.int .i64) fun g=>
  Ar (IntKind.wrap .u64 g) fun i=>
  xE.call c i<|
  Ld (a.add 2) (Value.int .u64) fun j=>
  xE.call c j<|
  Ar (IntKind.wrap .i64 (b + 1)) fun k=>
  l k)
  (Q)
def uI.b1 (Q:K) (f:Int→K) (b:Pt) (s:Addr) (t:Sl) (u c:Int): K :=
 Ite (decide (c < u))
  (Idx t c 4 fun g=>
  LdN g 4 fun i=>
  New 123 #[.int .i64 0,(.string ⟨#[]⟩),Sl.val ⟨none,0,0⟩,.int .i64 0] fun a=>
  StN a 4 i<|
  Ld a (Value.int .i64) fun j=>
  Ar (IntKind.wrap .u64 j) fun k=>
  xE.call b k<|
  Ld (a.add 1) Value.string fun l=>
  Do Tryz.prog (convert 9 85 (.string l)) Sl.val fun m=>
  jZ.call b m<|
  Ld (a.add 2) Sl.val fun o=>
  jZ.call b o<|
  Ld (a.add 3) (Value.int .i64) fun p=>
  zB1.call p fun q=>
  xE.call b q<|
  Ar (IntKind.wrap .i64 (c + 1)) fun r=>
  f r)
  (Ld (s.add 9) Sl.val fun d=>
  yN (α:=Int) (fun X x=>uI.b2 Q f X b d (d.n:Int) x) 0)
def uI (b:Pt) (v:Av) (Q:K): K :=
 New 40 v fun a=>
 Ld a (Value.int .i64) fun d=>
 Ar (IntKind.wrap .u64 d) fun f=>
 Ld (a.add 1) (Value.int .u64) fun g=>
 Ld (a.add 2) (Value.int .u64) fun i=>
 Ld (a.add 3) (Value.int .i64) fun j=>
 Ar (IntKind.wrap .u64 j) fun k=>
 Ld (a.add 4) (Value.int .i64) fun l=>
 Ar (IntKind.wrap .u64 l) fun m=>
 Ld ((a.add 4).add 4) (Value.int .i64) fun o=>
 Ar (IntKind.wrap .u64 o) fun p=>
 New 33 #[.int .u64 f,.int .u64 g,.int .u64 i,.int .u64 k,.int .u64 m,.int .u64 p] fun q=>
 zAV.call b (Sl.mk (some q) 6 6)<|
 Ld ((a.add 4).add 1) Sl.val fun r=>
 jg.call b r<|
 Ld ((a.add 4).add 2) Sl.val fun s=>
 jg.call b s<|
 Ld ((a.add 4).add 3) Sl.val fun t=>
 Ar (IntKind.wrap .u64 (t.n:Int)) fun u=>
 xE.call b u<|
 Ld ((a.add 4).add 3) Sl.val fun c=>
 yN (α:=Int) (fun X x=>uI.b1 Q X b a c (c.n:Int) x) 0
theorem zL4 (a b Q w) (h:uI a b Q w):uI.call a b Q w:=by
 have:∀ c,XH 6 c→∀ d f g,LH 14 (fun x:Int=>[(0,.pointer d),(82,Sl.val f),(83,.int .i64 g),(84,.int .i64 x)]) (fun X x=>uI.b2 Q c X d f g x):=by intros; exact ⟨⟩
 have:∀ i j k l,LH 6 (fun x:Int=>[(0,.pointer i),(3,(.pointer (some j))),(55,Sl.val k),(56,.int .i64 l),(57,.int .i64 x)]) (fun X x=>uI.b1 Q X i j k l x):=fun _ _ _ _=>⟨⟩
 exact zO 98 h Tryz.func90
def jg.b1 (Q:K) (g:Int→K) (i:Pt) (j:Sl) (k a:Int): K :=
 Ite (decide (a < k))
  (Idx j a 1 fun b=>
  Ld b Value.string fun c=>
  Do Tryz.prog (convert 9 85 (.string c)) Sl.val fun d=>
  jZ.call i d<|
  Ar (IntKind.wrap .i64 (a + 1)) fun f=>
  g f)
  (Q)
def jg (b:Pt) (a:Sl) (Q:K): K :=
 Ar (IntKind.wrap .u64 (a.n:Int)) fun c=>
 xE.call b c<|
 yN (α:=Int) (fun X x=>jg.b1 Q X b a (a.n:Int) x) 0
theorem zL5 (a b Q w) (h:jg a b Q w):jg.call a b Q w:=by
 have:∀ c d f,LH 2 (fun x:Int=>[(0,.pointer c),(11,Sl.val d),(12,.int .i64 f),(13,.int .i64 x)]) (fun X x=>jg.b1 Q X c d f x):=fun _ _ _=>⟨⟩
 exact zO 22 h Tryz.func147
def zB1 (a:Int) (Q:Int→K): K :=
 Ar (IntKind.wrap .u64 a) fun b=>
 Cd (0 ≤ (1:Int))<|
 Ar (zMq .u64 b 1) fun c=>
 Cd (0 ≤ (63:Int))<|
 Ar (zGK .i64 a 63) fun d=>
 Ar (IntKind.wrap .u64 d) fun f=>
 Ar (bitsOf .xor .u64 c f) fun g=>
 Q g
theorem zKQ (a Q w) (h:zB1 a Q w):zB1.call a Q w:=by
 exact zO 10 h Tryz.func149
end
section
open Go Go.Sep
set_option maxHeartbeats 4000000
attribute [local irreducible] zPt
attribute [local irreducible] G Gp Cx Tx Ex Sx Dx Ox Ax Lx Rx Fx Bx Bj Al Do Ld LdN St StN New zK Ar DoU Rd Rd2 Pu Cd Ite Fv vW jU jI yH zAZ zDH zDQ zDl Ext Dead Dr yZ Sv LdS vG RdS zDw Nn Idx zAz zDk Fld Bld Slc zDx Cat All yN jN jE jV
instance:AT Tryz.prog 48 12:=⟨by kernel_rfl⟩
instance:CB Tryz.prog 100:=⟨by kernel_rfl⟩
instance:CB Tryz.prog 101:=⟨by kernel_rfl⟩
instance:CB Tryz.prog 156:=⟨by kernel_rfl⟩
instance:CB Tryz.prog 157:=⟨by kernel_rfl⟩
instance:CB Tryz.prog 158:=⟨by kernel_rfl⟩
instance:CB Tryz.prog 159:=⟨by kernel_rfl⟩
instance:CB Tryz.prog 46:=⟨by kernel_rfl⟩
instance:CB Tryz.prog 47:=⟨by kernel_rfl⟩
instance:CB Tryz.prog 48:=⟨by kernel_rfl⟩
instance:CB Tryz.prog 49:=⟨by kernel_rfl⟩
instance:CB Tryz.prog 52:=⟨by kernel_rfl⟩
instance:CB Tryz.prog 53:=⟨by kernel_rfl⟩
instance:CB Tryz.prog 55:=⟨by kernel_rfl⟩
instance:CB Tryz.prog 56:=⟨by kernel_rfl⟩
instance:CB Tryz.prog 57:=⟨by kernel_rfl⟩
instance:CB Tryz.prog 58:=⟨by kernel_rfl⟩
instance:CB Tryz.prog 59:=⟨by kernel_rfl⟩
instance:CB Tryz.prog 60:=⟨by kernel_rfl⟩
instance:CB Tryz.prog 62:=⟨by kernel_rfl⟩
instance:CB Tryz.prog 63:=⟨by kernel_rfl⟩
instance:CB Tryz.prog 84:=⟨by kernel_rfl⟩
instance:CB Tryz.prog 95:=⟨by kernel_rfl⟩
instance:CB Tryz.prog 98:=⟨by kernel_rfl⟩
instance:CB Tryz.prog 99:=⟨by kernel_rfl⟩
instance:CT Tryz.prog 132:=⟨by kernel_rfl⟩
instance:CT Tryz.prog 133:=⟨by kernel_rfl⟩
instance:CT Tryz.prog 136:=⟨by kernel_rfl⟩
instance:CT Tryz.prog 29:=⟨by kernel_rfl⟩
instance:CT Tryz.prog 42:=⟨by kernel_rfl⟩
instance:FT Tryz.prog 135 0 0 1:=⟨by kernel_rfl⟩
instance:FT Tryz.prog 135 1 1 1:=⟨by kernel_rfl⟩
instance:FT Tryz.prog 135 2 2 1:=⟨by kernel_rfl⟩
instance:FT Tryz.prog 135 3 3 1:=⟨by kernel_rfl⟩
instance:FT Tryz.prog 135 4 4 1:=⟨by kernel_rfl⟩
instance:FT Tryz.prog 151 0 0 10:=⟨by kernel_rfl⟩
instance:FT Tryz.prog 151 1 10 1:=⟨by kernel_rfl⟩
instance:PLT Tryz.prog 135 [(0,1),(1,1),(2,1),(3,1),(4,1)]:=⟨_,Tryz.underlying135,by kernel_rfl⟩
instance:PLT Tryz.prog 151 [(0,10),(10,1)]:=⟨_,Tryz.underlying151,by kernel_rfl⟩
instance:PLT Tryz.prog 53 [(0,4),(4,2)]:=⟨_,Tryz.underlying53,by kernel_rfl⟩
instance:SLT Tryz.prog 132 136 1:=⟨by kernel_rfl⟩
instance:SLT Tryz.prog 45 53 6:=⟨by kernel_rfl⟩
instance:SLT Tryz.prog 54 37 4:=⟨by kernel_rfl⟩
instance:SZ Tryz.prog 132 1:=⟨by kernel_rfl⟩
instance:SZ Tryz.prog 133 1:=⟨by kernel_rfl⟩
instance:SZ Tryz.prog 37 4:=⟨by kernel_rfl⟩
instance:SZ Tryz.prog 42 1:=⟨by kernel_rfl⟩
instance:UN Tryz.prog 146 (.pointer 151):=⟨Tryz.underlying146⟩
instance:ZT Tryz.prog 135 (.agg #[(.pointer none),(.pointer none),(Sl.val ⟨none,0,0⟩),(Sl.val ⟨none,0,0⟩),(Sl.val ⟨none,0,0⟩)]):=⟨Tryz.t135,by kernel_rfl,by kernel_rfl⟩
instance:ZT Tryz.prog 136 (.pointer none):=⟨Tryz.t136,by kernel_rfl,by kernel_rfl⟩
instance:ZT Tryz.prog 146 (.pointer none):=⟨Tryz.t146,by kernel_rfl,by kernel_rfl⟩
instance:ZT Tryz.prog 151 (.agg #[(.int .i64 0),(.int .u64 0),(.int .u64 0),(.int .i64 0),(.int .i64 0),(Sl.val ⟨none,0,0⟩),(Sl.val ⟨none,0,0⟩),(Sl.val ⟨none,0,0⟩),(.int .i64 0),(Sl.val ⟨none,0,0⟩),(Sl.val ⟨none,0,0⟩)]):=⟨Tryz.t151,by kernel_rfl,by kernel_rfl⟩
instance:ZT Tryz.prog 37 (.agg #[(.int .i64 0),(.int .u64 0),(.int .u64 0),(.int .i64 0)]):=⟨Tryz.t37,by kernel_rfl,by kernel_rfl⟩
instance:ZT Tryz.prog 53 (.agg #[(.int .i64 0),(.int .u64 0),(.int .u64 0),(.int .i64 0),(.int .i64 0),(Sl.val ⟨none,0,0⟩)]):=⟨Tryz.t53,by kernel_rfl,by kernel_rfl⟩
def vv.b2 (Q:Pt→Int→K) (k:Int→K) (c:Pt) (l a:Int): K :=
 Ite (decide (a < l))
  (Dr <| yZ fun S=>
  Nn c fun b=>
  LdS S (b.add 2) Sl.val fun d=>
  zAu.call a fun f=>
  Sv S<|
  New 136 #[.pointer f] fun g=>
  Sv S<|
  Do Tryz.prog (Builtin.append_ #[132,132] 132 #[Sl.val d,(Sl.val (Sl.mk (some g) 1 1))]) Sl.val fun i=>
  St (b.add 2) (Sl.val i)<|
  Ar (IntKind.wrap .i64 (a + 1)) fun j=>
  k j)
  (Q c 0)
def vv.s1 (Q:Pt→Int→K) (a:Int) (b:Pt): K :=
 yN (α:=Int) (fun X x=>vv.b2 Q X b a x) 0
def vv (a:Int) (Q:Pt→Int→K): K :=
 zBA.call a fun f g=>
 Ite (decide (g ≠ 0))
  (Q none g)
  (Dr<|
  All [
   (zDU.call  fun b=>
   Do Tryz.prog (Instr.makeSlice 42 (.int .i64 a) (.int .i64 a)) Sl.val fun c=>
   New 135 #[.pointer f,.pointer b,Sl.val ⟨none,0,0⟩,Sl.val c,Sl.val ⟨none,0,0⟩] fun d=>
   vv.s1 Q a (some d)),
   (Do Tryz.prog (Instr.makeSlice 42 (.int .i64 a) (.int .i64 a)) Sl.val fun c=>
   zDU.call  fun b=>
   New 135 #[.pointer f,.pointer b,Sl.val ⟨none,0,0⟩,Sl.val c,Sl.val ⟨none,0,0⟩] fun d=>
   vv.s1 Q a (some d))
   ])
theorem zPB (c Q w) (h:vv c Q w):vv.call c Q w:=by
 have:DH 8 2 [8,11] (.s [0,1,2,3,5,4] (.a [(6,1,.a [(7,1,.a [(8,0,.s [9,10] (.a [(11,0,.e)]))])])])):=⟨⟩
 have:∀ d f,LH 6 (fun x:Int=>[(6,.pointer d),(22,.int .i64 f),(23,.int .i64 x)]) (fun X x=>vv.b2 Q X d f x):=fun _ _=>⟨⟩
 have:JH 5 fun D=>∃ b,D [(0,.int .i64 b)] (fun C=>∀ g,C [(0,.int .i64 b),(6,.pointer g)] (vv.s1 Q b g)):=⟨fun _ ⟨_,h⟩=>⟨_,_,h⟩⟩
 have:DH 4 0 [] (.s [0,2] (.a [(1,0,.a [(3,0,.s [4] (.a [(5,0,.s [6] .e)]))]),(3,0,.a [(1,0,.s [4] (.a [(5,0,.s [6] .e)]))])])):=⟨⟩
 exact zO 39 h Tryz.func11
def jO (l:Pt) (m n:Av) (Q:Av→K): K :=
 New 37 m fun b=>
 New 25 n fun c=>
 New 40 #[.int .i64 0,.int .u64 0,.int .u64 0,.int .i64 0,.int .i64 0,Sl.val ⟨none,0,0⟩,Sl.val ⟨none,0,0⟩,Sl.val ⟨none,0,0⟩,.int .i64 0,Sl.val ⟨none,0,0⟩] fun a=>
 Dr<|
 Nn l fun d=>
 Ld d Value.pointer fun f=>
 LdN b 4 fun g=>
 LdN c 5 fun i=>
 zDV.call f g i fun j=>
 StN a 10 j<|
 LdN a 10 fun k=>
 Q k
theorem zHd (b c d Q w) (h:jO b c d Q w):jO.call b c d Q w:=by
 have:DH 1 1 [6,7] (.s [0,1,2,3,4,5] (.a [(6,0,.a [(7,0,.e)])])):=⟨⟩
 exact zO 14 h Tryz.func12
def zL.s3 (Q:Sl→K) (a k l:Addr) (m:Sl) (n:Pt): K :=
 Nn n fun b=>
 Ld (b.add 10) Sl.val fun c=>
 yK.call c (.func (.func 61) #[] #[(.pointer (some k))]) fun d=>
 St (b.add 10) (Sl.val d)<|
 Dr<|
 Ld (a.add 1) Value.pointer fun f=>
 Ld a Value.pointer fun g=>
 LdN l 4 fun i=>
 yB.call f g i m<|
 xJ.call (some a) fun j=>
 Q j
def zL.s2 (Q:Sl→K) (b a c d:Addr) (l:Sl) (f:Pt): K :=
 Ld c (Value.int .i64) fun g=>
 Ite (decide (g = 2))
  (LdN (c.add 2) 10 fun i=>
  Ld a (Value.int .i64) fun j=>
  uZ.call i j fun k=>
  zL.s3 Q b a d k f)
  (zL.s3 Q b a d l f)
def zL.s4 (Q:Sl→K) (a d b f:Addr) (g:Sl) (i:Pt) (s:Bool): K :=
 Ite s
  (xJ.call (some a) fun j=>
  Q j)
  (Ite ((i).isNone)
   (Dr <| yZ fun S=>
   vG S (b.add 2) 10 fun k=>
   vG S (b.add 2) 10 fun l=>
   zCf.call k fun m=>
   Sv S<|
   qo.call l fun n=>
   Bld #[.int .i64 0,.int .u64 0,.int .u64 0,.int .i64 0,.int .i64 0,Sl.val ⟨none,0,0⟩,Sl.val ⟨none,0,0⟩,Sl.val ⟨none,0,0⟩,.int .i64 0,Sl.val ⟨none,0,0⟩,Sl.val ⟨none,0,0⟩] ([(0,10),(10,1)][·]?) [(0,.agg m),(1,Sl.val n)] fun o=>
   New 151 o fun c=>
   Ld (a.add 4) Sl.val fun p=>
   New 146 #[(.pointer (some c))] fun q=>
   Do Tryz.prog (Builtin.append_ #[133,133] 133 #[Sl.val p,(Sl.val (Sl.mk (some q) 1 1))]) Sl.val fun r=>
   St (a.add 4) (Sl.val r)<|
   zL.s2 Q a d b f g (some c))
   (zL.s2 Q a d b f g i))
def zL.s1 (Q:Sl→K) (y:Pt) (d a:Addr) (z:Bool): K :=
 Ite z
  (Q (Sl.mk none 0 0))
  (Dr<|
  Nn y fun b=>
  Ld (b.add 3) Sl.val fun g=>
  Ld d (Value.int .i64) fun i=>
  Idx g i 1 fun k=>
  Ld k (Value.int .i64) fun l=>
  Ar (IntKind.wrap .i64 (l + 1)) fun m=>
  Idx g i 1 fun n=>
  St n (.int .i64 m)<|
  Dr<|
  Ld (b.add 2) Sl.val fun o=>
  Ld d (Value.int .i64) fun p=>
  Idx o p 1 fun q=>
  Ld q Value.pointer fun r=>
  LdN a 12 fun s=>
  yM.call r s fun t=>
  Ite (!t)
   (Q (Sl.mk none 0 0))
   (Dr <| yZ fun S=>
   vG S (a.add 2) 4 fun u=>
   LdS S ((a.add 2).add 9) Sl.val fun j=>
   New 37 #[.int .i64 0,.int .u64 0,.int .u64 0,.int .i64 0] fun c=>
   Sv S<|
   StN c 4 u<|
   Sv S<|
   LdN c 4 fun v=>
   zAS.call (some b) v fun f=>
   Ite (!(f).isNone)
    (Ld a (Value.int .i64) fun x=>
    zL.s4 Q b d a c j f (decide (x = 1)))
    (zL.s4 Q b d a c j f false)))
def zL (c:Pt) (o:Int) (p:Av) (Q:Sl→K): K :=
 New 3 #[.int .i64 o] fun b=>
 New 48 p fun a=>
 LdN a 12 fun f=>
 yG.call f fun q g=>
 Dr <| yZ fun S=>
 Ite (decide (g ≠ 0))
  (zL.s1 Q c b a true)
  (LdS S b (Value.int .i64) fun i=>
  qg.call c i fun j=>
  Sv S<|
  Ite (!j)
   (zL.s1 Q c b a true)
   (Nn c fun d=>
   vG S (a.add 2) 10 fun k=>
   LdS S (d.add 3) Sl.val fun l=>
   z8.call k (l.n:Int) fun m=>
   zL.s1 Q (some d) b a (decide (m ≠ 0))))
theorem zHe (y z aa Q w) (h:zL y z aa Q w):zL.call y z aa Q w:=by
 have:DH 17 1 [10] (.s [0,1,2,4,5,6,9,3,7,8] (.a [(10,0,.e)])):=⟨⟩
 have:JH 16 fun D=>∃ b c d f,D [(0,(.pointer (some b))),(4,(.pointer (some c))),(9,(.pointer (some d))),(11,.pointer f)] (fun C=>∀ ab,C [(0,(.pointer (some b))),(4,(.pointer (some c))),(9,(.pointer (some d))),(10,Sl.val ab),(11,.pointer f)] (zL.s3 Q b c d ab f)):=⟨fun _ ⟨_,_,_,_,h⟩=>⟨_,_,h⟩⟩
 have:JH 14 fun D=>∃ g j k l m,D [(0,(.pointer (some g))),(4,(.pointer (some j))),(5,(.pointer (some k))),(9,(.pointer (some l))),(10,Sl.val m)] (fun C=>∀ ac,C [(0,(.pointer (some g))),(4,(.pointer (some j))),(5,(.pointer (some k))),(9,(.pointer (some l))),(10,Sl.val m),(11,.pointer ac)] (zL.s2 Q g j k l m ac)):=⟨fun _ ⟨_,_,_,_,_,h⟩=>⟨_,_,h⟩⟩
 have:DH 12 2 [5,7] (.s [0,3,1,4] (.a [(2,1,.a [(5,0,.s [6] (.a [(7,0,.s [8] .e)]))])])):=⟨⟩
 have:JH 10 fun D=>∃ n o p q r t,D [(0,(.pointer (some n))),(4,(.pointer (some o))),(5,(.pointer (some p))),(9,(.pointer (some q))),(10,Sl.val r),(11,.pointer t)] (fun C=>∀ ad,C [(0,(.pointer (some n))),(4,(.pointer (some o))),(5,(.pointer (some p))),(9,(.pointer (some q))),(10,Sl.val r),(11,.pointer t),(64,.bool ad)] (zL.s4 Q n o p q r t ad)):=⟨fun _ ⟨_,_,_,_,_,_,h⟩=>⟨_,_,h⟩⟩
 have:DH 7 2 [] (.s [0,1,3,4,2,5] (.a [(6,1,.a [(7,1,.s [8] .e)])])):=⟨⟩
 have:DH 5 1 [8] (.s [0,1,2,3,4,5,6,7] (.a [(8,0,.s [9] .e)])):=⟨⟩
 have:DH 4 1 [9] (.s [0,1,2,3,4,5,6,7,8] (.a [(9,0,.e)])):=⟨⟩
 have:JH 3 fun D=>∃ u v x,D [(0,.pointer u),(4,(.pointer (some v))),(5,(.pointer (some x)))] (fun C=>∀ ae,C [(0,.pointer u),(4,(.pointer (some v))),(5,(.pointer (some x))),(35,.bool ae)] (zL.s1 Q u v x ae)):=⟨fun _ ⟨_,_,_,h⟩=>⟨_,_,h⟩⟩
 have:DH 2 2 [16] (.s [0,1,2] (.i (.s [3,4,5,6,7,8,9,10,11,12,13,14,15,16,17,18] .e) (.s [3,4] (.a [(5,1,.s [6,7,8] (.i (.s [9,10,11,12,13,14,15,16,17,18] .e) (.s [9,11,12,13,10,14,15] (.a [(16,0,.s [17,18] .e)]))))])))):=⟨⟩
 exact zO 124 h Tryz.func15
def qO.b1 (Q:Sl→K) (n:Sl→Int→K) (o:Sl) (p:Int) (b:Sl) (a:Int): K :=
 Ite (decide (a < p))
  (Idx o a 1 fun c=>
  Ld c Value.pointer fun d=>
  Nn d fun f=>
  LdN f 4 fun g=>
  Bld #[.int .i64 0,.int .u64 0,.int .u64 0,.int .i64 0] (fun i=>some (i * 4,4)) [(0,.agg g)] fun j=>
  New 37 j fun k=>
  Do Tryz.prog (Builtin.append_ #[54,54] 54 #[Sl.val b,(Sl.val (Sl.mk (some k) 1 1))]) Sl.val fun l=>
  Ar (IntKind.wrap .i64 (a + 1)) fun m=>
  n l m)
  (Q b)
def qO (f:Pt) (Q:Sl→K): K :=
 Nn f fun b=>
 Ld (b.add 4) Sl.val fun a=>
 yN (α:=Sl×Int) (fun X x=>qO.b1 Q (fun c d=>X (c,d)) a (a.n:Int) x.1 x.2) ((Sl.mk none 0 0),0)
theorem zFj (a Q w) (h:qO a Q w):qO.call a Q w:=by
 have:∀ b c,LH 2 (fun x:Sl×Int=>[(2,Sl.val x.1),(8,Sl.val b),(9,.int .i64 c),(10,.int .i64 x.2)]) (fun X x=>qO.b1 Q (fun d f=>X (d,f)) b c x.1 x.2):=fun _ _=>⟨⟩
 exact zO 24 h Tryz.func16
def jP (d:Pt) (Q:Sl→K): K :=
 Nn d fun a=>
 Ld a Value.pointer fun b=>
 zAT.call b fun c=>
 Q c
theorem zHf (a Q w) (h:jP a Q w):jP.call a Q w:=by
 exact zO 8 h Tryz.func17
def j6 (a:Pt) (b:Int) (Q:Int→K): K :=
 qg.call a b fun c=>
 Ite (!c)
  (Q 0)
  (Nn a fun d=>
  Ld (d.add 3) Sl.val fun f=>
  Idx f b 1 fun g=>
  Ld g (Value.int .i64) fun i=>
  Q i)
theorem zIG (a b Q w) (h:j6 a b Q w):j6.call a b Q w:=by
 exact zO 16 h Tryz.func28
def jQ (a:Pt) (b:Int) (Q:Int→K): K :=
 qg.call a b fun c=>
 Ite (!c)
  (Q (-1))
  (Nn a fun d=>
  Ld (d.add 2) Sl.val fun f=>
  Idx f b 1 fun g=>
  Ld g Value.pointer fun i=>
  jR.call i fun j=>
  Q j)
theorem zHg (a b Q w) (h:jQ a b Q w):jQ.call a b Q w:=by
 exact zO 17 h Tryz.func42
def qg.s1 (Q:Bool→K) (a:Bool): K :=
 Q a
def qg (d:Pt) (a:Int) (Q:Bool→K): K :=
 Ite (decide ((0:Int) ≤ a))
  (Nn d fun b=>
  Ld (b.add 3) Sl.val fun c=>
  qg.s1 Q (decide (a < (c.n:Int))))
  (qg.s1 Q false)
theorem zGo (a b Q w) (h:qg a b Q w):qg.call a b Q w:=by
 have:JH 1000001 fun D=>D [] (fun C=>∀ c,C [(4,.bool c)] (qg.s1 Q c)):=⟨fun _ h=>⟨_,_,h⟩⟩
 exact zO 16 h Tryz.func53
def zAS (j:Pt) (k:Av) (Q:Pt→K): K :=
 New 37 k fun c=>
 Nn j fun a=>
 Ld (a.add 4) Sl.val fun d=>
 yL.call d (.func (.func 96) #[] #[(.pointer (some c))]) fun b=>
 Ite (decide (b < 0))
  (Q none)
  (Ld (a.add 4) Sl.val fun f=>
  Idx f b 1 fun g=>
  Ld g Value.pointer fun i=>
  Q i)
theorem zHh (a b Q w) (h:zAS a b Q w):zAS.call a b Q w:=by
 exact zO 21 h Tryz.func56
def xJ.b1 (Q ah:Sl→K) (a:Addr) (d:Sl): K :=
 Ld a Value.pointer fun f=>
 Nn f fun g=>
 Ld (g.add 4) Sl.val fun j=>
 yL.call j (.func (.func 97) #[] #[(.pointer (some a))]) fun b=>
 Ite (decide (b < 0))
  (Q d)
  (Ld a Value.pointer fun k=>
  Nn k fun l=>
  Ld (l.add 4) Sl.val fun m=>
  Idx m b 1 fun n=>
  Ld n Value.pointer fun o=>
  Nn o fun p=>
  LdN p 10 fun q=>
  New 40 #[.int .i64 0,.int .u64 0,.int .u64 0,.int .i64 0,.int .i64 0,Sl.val ⟨none,0,0⟩,Sl.val ⟨none,0,0⟩,Sl.val ⟨none,0,0⟩,.int .i64 0,Sl.val ⟨none,0,0⟩] fun c=>
  StN c 10 q<|
  Dr <| yZ fun S=>
  Ar (IntKind.wrap .i64 (b + 1)) fun r=>
  LdS S a Value.pointer fun s=>
  LdS S a Value.pointer fun t=>
  Nn t fun u=>
  LdS S (u.add 4) Sl.val fun v=>
  qz.call v b r fun x=>
  Sv S<|
  Nn s fun y=>
  St (y.add 4) (Sl.val x)<|
  Dr <| yZ fun S=>
  vG S c 4 fun z=>
  LdS S a Value.pointer fun aa=>
  vG S c 10 fun ab=>
  zx.call aa ab fun ac=>
  Sv S<|
  Bld #[.int .i64 0,.int .u64 0,.int .u64 0,.int .i64 0,.int .i64 0,Sl.val ⟨none,0,0⟩] ([(0,4),(4,2)][·]?) [(0,.agg z),(1,.agg ac)] fun ad=>
  Bld #[.int .i64 0,.int .u64 0,.int .u64 0,.int .i64 0,.int .i64 0,Sl.val ⟨none,0,0⟩] (fun i=>some (i * 6,6)) [(0,.agg ad)] fun ae=>
  New 53 ae fun af=>
  Do Tryz.prog (Builtin.append_ #[45,45] 45 #[Sl.val d,(Sl.val (Sl.mk (some af) 1 1))]) Sl.val fun ag=>
  ah ag)
def xJ (b:Pt) (Q:Sl→K): K :=
 New 29 #[.pointer b] fun a=>
 yN (α:=Sl) (fun X x=>xJ.b1 Q X a x) (Sl.mk none 0 0)
theorem zHi (b Q w) (h:xJ b Q w):xJ.call b Q w:=by
 have:DH 6 2 [7,8] (.s [0,1,2,3,4] (.a [(5,1,.s [6] (.a [(7,0,.a [(8,0,.s [9] .e)])]))])):=⟨⟩
 have:DH 5 2 [11] (.s [5,6,7,0,1,2,3,4] (.a [(8,1,.s [9,10] (.a [(11,0,.e)]))])):=⟨⟩
 have:∀ c,LH 1 (fun x:Sl=>[(1,(.pointer (some c))),(2,Sl.val x)]) (fun X x=>xJ.b1 Q X c x):=fun _=>⟨⟩
 exact zO 44 h Tryz.func57
def zBI (b:Int) (c:Addr) (Q:Bool→K): K :=
 Ld c (Value.int .i64) fun a=>
 Q (decide (b = a))
theorem zF8 (a b Q w) (h:zBI a b Q w):zBI.call a b Q w:=by
 exact zO 7 h Tryz.func61
def zBJ (f:Pt) (g:Addr) (Q:Bool→K): K :=
 Dr<|
 Nn f fun c=>
 LdN c 4 fun a=>
 LdN g 4 fun b=>
 Pu Tryz.prog (do eqGuard .eql 37 (.tmp 8) (.tmp 9) (.agg a) (.agg b); binOp .eql 37 (.agg a) (.agg b):Sem Value) Value.bool fun d=>
 Q d
theorem zF9 (a b Q w) (h:zBJ a b Q w):zBJ.call a b Q w:=by
 exact zO 11 h Tryz.func96
def xD.s1 (Q:Bool→K) (a:Bool): K :=
 Q a
def xD (s:Pt) (c:Addr) (Q:Bool→K): K :=
 Nn s fun b=>
 LdN b 4 fun d=>
 New 37 #[.int .i64 0,.int .u64 0,.int .u64 0,.int .i64 0] fun a=>
 StN a 4 d<|
 Dr <| yZ fun S=>
 LdS S (b.add 10) Sl.val fun f=>
 Ite (decide ((f.n:Int) = 0))
  (LdS S c Value.pointer fun g=>
  Nn g fun i=>
  LdS S (i.add 1) Value.pointer fun j=>
  vG S a 4 fun k=>
  uf.call j k fun l=>
  Sv S<|
  Ite l
   (xD.s1 Q true)
   (LdS S c Value.pointer fun m=>
   Nn m fun o=>
   LdS S (o.add 1) Value.pointer fun p=>
   vG S a 4 fun q=>
   y8.call p q fun r=>
   xD.s1 Q r))
  (xD.s1 Q false)
theorem zGA (b c Q w) (h:xD b c Q w):xD.call b c Q w:=by
 have:JH 1000002 fun D=>D [] (fun C=>∀ d,C [(3,.bool d)] (xD.s1 Q d)):=⟨fun _ h=>⟨_,_,h⟩⟩
 have:DH 2 2 [19] (.s [0,1,2,3,4,5,6] (.i (.s [7,8,9,10,11] (.a [(12,1,.s [13] (.i (.s [14,15,16,17,18,19,20,21,22] .e) (.s [14,15,16,17,18] (.a [(19,0,.s [20,21,22] .e)]))))])) (.s [7,8,9,10,11,12,13,14,15,16,17,18,19,20,21,22] .e))):=⟨⟩
 exact zO 32 h Tryz.func97
def zx.s2 (Q:Av→K) (a d:Addr) (f:Pt) (g:Av): K :=
 LdN d 2 fun b=>
 StN a 2 b<|
 yV.zSx f g<|
 LdN a 2 fun c=>
 Q c
def zx.s3 (Q:Av→K) (a b c d:Addr) (f:Pt) (g:Av) (p:Bool): K :=
 Ite p
  (Dr<|
  Ld (a.add 1) Value.pointer fun i=>
  LdN b 4 fun j=>
  yV.call i j<|
  Dr<|
  Ld (a.add 1) Value.pointer fun k=>
  Ld a Value.pointer fun l=>
  Ld ((b.add 4).add 2) Sl.val fun m=>
  Idx m 0 1 fun n=>
  Ld n Value.string fun o=>
  qK.call k l o<|
  zx.s2 Q c d f g)
  (zx.s2 Q c d f g)
def zx.s1 (Q:Av→K) (a b d c:Addr) (l:Sl) (f:Pt) (g:Av): K :=
 Ld a Value.pointer fun i=>
 xI.call i l<|
 Ld (b.add 4) (Value.int .i64) fun j=>
 Ite (decide (j = 2))
  (Ld c (Value.int .i64) fun k=>
  zx.s3 Q a b d c f g (decide (k = 0)))
  (zx.s3 Q a b d c f g false)
def zx (q:Pt) (r:Av) (Q:Av→K): K :=
 New 40 r fun a=>
 New 51 #[.int .i64 0,Sl.val ⟨none,0,0⟩] fun d=>
 Dr<|
 Nn q fun b=>
 Ld (b.add 1) Value.pointer fun f=>
 LdN a 4 fun g=>
 Dr<|
 Ld (b.add 1) Value.pointer fun m=>
 LdN a 4 fun n=>
 uf.call m n fun o=>
 Ite o
  (StN d 2 #[.int .i64 112,Sl.val ⟨none,0,0⟩]<|
  yV.zSx f g<|
  LdN d 2 fun p=>
  Q p)
  (Dr <| yZ fun S=>
  LdS S b Value.pointer fun k=>
  vG S (a.add 4) 5 fun l=>
  All [
   (vJ.call k l fun i j=>
   New 51 #[.int .i64 0,Sl.val ⟨none,0,0⟩] fun c=>
   StN c 2 i<|
   zx.s1 Q b a d c j f g),
   (New 51 #[.int .i64 0,Sl.val ⟨none,0,0⟩] fun c=>
   Sv S<|
   vJ.call k l fun i j=>
   StN c 2 i<|
   zx.s1 Q b a d c j f g)
   ])
theorem zGB (t u Q w) (h:zx t u Q w):zx.call t u Q w:=by
 have:JH 9 fun D=>∃ b c d f,D [(4,(.pointer (some b))),(5,(.pointer (some c))),(10,.pointer d),(12,.agg f)] (fun C=>C [(4,(.pointer (some b))),(5,(.pointer (some c))),(10,.pointer d),(12,.agg f)] (zx.s2 Q b c d f)):=⟨fun _ ⟨_,_,_,_,h⟩=>⟨_,_,h⟩⟩
 have:DH 8 1 [13] (.s [0,1,2,4,5,6,8,9,3,7,10,11,12] (.a [(13,0,.e)])):=⟨⟩
 have:DH 7 1 [6] (.s [0,1,2,4,3,5] (.a [(6,0,.e)])):=⟨⟩
 have:JH 7 fun D=>∃ g i j k l m,D [(0,(.pointer (some g))),(3,(.pointer (some i))),(4,(.pointer (some j))),(5,(.pointer (some k))),(10,.pointer l),(12,.agg m)] (fun C=>∀ v,C [(0,(.pointer (some g))),(3,(.pointer (some i))),(4,(.pointer (some j))),(5,(.pointer (some k))),(10,.pointer l),(12,.agg m),(45,.bool v)] (zx.s3 Q g i j k l m v)):=⟨fun _ ⟨_,_,_,_,_,_,h⟩=>⟨_,_,h⟩⟩
 have:JH 5 fun D=>∃ n o p q r,D [(0,(.pointer (some n))),(3,(.pointer (some o))),(4,(.pointer (some p))),(10,.pointer q),(12,.agg r)] (fun C=>∀ x y,C [(0,(.pointer (some n))),(3,(.pointer (some o))),(4,(.pointer (some p))),(5,(.pointer (some x))),(6,Sl.val y),(10,.pointer q),(12,.agg r)] (zx.s1 Q n o p x y q r)):=⟨fun _ ⟨_,_,_,_,_,h⟩=>⟨_,_,h⟩⟩
 have:DH 4 2 [6,11] (.s [0,1,2,4,3,5] (.a [(6,0,.s [7,8,9] (.a [(10,0,.a [(11,0,.s [12] .e)])])),(10,1,.a [(6,0,.s [7,8,9] (.a [(11,0,.s [12] .e)]))])])):=⟨⟩
 have:DH 2 1 [6] (.s [0,1,2,4,3,5] (.a [(6,0,.e)])):=⟨⟩
 have:DH 1 1 [6] (.s [0,1,2,4,3,5] (.a [(6,0,.e)])):=⟨⟩
 exact zXN 68 h Tryz.func101
end
section
open Go Go.Sep
set_option maxHeartbeats 4000000
attribute [local irreducible] G Gp Cx Tx Ex Sx Dx Ox Ax Lx Rx Fx Bx Bj Al Do Ld LdN St StN New zK Ar DoU Rd Rd2 Pu Cd Ite Fv vW jU jI yH zAZ zDH zDQ zDl Ext Dead Dr yZ Sv LdS vG RdS zDw Nn Idx zAz zDk Fld Bld Slc zDx Cat All yN jN jE jV
instance:CB Tryz.prog 10:=⟨by kernel_rfl⟩
instance:CB Tryz.prog 211:=⟨by kernel_rfl⟩
instance:CB Tryz.prog 23:=⟨by kernel_rfl⟩
instance:CB Tryz.prog 67:=⟨by kernel_rfl⟩
end
section
open Go Go.Sep
set_option maxHeartbeats 4000000
attribute [local irreducible] Do2
attribute [local irreducible] G Gp Cx Tx Ex Sx Dx Ox Ax Lx Rx Fx Bx Bj Al Do Ld LdN St StN New zK Ar DoU Rd Rd2 Pu Cd Ite Fv vW jU jI yH zAZ zDH zDQ zDl Ext Dead Dr yZ Sv LdS vG RdS zDw Nn Idx zAz zDk Fld Bld Slc zDx Cat All yN jN jE jV
instance:CB Tryz.prog 14:=⟨by kernel_rfl⟩
instance:CB Tryz.prog 93:=⟨by kernel_rfl⟩
instance:CB Tryz.prog 94:=⟨by kernel_rfl⟩
instance:FT Tryz.prog 200 0 0 1:=⟨by kernel_rfl⟩
instance:FT Tryz.prog 200 1 1 1:=⟨by kernel_rfl⟩
instance:FT Tryz.prog 200 2 2 1:=⟨by kernel_rfl⟩
instance:PLT Tryz.prog 200 [(0,1),(1,1),(2,1)]:=⟨_,Tryz.underlying200,by kernel_rfl⟩
instance:ZT Tryz.prog 200 (.agg #[(.int .i64 0),(.int .i64 0),(.map none)]):=⟨Tryz.t200,by kernel_rfl,by kernel_rfl⟩
def zAu (c:Int) (Q:Pt→K): K :=
 Do Tryz.prog (Instr.makeMap 196 none) Value.map fun a=>
 New 200 #[.int .i64 c,(.int .i64 (-1)),.map a] fun b=>
 Q (some b)
theorem zJj (a Q w) (h:zAu a Q w):zAu.call a Q w:=by
 exact zO 7 h Tryz.func48
def yM.s2 (Q:Bool→K) (b c:Addr) (d:Bool): K :=
 Ite d
  (Ld (c.add 1) (Value.int .i64) fun a=>
  St (b.add 1) (.int .i64 a)<|
  Q true)
  (Q false)
def yM.s1 (Q:Bool→K) (b a:Addr) (j k:Bool): K :=
 Ite k
  (LdN (a.add 2) 4 fun c=>
  uE.call (some b) c fun d=>
  Q d)
  (Dr<|
  Ld a (Value.int .i64) fun f=>
  Ite (decide (f = 2))
   (Ite (!j)
    (Ld (a.add 1) (Value.int .i64) fun g=>
    Ld (b.add 1) (Value.int .i64) fun i=>
    yM.s2 Q b a (decide (i < g)))
    (yM.s2 Q b a false))
   (yM.s2 Q b a false))
def yM (l:Pt) (m:Av) (Q:Bool→K): K :=
 New 48 m fun a=>
 Dr <| yZ fun S=>
 Nn l fun b=>
 vG S (a.add 2) 10 fun d=>
 LdS S b (Value.int .i64) fun f=>
 qo.call d fun g=>
 Sv S<|
 xH.call g f fun i=>
 Ite (!i)
  (Q false)
  (LdN (a.add 2) 10 fun j=>
  vw.call j fun c=>
  Ld a (Value.int .i64) fun k=>
  Ite (decide (k = 1))
   (yM.s1 Q b a c c)
   (yM.s1 Q b a c false))
theorem zGC (g i Q w) (h:yM g i Q w):yM.call g i Q w:=by
 have:JH 7 fun D=>∃ b c,D [(0,(.pointer (some b))),(3,(.pointer (some c)))] (fun C=>∀ j,C [(0,(.pointer (some b))),(3,(.pointer (some c))),(30,.bool j)] (yM.s2 Q b c j)):=⟨fun _ ⟨_,_,h⟩=>⟨_,_,h⟩⟩
 have:JH 5 fun D=>∃ d f,D [(0,(.pointer (some d))),(3,(.pointer (some f)))] (fun C=>∀ k l,C [(0,(.pointer (some d))),(3,(.pointer (some f))),(5,.bool k),(18,.bool l)] (yM.s1 Q d f k l)):=⟨fun _ ⟨_,_,h⟩=>⟨_,_,h⟩⟩
 have:DH 1 2 [7] (.s [0,3,4,5,1,6] (.a [(2,1,.a [(7,0,.s [8] .e)])])):=⟨⟩
 exact zO 52 h Tryz.func55
def jR (c:Pt) (Q:Int→K): K :=
 Nn c fun a=>
 Ld (a.add 1) (Value.int .i64) fun b=>
 Q b
theorem zGD (a Q w) (h:jR a Q w):jR.call a Q w:=by
 exact zO 7 h Tryz.func84
def uE (m:Pt) (n:Av) (Q:Bool→K): K :=
 New 37 n fun b=>
 Dr <| yZ fun S=>
 Nn m fun c=>
 LdS S (c.add 2) Value.map fun a=>
 vG S b 4 fun d=>
 RdS Tryz.prog S (Instr.lookup 196 (.map a) (.agg d) false) (Value.int .i64) fun f=>
 Ar (IntKind.wrap .i64 (f + 1)) fun g=>
 Do2 Tryz.prog (Instr.mapEntry 196 (.map a) (.agg d)) (fun x y=>.tuple #[(Value.int .i64) x,.int .i64 y]) fun o i=>
 Sv S<|
 DoU Tryz.prog (Instr.entryStore 196 (.map a) (.int .i64 i) (.int .i64 g))<|
 Dr<|
 Ld (c.add 2) Value.map fun j=>
 LdN b 4 fun k=>
 Rd Tryz.prog (Instr.lookup 196 (.map j) (.agg k) false) (Value.int .i64) fun l=>
 Q (decide (l = 1))
theorem zFk (b c Q w) (h:uE b c Q w):uE.call b c Q w:=by
 have:DH 1 2 [9] (.s [0,1,2,3,4,5,6] (.a [(7,1,.s [8] (.a [(9,0,.e)]))])):=⟨⟩
 exact zXP 21 h Tryz.func94
def zCK  (Q:Pt→K): K :=
 zAu.call (-1) fun a=>
 Q a
theorem zJk (Q w) (h:zCK  Q w):zCK.call  Q w:=by
 exact zO 2 h Tryz.func205
def qp.s1 (Q:Bool→K) (a:Bool): K :=
 Q a
def qp (g:Pt) (i:Av) (Q:Bool→K): K :=
 New 40 i fun a=>
 LdN a 10 fun b=>
 vw.call b fun c=>
 Ite (!c)
  (LdN a 4 fun d=>
  uE.call g d fun f=>
  qp.s1 Q f)
  (qp.s1 Q false)
theorem zFl (a b Q w) (h:qp a b Q w):qp.call a b Q w:=by
 have:JH 1000001 fun D=>D [] (fun C=>∀ c,C [(4,.bool c)] (qp.s1 Q c)):=⟨fun _ h=>⟨_,_,h⟩⟩
 exact zO 14 h Tryz.func206
end
section
open Go Go.Sep
set_option maxHeartbeats 4000000
attribute [local irreducible] G Gp Cx Tx Ex Sx Dx Ox Ax Lx Rx Fx Bx Bj Al Do Ld LdN St StN New zK Ar DoU Rd Rd2 Pu Cd Ite Fv vW jU jI yH zAZ zDH zDQ zDl Ext Dead Dr yZ Sv LdS vG RdS zDw Nn Idx zAz zDk Fld Bld Slc zDx Cat All yN jN jE jV
instance:CB Tryz.prog 173:=⟨by kernel_rfl⟩
instance:CB Tryz.prog 205:=⟨by kernel_rfl⟩
instance:CB Tryz.prog 206:=⟨by kernel_rfl⟩
instance:CT Tryz.prog 63:=⟨by kernel_rfl⟩
instance:PLT Tryz.prog 48 [(0,1),(1,1),(2,10)]:=⟨_,Tryz.underlying48,by kernel_rfl⟩
instance:SLT Tryz.prog 63 40 10:=⟨by kernel_rfl⟩
instance:SZ Tryz.prog 48 12:=⟨by kernel_rfl⟩
instance:ZT Tryz.prog 4 (.bool false):=⟨Tryz.t4,by kernel_rfl,by kernel_rfl⟩
instance:ZT Tryz.prog 48 (.agg #[(.int .i64 0),(.int .i64 0),(.int .i64 0),(.int .u64 0),(.int .u64 0),(.int .i64 0),(.int .i64 0),(Sl.val ⟨none,0,0⟩),(Sl.val ⟨none,0,0⟩),(Sl.val ⟨none,0,0⟩),(.int .i64 0),(Sl.val ⟨none,0,0⟩)]):=⟨Tryz.t48,by kernel_rfl,by kernel_rfl⟩
def uZ.s2 (Q:Sl→K) (b:Sl→Int→K) (f:Int) (c g:Sl) (i d:Int): K :=
 Ar (IntKind.wrap .i64 (d + 1)) fun a=>
 b c a
def uZ.b1 (Q:Sl→K) (j:Sl→Int→K) (c:Int) (d:Sl) (f:Int) (g:Sl) (a:Int): K :=
 Ite (decide (a < f))
  (Idx d a 3 fun k=>
  LdN k 3 fun l=>
  New 84 #[(.string ⟨#[]⟩),.int .i64 0,.int .u64 0] fun b=>
  StN b 3 l<|
  Ld (b.add 1) (Value.int .i64) fun m=>
  Ite (decide (m = c))
   (LdN b 3 fun n=>
   Bld #[(.string ⟨#[]⟩),.int .i64 0,.int .u64 0] (fun i=>some (i * 3,3)) [(0,.agg n)] fun o=>
   New 84 o fun p=>
   Do Tryz.prog (Builtin.append_ #[38,38] 38 #[Sl.val g,(Sl.val (Sl.mk (some p) 1 1))]) Sl.val fun q=>
   uZ.s2 Q j c q d f a)
   (uZ.s2 Q j c g d f a))
  (Q g)
def uZ (f:Av) (g:Int) (Q:Sl→K): K :=
 New 40 f fun b=>
 Ld (b.add 9) Sl.val fun a=>
 yN (α:=Sl×Int) (fun X x=>uZ.b1 Q (fun c d=>X (c,d)) g a (a.n:Int) x.1 x.2) ((Sl.mk none 0 0),0)
theorem zMf (i j Q w) (h:uZ i j Q w):uZ.call i j Q w:=by
 have:∀ k,XH 2 k→JH 6 fun D=>∃ c d f g,D [(1,.int .i64 c),(8,Sl.val d),(9,.int .i64 f),(10,.int .i64 g)] (fun C=>∀ l,C [(1,.int .i64 c),(4,Sl.val l),(8,Sl.val d),(9,.int .i64 f),(10,.int .i64 g)] (uZ.s2 Q (fun a b=>k (a,b)) c l d f g)):=by intros; exact ⟨fun _ ⟨_,_,_,_,h⟩=>⟨_,_,h⟩⟩
 have:∀ m n o,LH 2 (fun x:Sl×Int=>[(1,.int .i64 m),(4,Sl.val x.1),(8,Sl.val n),(9,.int .i64 o),(10,.int .i64 x.2)]) (fun X x=>uZ.b1 Q (fun a b=>X (a,b)) m n o x.1 x.2):=fun _ _ _=>⟨⟩
 exact zO 24 h Tryz.func59
def zCg (o:Sl) (p q:Int) (Q:Av→Bool→K): K :=
 New 3 #[.int .i64 q] fun j=>
 New 48 #[.int .i64 0,.int .i64 0,.int .i64 0,.int .u64 0,.int .u64 0,.int .i64 0,.int .i64 0,Sl.val ⟨none,0,0⟩,Sl.val ⟨none,0,0⟩,Sl.val ⟨none,0,0⟩,.int .i64 0,Sl.val ⟨none,0,0⟩] fun a=>
 New 4 #[.bool false] fun b=>
 zC0.call o p fun k=>
 jE Tryz.prog k .ret (fun (i:Av)=>[.agg i]) (fun BG1 KN1 KJ1 (i:Av)=>
  New 48 #[.int .i64 0,.int .i64 0,.int .i64 0,.int .u64 0,.int .u64 0,.int .i64 0,.int .i64 0,Sl.val ⟨none,0,0⟩,Sl.val ⟨none,0,0⟩,Sl.val ⟨none,0,0⟩,.int .i64 0,Sl.val ⟨none,0,0⟩] fun c=>
  StN c 12 i<|
  BG1<|
  Ld (c.add 1) (Value.int .i64) fun l=>
  Ld j (Value.int .i64) fun m=>
  Ite (decide (m < l))
   (LdN c 12 fun n=>
   StN a 12 n<|
   St b (.bool true)<|
   KJ1)
   (KN1))
  (fun d=>
   StN a 12 #[.int .i64 0,.int .i64 0,.int .i64 0,.int .u64 0,.int .u64 0,.int .i64 0,.int .i64 0,Sl.val ⟨none,0,0⟩,Sl.val ⟨none,0,0⟩,Sl.val ⟨none,0,0⟩,.int .i64 0,Sl.val ⟨none,0,0⟩]<|
   St b (.bool false)<|
   jV d<|
   LdN a 12 fun f=>
   Ld b Value.bool fun g=>
   Q f g)
  (fun d=>
   jV d<|
   LdN a 12 fun f=>
   Ld b Value.bool fun g=>
   Q f g)
theorem zMg (a b c Q w) (h:zCg a b c Q w):zCg.call a b c Q w:=by
 exact zO 19 h Tryz.func121
def zC0 (c:Sl) (d:Int) (Q:Value→K): K :=
 New 63 #[Sl.val c] fun a=>
 New 3 #[.int .i64 d] fun b=>
 Q (.func (.func 204) #[] #[(.pointer (some a)),(.pointer (some b))])
theorem zKR (a b Q w) (h:zC0 a b Q w):zC0.call a b Q w:=by
 exact zO 6 h Tryz.func173
def yU.s2 (Q:K) (b:Int→K) (d:Value) (f:Addr) (g:Pt) (i:Sl) (j c:Int): K :=
 Ar (IntKind.wrap .i64 (c + 1)) fun a=>
 b a
def yU.s3 (Q:K) (c:Int→K) (b:Value) (d:Addr) (f:Pt) (n:Int) (o:Addr) (g:Sl) (i j:Int) (p:Bool): K :=
 Ite p
  (yU.s2 Q c b d f g i j)
  (LdN o 10 fun k=>
  zCf.call k fun l=>
  Bld #[.int .i64 0,.int .i64 0,.int .i64 0,.int .u64 0,.int .u64 0,.int .i64 0,.int .i64 0,Sl.val ⟨none,0,0⟩,Sl.val ⟨none,0,0⟩,Sl.val ⟨none,0,0⟩,.int .i64 0,Sl.val ⟨none,0,0⟩] ([(0,1),(1,1),(2,10)][·]?) [(0,.int .i64 2),(1,.int .i64 n),(2,.agg l)] fun m=>
  jU Tryz.prog b [.agg m] <| yH (fun (a:Bool)=>Value.bool a) fun a=>
  Ite (!a)
   (Q)
   (yU.s2 Q c b d f g i j))
def yU.b1 (Q:K) (i:Int→K) (j:Value) (c:Addr) (d:Pt) (f:Sl) (g a:Int): K :=
 Ite (decide (a < g))
  (Idx f a 10 fun k=>
  LdN k 10 fun l=>
  New 40 #[.int .i64 0,.int .u64 0,.int .u64 0,.int .i64 0,.int .i64 0,Sl.val ⟨none,0,0⟩,Sl.val ⟨none,0,0⟩,Sl.val ⟨none,0,0⟩,.int .i64 0,Sl.val ⟨none,0,0⟩] fun b=>
  StN b 10 l<|
  Dr <| yZ fun S=>
  vG S b 10 fun m=>
  qp.call d m fun n=>
  Sv S<|
  Ite (!n)
   (yU.s3 Q i j c d a b f g a true)
   (vG S b 10 fun o=>
   LdS S c (Value.int .i64) fun p=>
   qo.call o fun q=>
   Sv S<|
   xH.call q p fun r=>
   yU.s3 Q i j c d a b f g a (!r)))
  (Q)
def yU (c:Value) (d f:Addr) (Q:K): K :=
 zCK.call  fun b=>
 Ld d Sl.val fun a=>
 yN (α:=Int) (fun X x=>yU.b1 Q X c f b a (a.n:Int) x) 0
theorem zI7 (u v y Q w) (h:yU u v y Q w):yU.call u v y Q w:=by
 have:∀ b,XH 2 b→JH 6 fun D=>∃ c d f g j k,D [(0,c),(2,(.pointer (some d))),(4,.pointer f),(8,Sl.val g),(9,.int .i64 j),(10,.int .i64 k)] (fun C=>C [(0,c),(2,(.pointer (some d))),(4,.pointer f),(8,Sl.val g),(9,.int .i64 j),(10,.int .i64 k)] (yU.s2 Q b c d f g j k)):=by intros; exact ⟨fun _ ⟨_,_,_,_,_,_,h⟩=>⟨_,_,h⟩⟩
 have:∀ b,XH 2 b→JH 1000004 fun D=>∃ l m n o p q r t,D [(0,l),(2,(.pointer (some m))),(4,.pointer n),(5,.int .i64 o),(6,(.pointer (some p))),(8,Sl.val q),(9,.int .i64 r),(10,.int .i64 t)] (fun C=>∀ z,C [(0,l),(2,(.pointer (some m))),(4,.pointer n),(5,.int .i64 o),(6,(.pointer (some p))),(8,Sl.val q),(9,.int .i64 r),(10,.int .i64 t),(25,.bool z)] (yU.s3 Q b l m n o p q r t z)):=by intros; exact ⟨fun _ ⟨_,_,_,_,_,_,_,_,h⟩=>⟨_,_,h⟩⟩
 have:DH 4 2 [8] (.s [0,1] (.a [(2,1,.s [3,4] (.i (.s [5,6,7,8,9,10] .e) (.s [5,7] (.a [(6,1,.a [(8,0,.s [9,10] .e)])]))))])):=⟨⟩
 have:∀ aa ab ac ad ae,LH 2 (fun x:Int=>[(0,aa),(2,(.pointer (some ab))),(4,.pointer ac),(8,Sl.val ad),(9,.int .i64 ae),(10,.int .i64 x)]) (fun X x=>yU.b1 Q X aa ab ac ad ae x):=fun _ _ _ _ _=>⟨⟩
 exact zO 34 h Tryz.func204
instance:ART Tryz.prog 73 72 3 1:=⟨by kernel_rfl⟩
instance:ART Tryz.prog 74 3 3 1:=⟨by kernel_rfl⟩
instance:AT Tryz.prog 171 7:=⟨by kernel_rfl⟩
instance:AT Tryz.prog 76 7:=⟨by kernel_rfl⟩
instance:CB Tryz.prog 11:=⟨by kernel_rfl⟩
instance:CB Tryz.prog 12:=⟨by kernel_rfl⟩
instance:CB Tryz.prog 121:=⟨by kernel_rfl⟩
instance:CB Tryz.prog 15:=⟨by kernel_rfl⟩
instance:CB Tryz.prog 16:=⟨by kernel_rfl⟩
instance:CB Tryz.prog 28:=⟨by kernel_rfl⟩
instance:CB Tryz.prog 69:=⟨by kernel_rfl⟩
instance:CB Tryz.prog 9:=⟨by kernel_rfl⟩
instance:CT Tryz.prog 72:=⟨by kernel_rfl⟩
instance:FT Tryz.prog 171 0 0 1:=⟨by kernel_rfl⟩
instance:FT Tryz.prog 171 1 1 1:=⟨by kernel_rfl⟩
instance:FT Tryz.prog 171 2 2 5:=⟨by kernel_rfl⟩
instance:FT Tryz.prog 53 1 4 2:=⟨by kernel_rfl⟩
instance:FT Tryz.prog 76 0 0 3:=⟨by kernel_rfl⟩
instance:FT Tryz.prog 76 1 3 1:=⟨by kernel_rfl⟩
instance:FT Tryz.prog 76 2 4 3:=⟨by kernel_rfl⟩
instance:PLT Tryz.prog 35 [(0,1),(1,1),(2,1)]:=⟨_,Tryz.underlying35,by kernel_rfl⟩
instance:PLT Tryz.prog 37 [(0,3),(3,1)]:=⟨_,Tryz.underlying37,by kernel_rfl⟩
instance:PLT Tryz.prog 76 [(0,3),(3,1),(4,3)]:=⟨_,Tryz.underlying76,by kernel_rfl⟩
instance:SLT Tryz.prog 70 171 7:=⟨by kernel_rfl⟩
instance:SLT Tryz.prog 72 48 12:=⟨by kernel_rfl⟩
instance:SZ Tryz.prog 171 7:=⟨by kernel_rfl⟩
instance:SZ Tryz.prog 63 1:=⟨by kernel_rfl⟩
instance:SZ Tryz.prog 72 1:=⟨by kernel_rfl⟩
instance:SZ Tryz.prog 76 7:=⟨by kernel_rfl⟩
instance:UN Tryz.prog 29 (.pointer 135):=⟨Tryz.underlying29⟩
instance:ZT Tryz.prog 171 (.agg #[(.int .i64 0),(.int .i64 0),(.int .i64 0),(Sl.val ⟨none,0,0⟩),(Sl.val ⟨none,0,0⟩),(Sl.val ⟨none,0,0⟩),(.int .i64 0)]):=⟨Tryz.t171,by kernel_rfl,by kernel_rfl⟩
instance:ZT Tryz.prog 76 (.agg #[(Sl.val ⟨none,0,0⟩),(Sl.val ⟨none,0,0⟩),(Sl.val ⟨none,0,0⟩),(Sl.val ⟨none,0,0⟩),(.int .i64 0),(.int .i64 0),(.int .i64 0)]):=⟨Tryz.t76,by kernel_rfl,by kernel_rfl⟩
def qx.s2 (Q:Bool→K) (a:Bool): K :=
 Q a
def qx.s1 (Q:Bool→K) (a:Pt) (t:Bool): K :=
 Ite t
  (Q false)
  (Bld #[.int .i64 0,.int .u64 0,.int .u64 0,.int .i64 0] ([(0,3),(3,1)][·]?) [(0,(.agg #[.int .i64 0,.int .u64 1,.int .u64 1]))] fun f=>
  New 9 #[(.string ⟨#[97]⟩),(.string ⟨#[98]⟩)] fun g=>
  jO.call a f #[.int .i64 1,Sl.val ⟨none,0,0⟩,(Sl.val (Sl.mk (some g) 2 2)),Sl.val ⟨none,0,0⟩,.int .i64 0] fun i=>
  New 40 #[.int .i64 0,.int .u64 0,.int .u64 0,.int .i64 0,.int .i64 0,Sl.val ⟨none,0,0⟩,Sl.val ⟨none,0,0⟩,Sl.val ⟨none,0,0⟩,.int .i64 0,Sl.val ⟨none,0,0⟩] fun c=>
  StN c 10 i<|
  LdN c 10 fun j=>
  Bld #[.int .i64 0,.int .i64 0,.int .i64 0,.int .u64 0,.int .u64 0,.int .i64 0,.int .i64 0,Sl.val ⟨none,0,0⟩,Sl.val ⟨none,0,0⟩,Sl.val ⟨none,0,0⟩,.int .i64 0,Sl.val ⟨none,0,0⟩] ([(0,1),(1,1),(2,10)][·]?) [(0,.int .i64 2),(2,.agg j)] fun k=>
  New 48 #[.int .i64 0,.int .i64 0,.int .i64 0,.int .u64 0,.int .u64 0,.int .i64 0,.int .i64 0,Sl.val ⟨none,0,0⟩,Sl.val ⟨none,0,0⟩,Sl.val ⟨none,0,0⟩,.int .i64 0,Sl.val ⟨none,0,0⟩] fun b=>
  StN b 12 k<|
  LdN b 12 fun l=>
  zL.call a 0 l fun m=>
  qO.call a fun o=>
  LdN b 12 fun p=>
  zL.call a 1 p fun d=>
  Ite (decide ((m.n:Int) = 0))
   (Ite (decide ((o.n:Int) = 1))
    (Ite (decide ((d.n:Int) = 1))
     (Idx d 0 6 fun q=>
     Ld (q.add 4) (Value.int .i64) fun r=>
     Ite (decide (r = 0))
      (qO.call a fun s=>
      qx.s2 Q (decide ((s.n:Int) = 0)))
      (qx.s2 Q false))
     (qx.s2 Q false))
    (qx.s2 Q false))
   (qx.s2 Q false))
def qx  (Q:Bool→K): K :=
 vv.call 2 fun a b=>
 Ite ((a).isNone)
  (qx.s1 Q a true)
  (qx.s1 Q a (decide (b ≠ 0)))
theorem zKS (Q w) (h:qx  Q w):qx.call  Q w:=by
 have:JH 1000009 fun D=>D [] (fun C=>∀ b,C [(0,.bool b)] (qx.s2 Q b)):=⟨fun _ h=>⟨_,_,h⟩⟩
 have:JH 3 fun D=>∃ a,D [(1,.pointer a)] (fun C=>∀ c,C [(1,.pointer a),(17,.bool c)] (qx.s1 Q a c)):=⟨fun _ ⟨_,h⟩=>⟨_,_,h⟩⟩
 exact zO 61 h Tryz.func8
def vM.b1 (Q:Bool→K) (j:Int→K) (k:Sl) (l a:Int): K :=
 Ite (decide (a < l))
  (Idx k a 7 fun c=>
  LdN c 7 fun d=>
  New 171 #[.int .i64 0,.int .i64 0,.int .i64 0,Sl.val ⟨none,0,0⟩,Sl.val ⟨none,0,0⟩,Sl.val ⟨none,0,0⟩,.int .i64 0] fun b=>
  StN b 7 d<|
  LdN (b.add 2) 5 fun f=>
  yQ.call f fun g=>
  Ite g
   (Q true)
   (Ar (IntKind.wrap .i64 (a + 1)) fun i=>
   j i))
  (Q false)
def vM (a:Sl) (Q:Bool→K): K :=
 Ite (decide ((50:Int) < (a.n:Int)))
  (Q true)
  (yN (α:=Int) (fun X x=>vM.b1 Q X a (a.n:Int) x) 0)
theorem zHj (a Q w) (h:vM a Q w):vM.call a Q w:=by
 have:∀ b c,LH 4 (fun x:Int=>[(8,Sl.val b),(9,.int .i64 c),(10,.int .i64 x)]) (fun X x=>vM.b1 Q X b c x):=fun _ _=>⟨⟩
 exact zO 18 h Tryz.func25
def qD.s2 (Q:Av→Bool→K) (b:Int→K) (d:Int) (f g:Addr) (i:Pt) (j:Sl) (k c:Int): K :=
 Ar (IntKind.wrap .i64 (c + 1)) fun a=>
 b a
def qD.b4 (Q:Av→Bool→K) (i d:Int→K) (f:K) (j:Int) (k g:Addr) (a:Int): K :=
 yI.call (some g) a fun b=>
 Ite b
  (f)
  (Ar (IntKind.wrap .i64 (a + 1)) fun c=>
  d c)
def qD.b3 (Q:Av→Bool→K) (i j:Int→K) (b:Int) (a c:Addr) (d:Int): K :=
 Ite (decide (d < b))
  (yN (α:=Unit) (fun X x=>qD.b4 Q i j (X ()) b a c d) ())
  (LdN c 7 fun f=>
  StN a 7 f<|
  LdN a 7 fun g=>
  Q g true)
def qD.b1 (Q:Av→Bool→K) (f:Int→K) (b:Int) (g a:Addr) (c:Pt) (j:Sl) (k d:Int): K :=
 Ite (decide (d < k))
  (Idx j d 7 fun r=>
  LdN r 7 fun s=>
  New 171 #[.int .i64 0,.int .i64 0,.int .i64 0,Sl.val ⟨none,0,0⟩,Sl.val ⟨none,0,0⟩,Sl.val ⟨none,0,0⟩,.int .i64 0] fun m=>
  StN m 7 s<|
  Ld (m.add 1) (Value.int .i64) fun t=>
  Ar (bitsOf .and .i64 t 1023) fun u=>
  Cd (b ≠ 0)<|
  Ar (Int.tmod u b) fun l=>
  Ld m (Value.int .i64) fun v=>
  Ar (bitsOf .and .i64 v 3) fun p=>
  Ite (decide (p = 0))
   (LdN (m.add 2) 5 fun y=>
   zk.call y b fun z=>
   Ite (!z)
    (qD.s2 Q f b g a c j k d)
    (Ar (IntKind.wrap .i64 (d + 1)) fun aa=>
    Ar (IntKind.wrap .u64 aa) fun ab=>
    Bld #[.int .i64 0,.int .u64 0,.int .u64 0,.int .i64 0] ([(0,3),(3,1)][·]?) [(0,(.agg #[.int .i64 0,.int .u64 1,.int .u64 ab]))] fun ac=>
    LdN (m.add 2) 5 fun ad=>
    jO.call c ac ad fun ae=>
    New 40 #[.int .i64 0,.int .u64 0,.int .u64 0,.int .i64 0,.int .i64 0,Sl.val ⟨none,0,0⟩,Sl.val ⟨none,0,0⟩,Sl.val ⟨none,0,0⟩,.int .i64 0,Sl.val ⟨none,0,0⟩] fun o=>
    StN o 10 ae<|
    LdN o 10 fun af=>
    vw.call af fun ag=>
    Ite ag
     (LdN o 10 fun ah=>
     qo.call ah fun aj=>
     Idx aj 0 1 fun ak=>
     Ld ak (Value.int .i64) fun q=>
     Dr <| yZ fun S=>
     zAz a 3 q 1 fun al=>
     LdS S al Sl.val fun am=>
     vG S o 10 fun an=>
     Bld #[.int .i64 0,.int .i64 0,.int .i64 0,.int .u64 0,.int .u64 0,.int .i64 0,.int .i64 0,Sl.val ⟨none,0,0⟩,Sl.val ⟨none,0,0⟩,Sl.val ⟨none,0,0⟩,.int .i64 0,Sl.val ⟨none,0,0⟩] ([(0,1),(1,1),(2,10)][·]?) [(0,.int .i64 1),(2,.agg an)] fun ao=>
     Bld #[.int .i64 0,.int .i64 0,.int .i64 0,.int .u64 0,.int .u64 0,.int .i64 0,.int .i64 0,Sl.val ⟨none,0,0⟩,Sl.val ⟨none,0,0⟩,Sl.val ⟨none,0,0⟩,.int .i64 0,Sl.val ⟨none,0,0⟩] (fun i=>some (i * 12,12)) [(0,.agg ao)] fun ap=>
     New 48 ap fun aq=>
     Sv S<|
     Do Tryz.prog (Builtin.append_ #[72,72] 72 #[Sl.val am,(Sl.val (Sl.mk (some aq) 1 1))]) Sl.val fun ar=>
     zAz a 3 q 1 fun au=>
     St au (Sl.val ar)<|
     qD.s2 Q f b g a c j k d)
     (Ld (a.add 3) Sl.val fun av=>
     LdN o 10 fun aw=>
     Bld #[.int .i64 0,.int .u64 0,.int .u64 0,.int .i64 0,.int .i64 0,Sl.val ⟨none,0,0⟩,Sl.val ⟨none,0,0⟩,Sl.val ⟨none,0,0⟩,.int .i64 0,Sl.val ⟨none,0,0⟩] (fun i=>some (i * 10,10)) [(0,.agg aw)] fun ax=>
     New 40 ax fun ay=>
     Do Tryz.prog (Builtin.append_ #[63,63] 63 #[Sl.val av,(Sl.val (Sl.mk (some ay) 1 1))]) Sl.val fun az=>
     St (a.add 3) (Sl.val az)<|
     qD.s2 Q f b g a c j k d)))
   (Ite (decide (p = 1))
    (yI.call (some a) l fun a8=>
    qD.s2 Q f b g a c j k d)
    (Dr <| yZ fun S=>
    zAz a 3 l 1 fun a0=>
    LdS S a0 Sl.val fun a1=>
    j6.call c l fun a2=>
    Sv S<|
    Ite (decide (a2 < (a1.n:Int)))
     (Dr <| yZ fun S=>
     zAz a 3 l 1 fun a3=>
     LdS S a3 Sl.val fun a4=>
     j6.call c l fun a5=>
     Sv S<|
     Idx a4 a5 12 fun a6=>
     LdN a6 12 fun a7=>
     zL.call c l a7 fun a9=>
     qD.s2 Q f b g a c j k d)
     (qD.s2 Q f b g a c j k d))))
  (yN (α:=Int) (fun X x=>qD.b3 Q f X b g a x) 0)
def qD (d:Int) (f:Sl) (Q:Av→Bool→K): K :=
 New 76 #[Sl.val ⟨none,0,0⟩,Sl.val ⟨none,0,0⟩,Sl.val ⟨none,0,0⟩,Sl.val ⟨none,0,0⟩,.int .i64 0,.int .i64 0,.int .i64 0] fun a=>
 Pu Tryz.prog (Instr.build 74 [(0,(.int .i64 (-1))),(1,(.int .i64 (-1))),(2,(.int .i64 (-1)))].toArray) Value.agg fun g=>
 Bld #[Sl.val ⟨none,0,0⟩,Sl.val ⟨none,0,0⟩,Sl.val ⟨none,0,0⟩,Sl.val ⟨none,0,0⟩,.int .i64 0,.int .i64 0,.int .i64 0] ([(0,3),(3,1),(4,3)][·]?) [(2,.agg g)] fun i=>
 New 76 #[Sl.val ⟨none,0,0⟩,Sl.val ⟨none,0,0⟩,Sl.val ⟨none,0,0⟩,Sl.val ⟨none,0,0⟩,.int .i64 0,.int .i64 0,.int .i64 0] fun b=>
 StN b 7 i<|
 vv.call d fun c l=>
 Ite ((c).isNone)
  (LdN b 7 fun j=>
  StN a 7 j<|
  LdN a 7 fun k=>
  Q k false)
  (yN (α:=Int) (fun X x=>qD.b1 Q X d a b c f (f.n:Int) x) 0)
theorem zMh (l m Q w) (h:qD l m Q w):qD.call l m Q w:=by
 have:∀ b,XH 6 b→JH 21 fun D=>∃ c d f g i j k,D [(0,.int .i64 c),(4,(.pointer (some d))),(6,(.pointer (some f))),(7,.pointer g),(25,Sl.val i),(26,.int .i64 j),(27,.int .i64 k)] (fun C=>C [(0,.int .i64 c),(4,(.pointer (some d))),(6,(.pointer (some f))),(7,.pointer g),(25,Sl.val i),(26,.int .i64 j),(27,.int .i64 k)] (qD.s2 Q b c d f g i j k)):=by intros; exact ⟨fun _ ⟨_,_,_,_,_,_,_,h⟩=>⟨_,_,h⟩⟩
 have:DH 17 2 [8,11] (.s [0,1,2,3,9,4,5,6] (.a [(7,1,.a [(8,0,.s [10] (.a [(11,0,.e)]))])])):=⟨⟩
 have:DH 11 2 [11] (.s [0,1,2,3,4,6,7,5] (.a [(8,1,.s [9] (.a [(10,2,.a [(11,0,.e)])]))])):=⟨⟩
 have:DH 10 2 [] (.s [0,1,3,4,5,6,7] (.a [(2,1,.s [8] .e)])):=⟨⟩
 have:∀ b,XH 6 b→∀ n,XH 23 n→∀ o p q r,LH 25 (fun x:Unit=>[(0,.int .i64 o),(4,(.pointer (some p))),(6,(.pointer (some q))),(14,.int .i64 r)]) (fun X x=>qD.b4 Q b n (X ()) o p q r):=by intros; exact ⟨⟩
 have:∀ b,XH 6 b→∀ t u v,LH 23 (fun x:Int=>[(0,.int .i64 t),(4,(.pointer (some u))),(6,(.pointer (some v))),(14,.int .i64 x)]) (fun X x=>qD.b3 Q b X t u v x):=by intros; exact ⟨⟩
 have:∀ y z aa ab ac ad,LH 6 (fun x:Int=>[(0,.int .i64 y),(4,(.pointer (some z))),(6,(.pointer (some aa))),(7,.pointer ab),(25,Sl.val ac),(26,.int .i64 ad),(27,.int .i64 x)]) (fun X x=>qD.b1 Q X y z aa ab ac ad x):=fun _ _ _ _ _ _=>⟨⟩
 exact zO 113 h Tryz.func26
def yI.s2 (Q:Bool→K) (a:Bool): K :=
 Q a
def yI.s1 (Q:Bool→K) (q:Pt) (b:Int) (d:Addr) (c:Bool): K :=
 Ite c
  (Dr<|
  Nn q fun a=>
  Ld (d.add 1) (Value.int .i64) fun f=>
  zAz (a.add 4) 3 b 1 fun g=>
  St g (.int .i64 f)<|
  Dr <| yZ fun S=>
  zAz a 3 b 1 fun j=>
  LdS S j Sl.val fun k=>
  vG S d 12 fun l=>
  Bld #[.int .i64 0,.int .i64 0,.int .i64 0,.int .u64 0,.int .u64 0,.int .i64 0,.int .i64 0,Sl.val ⟨none,0,0⟩,Sl.val ⟨none,0,0⟩,Sl.val ⟨none,0,0⟩,.int .i64 0,Sl.val ⟨none,0,0⟩] (fun i=>some (i * 12,12)) [(0,.agg l)] fun m=>
  New 48 m fun n=>
  Sv S<|
  Do Tryz.prog (Builtin.append_ #[72,72] 72 #[Sl.val k,(Sl.val (Sl.mk (some n) 1 1))]) Sl.val fun o=>
  zAz a 3 b 1 fun p=>
  St p (Sl.val o)<|
  yI.s2 Q c)
  (yI.s2 Q c)
def yI (k:Pt) (b:Int) (Q:Bool→K): K :=
 Dr <| yZ fun S=>
 Nn k fun c=>
 zAz (c.add 4) 3 b 1 fun j=>
 LdS S (c.add 3) Sl.val fun g=>
 LdS S j (Value.int .i64) fun i=>
 All [
  (zCg.call g b i fun d f=>
  New 48 #[.int .i64 0,.int .i64 0,.int .i64 0,.int .u64 0,.int .u64 0,.int .i64 0,.int .i64 0,Sl.val ⟨none,0,0⟩,Sl.val ⟨none,0,0⟩,Sl.val ⟨none,0,0⟩,.int .i64 0,Sl.val ⟨none,0,0⟩] fun a=>
  StN a 12 d<|
  yI.s1 Q (some c) b a f),
  (New 48 #[.int .i64 0,.int .i64 0,.int .i64 0,.int .u64 0,.int .u64 0,.int .i64 0,.int .i64 0,Sl.val ⟨none,0,0⟩,Sl.val ⟨none,0,0⟩,Sl.val ⟨none,0,0⟩,.int .i64 0,Sl.val ⟨none,0,0⟩] fun a=>
  Sv S<|
  zCg.call g b i fun d f=>
  StN a 12 d<|
  yI.s1 Q (some c) b a f)
  ]
theorem zGp (d f Q w) (h:yI d f Q w):yI.call d f Q w:=by
 have:JH 5 fun D=>D [] (fun C=>∀ g,C [(6,.bool g)] (yI.s2 Q g)):=⟨fun _ h=>⟨_,_,h⟩⟩
 have:DH 4 2 [10,14] (.s [0,1,2,3,4,5,6,11,12,7,8] (.a [(9,1,.a [(10,0,.s [13] (.a [(14,0,.e)]))])])):=⟨⟩
 have:DH 3 1 [7] (.s [0,1,2,4,5,3,6] (.a [(7,0,.e)])):=⟨⟩
 have:JH 2 fun D=>∃ b c,D [(0,.pointer b),(1,.int .i64 c)] (fun C=>∀ i j,C [(0,.pointer b),(1,.int .i64 c),(5,(.pointer (some i))),(6,.bool j)] (yI.s1 Q b c i j)):=⟨fun _ ⟨_,_,h⟩=>⟨_,_,h⟩⟩
 have:DH 1 2 [11,16] (.s [0,1,2,4,5,6,7,8,9,3,10] (.a [(11,0,.s [12,13,14] (.a [(15,0,.a [(16,0,.s [17] .e)])])),(15,1,.a [(11,0,.s [12,13,14] (.a [(16,0,.s [17] .e)]))])])):=⟨⟩
 exact zO 45 h Tryz.func69
instance:ART Tryz.prog 110 54 3 1:=⟨by kernel_rfl⟩
instance:ART Tryz.prog 251 4 3 1:=⟨by kernel_rfl⟩
instance:AT Tryz.prog 253 14:=⟨by kernel_rfl⟩
instance:AT Tryz.prog 53 6:=⟨by kernel_rfl⟩
instance:CB Tryz.prog 127:=⟨by kernel_rfl⟩
instance:CB Tryz.prog 128:=⟨by kernel_rfl⟩
instance:CB Tryz.prog 129:=⟨by kernel_rfl⟩
instance:CB Tryz.prog 130:=⟨by kernel_rfl⟩
instance:CB Tryz.prog 131:=⟨by kernel_rfl⟩
instance:CB Tryz.prog 132:=⟨by kernel_rfl⟩
instance:CB Tryz.prog 174:=⟨by kernel_rfl⟩
instance:CB Tryz.prog 175:=⟨by kernel_rfl⟩
instance:CB Tryz.prog 176:=⟨by kernel_rfl⟩
instance:CB Tryz.prog 177:=⟨by kernel_rfl⟩
instance:CB Tryz.prog 178:=⟨by kernel_rfl⟩
instance:CB Tryz.prog 179:=⟨by kernel_rfl⟩
instance:CB Tryz.prog 180:=⟨by kernel_rfl⟩
instance:CB Tryz.prog 27:=⟨by kernel_rfl⟩
instance:CB Tryz.prog 30:=⟨by kernel_rfl⟩
instance:CB Tryz.prog 31:=⟨by kernel_rfl⟩
instance:CB Tryz.prog 32:=⟨by kernel_rfl⟩
instance:CT Tryz.prog 109:=⟨by kernel_rfl⟩
instance:CT Tryz.prog 111:=⟨by kernel_rfl⟩
instance:CT Tryz.prog 54:=⟨by kernel_rfl⟩
instance:CT Tryz.prog 80:=⟨by kernel_rfl⟩
instance:FT Tryz.prog 113 0 0 1:=⟨by kernel_rfl⟩
instance:FT Tryz.prog 113 1 1 1:=⟨by kernel_rfl⟩
instance:FT Tryz.prog 113 2 2 1:=⟨by kernel_rfl⟩
instance:FT Tryz.prog 113 3 3 3:=⟨by kernel_rfl⟩
instance:FT Tryz.prog 113 4 6 3:=⟨by kernel_rfl⟩
instance:FT Tryz.prog 113 5 9 3:=⟨by kernel_rfl⟩
instance:FT Tryz.prog 113 6 12 3:=⟨by kernel_rfl⟩
instance:FT Tryz.prog 113 7 15 1:=⟨by kernel_rfl⟩
instance:FT Tryz.prog 113 8 16 1:=⟨by kernel_rfl⟩
instance:FT Tryz.prog 184 2 2 1:=⟨by kernel_rfl⟩
instance:FT Tryz.prog 253 0 0 10:=⟨by kernel_rfl⟩
instance:FT Tryz.prog 253 1 10 3:=⟨by kernel_rfl⟩
instance:FT Tryz.prog 53 0 0 4:=⟨by kernel_rfl⟩
instance:PLT Tryz.prog 113 [(0,1),(1,1),(2,1),(3,3),(6,3),(9,3),(12,3),(15,1),(16,1)]:=⟨_,Tryz.underlying113,by kernel_rfl⟩
instance:PLT Tryz.prog 184 [(0,1),(1,1),(2,1)]:=⟨_,Tryz.underlying184,by kernel_rfl⟩
instance:PLT Tryz.prog 253 [(0,10),(10,3),(13,1)]:=⟨_,Tryz.underlying253,by kernel_rfl⟩
instance:SLT Tryz.prog 111 253 14:=⟨by kernel_rfl⟩
instance:SZ Tryz.prog 111 1:=⟨by kernel_rfl⟩
instance:SZ Tryz.prog 53 6:=⟨by kernel_rfl⟩
instance:ZT Tryz.prog 113 (.agg #[(.bool false),(.pointer none),(.pointer none),(Sl.val ⟨none,0,0⟩),(Sl.val ⟨none,0,0⟩),(Sl.val ⟨none,0,0⟩),(.int .i64 0),(.int .i64 0),(.int .i64 0),(.int .i64 0),(.int .i64 0),(.int .i64 0),(Sl.val ⟨none,0,0⟩),(Sl.val ⟨none,0,0⟩),(Sl.val ⟨none,0,0⟩),(Sl.val ⟨none,0,0⟩),(.int .i64 0)]):=⟨Tryz.t113,by kernel_rfl,by kernel_rfl⟩
instance:ZT Tryz.prog 184 (.agg #[(Sl.val ⟨none,0,0⟩),(Sl.val ⟨none,0,0⟩),(Sl.val ⟨none,0,0⟩)]):=⟨Tryz.t184,by kernel_rfl,by kernel_rfl⟩
instance:ZT Tryz.prog 253 (.agg #[(.int .i64 0),(.int .u64 0),(.int .u64 0),(.int .i64 0),(.int .i64 0),(Sl.val ⟨none,0,0⟩),(Sl.val ⟨none,0,0⟩),(Sl.val ⟨none,0,0⟩),(.int .i64 0),(Sl.val ⟨none,0,0⟩),(.bool false),(.bool false),(.bool false),(.bool false)]):=⟨Tryz.t253,by kernel_rfl,by kernel_rfl⟩
def uY.s2 (Q:Bool→K) (b:Int→K) (f g:Sl) (c:Int) (d:Bool): K :=
 Ite d
  (Q false)
  (Ar (IntKind.wrap .i64 (c + 1)) fun a=>
  b a)
def uY.b1 (Q:Bool→K) (g:Int→K) (b c:Sl) (a:Int): K :=
 Ite (decide (a < (b.n:Int)))
  (Dr<|
  Idx b a 6 fun i=>
  Idx c a 6 fun j=>
  LdN i 4 fun d=>
  LdN j 4 fun f=>
  Pu Tryz.prog (do eqGuard .neq 37 (.tmp 21) (.tmp 26) (.agg d) (.agg f); binOp .neq 37 (.agg d) (.agg f):Sem Value) Value.bool fun k=>
  Ite k
   (uY.s2 Q g b c a true)
   (Idx b a 6 fun l=>
   Idx c a 6 fun m=>
   LdN (l.add 4) 2 fun o=>
   LdN (m.add 4) 2 fun p=>
   vB.call o p fun q=>
   uY.s2 Q g b c a (!q)))
  (Q true)
def uY (a b:Sl) (Q:Bool→K): K :=
 Ite (decide ((a.n:Int) ≠ (b.n:Int)))
  (Q false)
  (yN (α:=Int) (fun X x=>uY.b1 Q X a b x) 0)
theorem zMi (f g Q w) (h:uY f g Q w):uY.call f g Q w:=by
 have:∀ j,XH 4 j→JH 7 fun D=>∃ b c d,D [(0,Sl.val b),(1,Sl.val c),(5,.int .i64 d)] (fun C=>∀ k,C [(0,Sl.val b),(1,Sl.val c),(5,.int .i64 d),(41,.bool k)] (uY.s2 Q j b c d k)):=by intros; exact ⟨fun _ ⟨_,_,_,h⟩=>⟨_,_,h⟩⟩
 have:DH 6 1 [22] (.s [0,1,2,3,5,6,7,8,4,9,10,11] (.i (.s [12,13,14,15,16,17,18,19,20,21,22,23,24] .e) (.s [12,13,14,15,17,18,19,20,16,21] (.a [(22,0,.s [23,24] .e)])))):=⟨⟩
 have:∀ l m,LH 4 (fun x:Int=>[(0,Sl.val l),(1,Sl.val m),(5,.int .i64 x)]) (fun X x=>uY.b1 Q X l m x):=fun _ _=>⟨⟩
 exact zO 42 h Tryz.func40
end
section
open Go Go.Sep
def zFO (g:ql):Prop:=0 ≤ g.node∧g.node < 9∧0 < g.epoch∧0 < g.seq∧0 ≤ g.tr∧g.tr < 3
instance (g:ql):Decidable (zFO g):=by unfold zFO; infer_instance
def zPC (rg:Int) (ks:List TX) (mks:List MkX):Prop:=mks.map MkX.key = ks∧∀ m ∈ mks,0 ≤ m.home∧m.home < rg
instance (rg:Int) (ks:List TX) (mks:List MkX):Decidable (zPC rg ks mks):=by unfold zPC; infer_instance
abbrev zDO (rg:Int) (g:ql) (t:TxX) (mks:List MkX):Prop:=vE rg t = true∧zFO g∧zPC rg (jW (t.reads++t.writes)) mks
abbrev orV (g:ql) (t:TxX) (ms:Sl):List Value:=orL g.node g.epoch g.seq g.tr t ms
section
variable {B:World} {Γ Δ:List zB} {g:ql} {t:TxX} {ms:Sl} {mks:List MkX}
theorem zJ8 {rg:Int} {Q:Int→K} (hr:∀ w,Holds B Γ w→zCs w t) (hm:∀ w,Holds B Γ w→RdC w ms 3 (mks.flatMap mkL)) (hl:t.reads.length ≤ 1000∧t.writes.length ≤ 1000∧t.ops.length ≤ 1000) (hml:mks.length ≤ 100000)
  (h:HG B Γ (Q (if zDO rg g t mks then 0 else 1))):HG B Γ (z8.call (orV g t ms).toArray rg Q):=fun w hw=>by
 refine zL3 _ _ _ _ ?_
 have hmn:ms.n = mks.length:=zAb zDE (by omega) (hm w hw)
 refine hg hw ?_
 clear hw w
 unfold z8
 refine zR fun o2=>?_
 refine vk ?_
 refine zBw [blk o2 (.cells (orV g t ms).toArray yT (0,0))] ?_
 refine zAW (b:=o2) (l:=orV g t ms) (l':=[.int .i64 g.node,.int .u64 g.epoch,.int .u64 g.seq]) ?_
 refine zAW (b:=o2) (off:=4) (l:=orV g t ms) (l':=txL t) ?_
 have hkl:=zHK (t.reads++t.writes)
 rw [List.length_append] at hkl
 have rest:∀ (id5:Nat) (ks:Sl),HG B (blk id5 (.cells [.int .i64 g.node,.int .u64 g.epoch,.int .u64 g.seq].toArray zMz (0,0))::SlS ks (jW (t.reads++t.writes))::blk o2 (.cells (orV g t ms).toArray yT (0,0))::Γ) (z8.s1 Q rg ⟨o2,0,none⟩ ⟨id5,0,none⟩ ks):=fun id5 ks=>by
  refine yS ks fun k1 k2 k3 k4=>?_
  have hkn:ks.n = (jW (t.reads++t.writes)).length:=by simpa using k1.symm
  have no:¬ zDO rg g t mks→HG B Γ (Q 1):=fun hn=>by rw [if_neg hn] at h; exact h
  have S2:∀ b:Bool,(b = true ↔ vE rg t = true∧zFO g)→HG B (SlS ks (jW (t.reads++t.writes))::blk o2 (.cells (orV g t ms).toArray yT (0,0))::Γ) (z8.s2 Q rg ⟨o2,0,none⟩ ks b):=fun b hb=>by
   have bad:¬ zDO rg g t mks→HG B (SlS ks (jW (t.reads++t.writes))::blk o2 (.cells (orV g t ms).toArray yT (0,0))::Γ) (z8.s3 Q rg ⟨o2,0,none⟩ ks true):=fun hn=>by
    unfold z8.s3
    exact s_t (zC (no hn))
   unfold z8.s2
   cases b
   ·refine s_t ?_
    exact bad fun ho=>by have:=hb.2 ⟨ho.1,ho.2.1⟩; cases this
   ·refine s_f ?_
    have hok:=hb.1 rfl
    refine yD (b:=o2) (off:=9) (l:=orV g t ms) (x:=ms) ?_
    by_cases hlen:mks.length = (jW (t.reads++t.writes)).length
    ·rw [show decide ((ms.n:Int) ≠ (ks.n:Int)) = false by simp; omega]
     unfold z8.s3
     refine s_f ?_
     refine yD (b:=o2) (off:=9) (l:=orV g t ms) (x:=ms) ?_
     refine j4 (α:=Int) (fun x=>∃ i:Nat,x = (i:Int)∧i ≤ mks.length∧∀ j,j < i→(mks[j]?.map MkX.key) = (jW (t.reads++t.writes))[j]?∧∀ m,mks[j]? = some m→0 ≤ m.home∧m.home < rg) (fun x=>mks.length - x.toNat) ⟨0,rfl,Nat.zero_le _,by omega⟩ fun k' x hx hk'=>?_
     obtain ⟨i,rfl,hi,ha⟩:=hx
     unfold z8.b4
     refine zH (fun hc=>?_) fun hc=>?_
     ·have hil:i < mks.length:=by simp only [decide_eq_true_eq] at hc; omega
      have hge:mks[i]? = some mks[i]:=List.getElem?_eq_getElem hil
      have hgk:(jW (t.reads++t.writes))[i]? = some (jW (t.reads++t.writes))[i]:=List.getElem?_eq_getElem (by omega)
      generalize mks[i] = m at hge
      generalize (jW (t.reads++t.writes))[i] = key at hgk
      refine zAw mkL zDE (fun w hw=>hm w hw.drops) hge ?_
      refine zR fun m9=>?_
      refine qX (b:=m9) (l':=mkL m) ?_
      refine vk ?_
      refine yD (b:=m9) (l:=mkL m) (x:=bs m.key) ?_
      refine zAa (L:=jW (t.reads++t.writes)) (j:=i) (fun w hw=>(yh (s:=ks) hw).1) hgk ?_
      have S5:∀ c:Bool,(c = true ↔ ¬ (m.key = key∧0 ≤ m.home∧m.home < rg))→HG B (SlS ks (jW (t.reads++t.writes))::blk o2 (.cells (orV g t ms).toArray yT (0,0))::Γ) (z8.s5 Q k' rg ks ms (ms.n:Int) (i:Int) c):=fun c hcc=>by
       unfold z8.s5
       cases c
       ·refine s_f ?_
        refine qU ?_
        have hyes:m.key = key∧0 ≤ m.home∧m.home < rg:=by
         by_cases hh:m.key = key∧0 ≤ m.home∧m.home < rg
         ·exact hh
         ·have:=hcc.2 hh; cases this
        refine hk' _ ⟨i + 1,by simp,hil,fun j hj=>?_⟩ (by omega)
        by_cases hji:j = i
        ·subst hji
         rw [hge,hgk]
         exact ⟨by simp [hyes.1],fun m' hm'=>by cases hm'; exact hyes.2⟩
        ·exact ha j (by omega)
       ·refine s_t ?_
        refine zC (no fun ho=>hcc.1 rfl ?_)
        have h1:=congrArg (·[i]?) ho.2.2.1
        simp only [List.getElem?_map,hge,hgk,Option.map_some,Option.some.injEq] at h1
        exact ⟨h1,ho.2.2.2 m (List.mem_of_getElem? hge)⟩
      refine zH (fun h1=>?_) fun h1=>?_
      ·refine zC (S5 true ?_)
       have:m.key ≠ key:=by simpa using h1
       simp [this]
      have hkey:m.key = key:=by simpa using h1
      refine yD (b:=m9) (off:=1) (l:=mkL m) (x:=m.home) ?_
      refine zH (fun h2=>?_) fun h2=>?_
      ·refine zC (S5 true ?_)
       simp only [decide_eq_true_eq] at h2
       simp only [true_iff,not_and]
       intro _ h3; omega
      refine yD (b:=m9) (off:=1) (l:=mkL m) (x:=m.home) ?_
      refine zC (S5 _ ?_)
      simp only [decide_eq_false_iff_not,decide_eq_true_eq] at h2 ⊢
      constructor
      ·rintro h3 ⟨_,_,h4⟩; omega
      ·intro h3
       by_cases h4:rg ≤ m.home
       ·exact h4
       ·exact absurd ⟨hkey,by omega,by omega⟩ h3
     ·have hil:i = mks.length:=by simp only [decide_eq_false_iff_not] at hc; omega
      have hall:zDO rg g t mks:=by
       refine ⟨hok.1,hok.2,List.ext_getElem? fun j=>?_,fun m hm=>?_⟩
       ·by_cases hj:j < i
        ·rw [List.getElem?_map]; exact (ha j hj).1
        ·rw [List.getElem?_eq_none (by simp; omega),List.getElem?_eq_none (by omega)]
       ·obtain ⟨j,hj,rfl⟩:=List.mem_iff_getElem.1 hm
        exact (ha j (by omega)).2 _ (List.getElem?_eq_getElem hj)
      rw [if_pos hall] at h
      exact zC h
    ·rw [show decide ((ms.n:Int) ≠ (ks.n:Int)) = true by simp; omega]
     exact bad fun ho=>hlen (by have:=congrArg List.length ho.2.2.1; simpa using this)
  have S2':∀ b:Bool,(b = true ↔ vE rg t = true∧zFO g)→HG B (blk id5 (.cells [.int .i64 g.node,.int .u64 g.epoch,.int .u64 g.seq].toArray zMz (0,0))::SlS ks (jW (t.reads++t.writes))::blk o2 (.cells (orV g t ms).toArray yT (0,0))::Γ) (z8.s2 Q rg ⟨o2,0,none⟩ ks b):=fun b hb=>zC (S2 b hb)
  unfold z8.s1
  refine qW (b:=o2) (off:=4) (l:=orV g t ms) (l':=txL t) ?_
  refine zWK (t:=t) (n:=rg) (fun w hw=>hr w hw.drops) ⟨by omega,by omega,by omega⟩ ?_
  by_cases hrt:vE rg t = true
  rotate_left
  ·rw [if_neg hrt]
   refine s_f ?_
   exact S2' false (by simp [hrt])
  rw [if_pos hrt]
  refine s_t ?_
  refine yD (b:=id5) (x:=g.node) ?_
  refine zH (fun h1=>?_) fun h1=>?_
  rotate_left
  ·exact S2' false (by simp only [decide_eq_false_iff_not] at h1; simp [zFO,h1])
  simp only [decide_eq_true_eq] at h1
  refine yD (b:=id5) (x:=g.node) ?_
  refine zH (fun h2=>?_) fun h2=>?_
  rotate_left
  ·exact S2' false (by simp only [decide_eq_false_iff_not] at h2; simp [zFO,h2])
  simp only [decide_eq_true_eq] at h2
  refine yD (b:=id5) (off:=1) (x:=g.epoch) ?_
  refine zH (fun h3=>?_) fun h3=>?_
  rotate_left
  ·exact S2' false (by simp only [decide_eq_false_iff_not] at h3; simp [zFO,h3])
  simp only [decide_eq_true_eq] at h3
  refine yD (b:=id5) (off:=2) (x:=g.seq) ?_
  refine zH (fun h4=>?_) fun h4=>?_
  rotate_left
  ·exact S2' false (by simp only [decide_eq_false_iff_not] at h4; simp [zFO,h4])
  simp only [decide_eq_true_eq] at h4
  refine yD (b:=o2) (off:=3) (l:=orV g t ms) (x:=g.tr) ?_
  refine zH (fun h5=>?_) fun h5=>?_
  rotate_left
  ·exact S2' false (by simp only [decide_eq_false_iff_not] at h5; simp [zFO,h5])
  simp only [decide_eq_true_eq] at h5
  refine yD (b:=o2) (off:=3) (l:=orV g t ms) (x:=g.tr) ?_
  exact S2' _ (by simp only [decide_eq_true_eq]; exact ⟨fun h6=>⟨hrt,h1,h2,h3,h4,h5,h6⟩,fun h6=>h6.2.2.2.2.2.2⟩)
 refine zJK ?_ ?_
 ·refine zO9 (t:=t) (fun w hw=>(hr w hw.drops).1) (fun w hw=>(hr w hw.drops).2.1) (by omega) (by omega) fun ks=>?_
  refine zBC ?_
  refine zR fun id5=>?_
  refine zBC ?_
  refine qX (b:=id5) (l':=[.int .i64 g.node,.int .u64 g.epoch,.int .u64 g.seq]) ?_
  exact zC (rest id5 ks)
 ·refine zR fun id5=>?_
  refine zBC ?_
  refine zO9 (t:=t) (fun w hw=>(hr w hw.drops).1) (fun w hw=>(hr w hw.drops).2.1) (by omega) (by omega) fun ks=>?_
  refine zBC ?_
  refine qX (b:=id5) (l':=[.int .i64 g.node,.int .u64 g.epoch,.int .u64 g.seq]) ?_
  exact zC (rest id5 ks)
end
end
end Go.Proofs.YtdemfamgieonbaaGreat
namespace Go.Sep
section
open Go Go.RowKit
def zWR (P:Program) (T U E:TypeId):Bool:=(match P.underlying T with | some .string=>true | _=>false) && (match P.underlying U with | some (.slice e)=>Nat.beq e E | _=>false) && (match P.underlying E with | some (.int .u8)=>true | _=>false)
theorem zRr {P:Program} {T U E:TypeId} (h:zWR P T U E = true):P.underlying T = some .string∧P.underlying U = some (.slice E)∧P.underlying E = some (.int .u8):=by
 unfold zWR at h
 simp only [Bool.and_eq_true] at h
 obtain ⟨⟨h1,h2⟩,h3⟩:=h
 refine ⟨?_,?_,?_⟩
 ·split at h1 <;> first | assumption | cases h1
 ·split at h2
  ·rename_i e he; rw [he,Nat.eq_of_beq_eq_true h2]
  ·cases h2
 ·split at h3 <;> first | assumption | cases h3
theorem zTa {P:Program} {B:World} {Γ:List zB} {T U E:TypeId} {xs:List UInt8} {k:Sl→K} (h:∀ s,s.n = xs.length→HG B (SlC E 1 s (xs.map jm)::Γ) (k s)) (hT:zWR P T U E = true:=by kernel_rfl) :
  HG B Γ (Do P (convert T U (.string (bs xs))) Sl.val k):=fun w hw=>by
 obtain ⟨h1,h2,h3⟩:=zRr hT
 have hrun:=Go.Lib.run_convert_string_bytes w T U E (bs xs) h1 h2 h3
 have hsz:(bs xs).size = xs.length:=rfl
 have hcap:xs.length ≤ grownCap w xs.length 0 E:=by
  unfold grownCap Question.cut
  simp only
  omega
 refine ⟨⟨some ⟨w.heap.size,0,none⟩,xs.length,grownCap w xs.length 0 E⟩,_,hrun,h _ rfl _ ?_⟩
 have h4:=hw.alloc (.cells (Go.Lib.bytesCells w E (bs xs)) E ((Go.Lib.bytesCells w E (bs xs)).size,(Go.Lib.bytesCells w E (bs xs)).size + 1))
 have h5:Holds B (blk w.heap.size (.cells (Go.Lib.bytesCells w E (bs xs)) E ((Go.Lib.bytesCells w E (bs xs)).size,(Go.Lib.bytesCells w E (bs xs)).size + 1))::Γ) (Go.Lib.bytesWorld w E (bs xs)):=by
  refine h4.zSD ?_ rfl rfl rfl
  apply Array.ext_getElem?
  intro j
  simp only [Array.getElem?_push]
  by_cases hj:j = w.heap.size
  ·subst hj
   rw [Go.Lib.bytesWorld_at_new,if_pos rfl]
  ·rw [if_neg hj]
   by_cases hl:j < w.heap.size
   ·exact Go.Lib.bytesWorld_at_old w E (bs xs) j hl
   ·have hs:=Go.Lib.bytesWorld_size w E (bs xs)
    rw [Array.getElem?_eq_none (by omega),Array.getElem?_eq_none (by omega)]
 have hlen:(Go.Lib.bytesCells w E (bs xs)).size = xs.length + (grownCap w xs.length 0 E - xs.length):=by
  simp [Go.Lib.bytesCells,hsz]
 refine zLP (a:=⟨w.heap.size,0,none⟩) (cs:=Go.Lib.bytesCells w E (bs xs)) rfl h5 ⟨rfl,fun i _ hi=>?_,?_,fun i hi=>?_,?_,hcap⟩
 ·simp only at hi ⊢; omega
 ·simp only; omega
 ·simp only [List.length_map] at hi
  simp only [Nat.zero_add,Go.Lib.bytesCells]
  rw [Array.getElem?_append_left (by simp [hsz]; omega)]
  simp only [Array.getElem?_map,List.getElem?_map,List.getElem?_toArray]; rfl
 ·simp
end
end Go.Sep
namespace Go.Proofs.YtdemfamgieonbaaGreat
section
open Go Go.Sep Go.Sep.Bt
section
variable {B:World} {Γ Δ:List zB} {Q:Bool→K}
theorem zRs {r:Rec} {a b:Sl} (ha:∀ w,Holds B Γ w→RdB w a r.val) (hb:∀ w,Holds B Γ w→RdB w b r.val) (h:HG B Γ (Q true)):HG B Γ (xA.call (zBv r a).toArray (zBv r b).toArray Q):=fun w hw=>by
 refine zHa _ _ _ _ ?_
 refine Sep.hg hw ?_
 clear hw w
 unfold xA
 refine zR fun a2=>?_
 refine zR fun b3=>?_
 repeat refine zh ?_
 refine s_t ?_ (by simp)
 repeat refine zh ?_
 refine zTT (xs:=r.val) (fun w hw=>ha w hw.drops) ?_
 repeat refine zh ?_
 refine zTT (xs:=r.val) (fun w hw=>hb w hw.drops) ?_
 refine s_t ?_ (by simp)
 repeat refine zh ?_
 refine s_t ?_ (by simp)
 repeat refine zh ?_
 unfold xA.s1
 rw [show decide (r.cnt = r.cnt) = true by simp]
 exact zC h
theorem zWS {a b:Sl} {X Y:List zBQ} (hX:X.length < 100000000) (hXY:X.map zAd = Y.map zAd) (ha:∀ w,Holds B Γ w→RdC w a 5 (X.flatMap zAn)) (hb:∀ w,Holds B Γ w→RdC w b 5 (Y.flatMap zAn))
  (hva:∀ x ∈ X,∀ w,Holds B Γ w→RdB w x.2.2 x.2.1.val) (hvb:∀ x ∈ Y,∀ w,Holds B Γ w→RdB w x.2.2 x.2.1.val) (h:HG B Γ (Q true)):HG B Γ (uX.call a b Q):=fun w hw=>by
 refine zMZ _ _ _ _ ?_
 have han:=zAb zDe (by omega) (ha w hw)
 have hbn:=zAb zDe (by omega) (hb w hw)
 have hlen:X.length = Y.length:=by have:=congrArg List.length hXY; simpa using this
 refine Sep.hg hw ?_
 clear hw w
 unfold uX
 refine s_f ?_ (by simp; omega)
 refine j4 (α:=Int) (fun x=>∃ i:Nat,x = (i:Int)∧i ≤ X.length) (fun x=>X.length - x.toNat) ⟨0,rfl,Nat.zero_le _⟩ fun k' x hx hk'=>?_
 obtain ⟨i,rfl,hi⟩:=hx
 unfold uX.b1
 refine zH (fun hc=>?_) fun hc=>h
 have hil:i < X.length:=by simp only [decide_eq_true_eq] at hc; omega
 have g1:X[i]? = some X[i]:=List.getElem?_eq_getElem hil
 have g2:Y[i]? = some Y[i]:=List.getElem?_eq_getElem (by omega)
 have m1:X[i] ∈ X:=List.getElem_mem hil
 have m2:Y[i] ∈ Y:=List.getElem_mem (by omega)
 have he:zAd X[i] = zAd Y[i]:=by
  have:=congrArg (·[i]?) hXY
  simp only [List.getElem?_map,g1,g2,Option.map_some,Option.some.injEq] at this
  exact this
 generalize X[i] = x at g1 m1 he
 generalize Y[i] = y at g2 m2 he
 obtain ⟨xk,xr,xs⟩:=x
 obtain ⟨yk,yr,ys⟩:=y
 obtain ⟨rfl,rfl⟩:xk = yk∧xr = yr:=by simpa using he
 refine vk ?_
 refine zDj zAn zDe (by omega) ha g1 fun t1 ht1=>?_
 refine zDj zAn zDe (by omega) hb g2 fun t2 ht2=>?_
 refine zRn (cs:=zAn (xk,xr,xs)) (x:=xk) (fun w hw=>ht1 w (ha w hw)) rfl ?_
 refine zRn (cs:=zAn (xk,xr,ys)) (x:=xk) (fun w hw=>ht2 w (hb w hw)) rfl ?_
 refine s_f ?_ (by simp)
 refine zDj zAn zDe (by omega) ha g1 fun t3 ht3=>?_
 refine zDj zAn zDe (by omega) hb g2 fun t4 ht4=>?_
 have part:∀ {t:Addr} {z:zBQ} {s:Sl} {Z:List zBQ} {k:Array Value→K},(∀ w,RdC w s 5 (Z.flatMap zAn)→RdN w t (zAn z).toArray)→(∀ w,Holds B Γ w→RdC w s 5 (Z.flatMap zAn))→HG B Γ (k (zBv z.2.1 z.2.2).toArray)→HG B Γ (LdN (t.add 1) 4 k):=fun {t z s Z k} ht hz hk w hw=>⟨_,rfl,fun i hi=>by
  have:=ht w (hz w hw) (1 + i) (by simp at hi ⊢; omega)
  have e:(t.add 1).add i = t.add (1 + i):=by simp [Addr.add,Nat.add_assoc]
  rw [e,this]
  simp [Nat.add_comm 1 i],hk w hw⟩
 refine part (z:=(xk,xr,xs)) ht3 ha ?_
 refine part (z:=(xk,xr,ys)) ht4 hb ?_
 refine zRs (hva _ m1) (hvb _ m2) ?_
 unfold uX.s2
 refine s_f ?_
 refine qU ?_
 exact hk' _ ⟨i + 1,by simp,hil⟩ (by omega)
theorem zWT {a b:Sl} {c:Int} {X Y:OX} (hX:X.length < 100000000) (hXY:X.map Prod.fst = Y.map Prod.fst) (ha:∀ w,Holds B Γ w→RdC w a 2 (X.flatMap oF)) (hb:∀ w,Holds B Γ w→RdC w b 2 (Y.flatMap oF))
  (hva:∀ x ∈ X,∀ w,Holds B Γ w→RdB w x.2 x.1.2) (hvb:∀ x ∈ Y,∀ w,Holds B Γ w→RdB w x.2 x.1.2) (h:HG B Γ (Q true)):HG B Γ (vB.call #[.int .i64 c,a.val] #[.int .i64 c,b.val] Q):=fun w hw=>by
 refine zMY _ _ _ _ ?_
 have han:=zAb zIA (by omega) (ha w hw)
 have hbn:=zAb zIA (by omega) (hb w hw)
 have hlen:X.length = Y.length:=by have:=congrArg List.length hXY; simpa using this
 refine Sep.hg hw ?_
 clear hw w
 unfold vB
 refine zR fun a2=>?_
 refine zR fun b3=>?_
 repeat refine zh ?_
 refine s_f ?_ (by simp)
 repeat refine zh ?_
 rw [show decide ((a.n:Int) ≠ (b.n:Int)) = false by simp; omega]
 unfold vB.s1
 refine s_f ?_
 refine j4 (α:=Int) (fun x=>∃ i:Nat,x = (i:Int)∧i ≤ X.length) (fun x=>X.length - x.toNat) ⟨0,rfl,Nat.zero_le _⟩ fun k' x hx hk'=>?_
 obtain ⟨i,rfl,hi⟩:=hx
 unfold vB.b2
 repeat refine zh ?_
 refine zH (fun hc=>?_) fun hc=>zC h
 have hil:i < X.length:=by simp only [decide_eq_true_eq] at hc; omega
 have g1:X[i]? = some X[i]:=List.getElem?_eq_getElem hil
 have g2:Y[i]? = some Y[i]:=List.getElem?_eq_getElem (by omega)
 have m1:X[i] ∈ X:=List.getElem_mem hil
 have m2:Y[i] ∈ Y:=List.getElem_mem (by omega)
 have he:X[i].1 = Y[i].1:=by
  have:=congrArg (·[i]?) hXY
  simp only [List.getElem?_map,g1,g2,Option.map_some,Option.some.injEq] at this
  exact this
 generalize X[i] = x at g1 m1 he
 generalize Y[i] = y at g2 m2 he
 obtain ⟨⟨x1,x2⟩,xs⟩:=x
 obtain ⟨⟨y1,y2⟩,ys⟩:=y
 obtain ⟨rfl,rfl⟩:x1 = y1∧x2 = y2:=by simpa using he
 repeat refine zh ?_
 refine zTU oF (c:=Value.bool) (v:=x1) zIA (fun w hw=>ha w hw.drops) g1 rfl ?_
 repeat refine zh ?_
 refine zTU oF (c:=Value.bool) (v:=x1) zIA (fun w hw=>hb w hw.drops) g2 rfl ?_
 refine s_f ?_ (by simp)
 repeat refine zh ?_
 refine zHL oF (off:=1) (c:=Sl.val) (v:=xs) zIA (fun w hw=>ha w hw.drops) g1 rfl ?_
 refine zTT (xs:=x2) (fun w hw=>hva _ m1 w hw.drops) ?_
 repeat refine zh ?_
 refine zHL oF (off:=1) (c:=Sl.val) (v:=ys) zIA (fun w hw=>hb w hw.drops) g2 rfl ?_
 refine zTT (xs:=x2) (fun w hw=>hvb _ m2 w hw.drops) ?_
 unfold vB.s3
 refine s_f ?_ (by simp)
 refine qU ?_
 exact hk' _ ⟨i + 1,by simp,hil⟩ (by omega)
end
end
end Go.Proofs.YtdemfamgieonbaaGreat
namespace Go.Proofs.YtdemfamgieonbaaGreat
open Go Go.Sep Go.Sep.Bt
theorem zZi {t:TxX} {o:OpM} (h:vP t o = true):o.kind = 7∨o.key ∈ t.reads++t.writes:=by
 unfold vP at h
 split at h
 ·cases h
 split at h
 ·exact .inl (by assumption)
 split at h
 ·cases h
 ·rename_i h1
  refine .inr ?_
  by_cases h2:o.key ∈ t.writes
  ·simp [h2]
  ·by_cases h3:o.key ∈ t.reads
   ·simp [h3]
   ·exact absurd ⟨h2,.inl h3⟩ h1
section
variable {B:World} {Γ Δ:List zB} {q:Bool→K}
theorem zUW {R:WX} {x:List UInt8×(Rec×Sl)} {w:World} (hx:x ∈ R) (h:Holds B (Sep.stars (R.map wB)::Γ) w):RdB w x.2.2 x.2.1.val:=by
 obtain ⟨Δ,h2⟩:=zNI hx h
 exact zJa h2
end
end Go.Proofs.YtdemfamgieonbaaGreat
namespace Go.Proofs.YtdemfamgieonbaaGreat
open Go Go.Sep Go.RowKit
end Go.Proofs.YtdemfamgieonbaaGreat
namespace Go.Proofs.YtdemfamgieonbaaGreat
section
open Go Go.Sep
def zFP (p N:Nat):zB:=ex fun xs:List UInt8=>Sep.stars [pur (xs.length ≤ N),zHc p xs]
abbrev zFm (kind ix:Int):Prop:=kind = 1∧ix = 0∨kind = 2∧0 ≤ ix∧ix < 64
section
variable {B:World} {Γ Δ:List zB} {p N:Nat} {k Q:K}
theorem zRt (h:∀ xs,xs.length ≤ N→HG B (zHc p xs::Γ) k):HG B (zFP p N::Γ) k:=zC1 fun xs=>zBX <| zGU fun h1=>h xs h1
theorem zL6 {xs:List UInt8} (h1:xs.length ≤ N) (h:HG B (zFP p N::Γ) k):HG B (zHc p xs::Γ) k:=fun w hw=>by
 refine h w ?_
 have h3:Holds B (Sep.stars [pur (xs.length ≤ N),zHc p xs]::Γ) w:=Holds.flat.2 (Holds.pur.2 ⟨h1,hw⟩)
 exact h3.imp fun g hg=>⟨xs,hg⟩
instance (priority:=high) zaq:Sep.Own p (zFP p N::Γ) (zFP p N) Γ:=⟨.refl _⟩
theorem zFn {n:Int} (h0:0 ≤ n) (hn:n < 1180591620717411303424) (hN:N ≤ 40000000) (h:HG B (zFP p (N + 10)::Γ) Q):HG B (zFP p N::Γ) (xE.call (some ⟨p,0,none⟩) n Q):=by
 refine zRt fun xs hx=>?_
 obtain ⟨m,rfl⟩:∃ m:Nat,n = (m:Int):=⟨n.toNat,by omega⟩
 have hnl:=zGm 9 m (by simp; omega)
 refine zWI (by omega) (by omega) ?_
 exact zL6 (by simp only [List.length_append]; omega) h
theorem zL7 {b:Sl} {ys:List UInt8} {L:Nat} (hr:∀ w,Holds B Γ w→RdB w b ys) (hy:ys.length ≤ L) (hL:L ≤ 1000000) (hN:N ≤ 5000000) (h:HG B (zFP p (N + 10 + L)::Γ) Q):HG B (zFP p N::Γ) (jZ.call (some ⟨p,0,none⟩) b Q):=by
 refine zRt fun xs hx=>?_
 have hnl:=zGm 9 ys.length (by simp; omega)
 refine zXs hr (by omega) (by omega) ?_
 exact zL6 (by simp only [List.length_append]; omega) h
theorem zTb {s:Sl} {L:List Int} (hr:∀ w,Holds B Γ w→RdC w s 1 (L.map (Value.int .u64))) (hL:∀ x ∈ L,0 ≤ x∧x < 1180591620717411303424) (hl:L.length ≤ 1000) (hN:N ≤ 1000000) (h:HG B (zFP p (N + 10 * L.length)::Γ) Q):HG B (zFP p N::Γ) (zAV.call (some ⟨p,0,none⟩) s Q):=fun w hw=>by
 refine zMe _ _ _ _ ?_
 have hsn:s.n = L.length:=by have:=(hr w hw.tail).len; simpa using this.symm
 refine hg hw ?_
 clear hw w
 unfold zAV
 refine vQ (α:=Int) (ι:=Nat) (fun x i=>x = (i:Int)∧i ≤ L.length) (fun x i=>zFP p (N + 10 * i)::Γ) (fun x i=>L.length - i) 0 ⟨rfl,Nat.zero_le _⟩ ?_
 rintro k' _ i ⟨rfl,hi⟩ hk'
 unfold zAV.b1
 refine zH (fun hb=>?_) fun hb=>?_
 ·have hil:i < L.length:=by simp only [decide_eq_true_eq] at hb; omega
  have hge:L[i]? = some L[i]:=List.getElem?_eq_getElem hil
  obtain ⟨h1,h2⟩:=hL _ (List.getElem_mem hil)
  generalize L[i] = x at hge h1 h2
  refine zAA (L:=L) (fun w hw=>hr w hw.tail) hge ?_
  refine zFn h1 h2 (by omega) ?_
  refine qU ?_
  have:=hk' ((i:Int) + 1) (i + 1) ⟨by simp,hil⟩ (by omega)
  rw [show N + 10 * (i + 1) = N + 10 * i + 10 by omega] at this
  exact this
 ·have hil:i = L.length:=by simp only [decide_eq_false_iff_not] at hb; omega
  rw [hil]; exact h
theorem zQi {s:Sl} {L:List TX} (hr:∀ w,Holds B Γ w→RdC w s 1 (L.map xU)) (hL:∀ x ∈ L,x.length ≤ 200) (hl:L.length ≤ 1000) (hN:N ≤ 1000000) (h:HG B (zFP p (N + 10 + 210 * L.length)::Γ) Q):HG B (zFP p N::Γ) (jg.call (some ⟨p,0,none⟩) s Q):=fun w hw=>by
 refine zL5 _ _ _ _ ?_
 have hsn:s.n = L.length:=by have:=(hr w hw.tail).len; simpa using this.symm
 refine hg hw ?_
 clear hw w
 unfold jg
 refine zBK (zDg (by omega) (by omega)) ?_
 refine zFn (by omega) (by omega) (by omega) ?_
 refine vQ (α:=Int) (ι:=Nat) (fun x i=>x = (i:Int)∧i ≤ L.length) (fun x i=>zFP p (N + 10 + 210 * i)::Γ) (fun x i=>L.length - i) 0 ⟨rfl,Nat.zero_le _⟩ ?_
 rintro k' _ i ⟨rfl,hi⟩ hk'
 unfold jg.b1
 refine zH (fun hb=>?_) fun hb=>?_
 ·have hil:i < L.length:=by simp only [decide_eq_true_eq] at hb; omega
  have hge:L[i]? = some L[i]:=List.getElem?_eq_getElem hil
  have h1:=hL _ (List.getElem_mem hil)
  generalize L[i] = x at hge h1
  refine zAa (L:=L) (fun w hw=>hr w hw.tail) hge ?_
  refine zTa (E:=yO) (xs:=x) fun b hb=>?_
  refine zQ p ?_
  refine zL7 (L:=200) (ys:=x) (fun w hw=>(yh (s:=b) hw).1) h1 (by omega) (by omega) ?_
  refine qU ?_
  have:=hk' ((i:Int) + 1) (i + 1) ⟨by simp,hil⟩ (by omega)
  rw [show N + 10 + 210 * (i + 1) = N + 10 + 210 * i + 10 + 200 by omega] at this
  exact zC this
 ·have hil:i = L.length:=by simp only [decide_eq_false_iff_not] at hb; omega
  rw [hil]; exact h
theorem zAo (n:Int):0 ≤ IntKind.wrap .u64 n∧IntKind.wrap .u64 n < 18446744073709551616:=by
 simp only [IntKind.wrap,IntKind.signed,IntKind.bits]
 simp
 omega
theorem zUX {n:Int} {q:Int→K} (h:∀ m:Int,0 ≤ m→m < 18446744073709551616→HG B Γ (q m)):HG B Γ (zB1.call n q):=by
 refine fun w hw=>zKQ _ _ _ ?_
 refine hg hw ?_
 clear hw w
 unfold zB1
 refine zBK rfl ?_
 refine zTv (by decide) ?_
 refine zBK rfl ?_
 refine zTv (by decide) ?_
 refine zBK rfl ?_
 refine zBK rfl ?_
 refine zBK rfl ?_
 obtain ⟨h1,h2⟩:=zAo ((BitVec.ofInt IntKind.u64.bits (zMq .u64 (IntKind.wrap .u64 n) 1) ^^^ BitVec.ofInt IntKind.u64.bits (IntKind.wrap .u64 (zGK .i64 n 63))).toNat:Int)
 exact h _ h1 h2
theorem zEc {rg:Int} {t:TxX} (h:vE rg t = true):(∀ k ∈ t.reads++t.writes,k.length ≤ 16)∧(t.reads.length + t.writes.length ≤ 8)∧t.ops.length ≤ 16∧∀ x ∈ t.ops,x.1.key.length ≤ 16∧x.1.val.length ≤ 32:=by
 by_cases hk:t.kind = 2
 ·obtain ⟨ho,_⟩:=zID h hk
  unfold vE at h
  split at h
  ·cases h
  rename_i hb
  split at h
  ·cases h
  rename_i hkb
  simp only [zAJ,not_or,Nat.not_lt] at hb
  refine ⟨fun k hk=>?_,by omega,by rw [ho]; simp,by rw [ho]; simp⟩
  exact Nat.le_of_not_lt fun h=>hkb (.inl ⟨k,hk,.inr h⟩)
 ·have hops:=zNU h hk
  unfold vE at h
  split at h
  ·cases h
  rename_i hb
  split at h
  ·cases h
  rename_i hkb
  split at h
  ·cases h
  rename_i hc
  simp only [zAJ,not_or,Nat.not_lt] at hb
  simp only [not_or,Nat.not_lt] at hc
  have hks:∀ k ∈ t.reads++t.writes,k.length ≤ 16:=fun k hk=>Nat.le_of_not_lt fun h=>hkb (.inl ⟨k,hk,.inr h⟩)
  refine ⟨hks,by omega,hc.2.2,fun x hx=>?_⟩
  have hr:=hops x hx
  constructor
  ·rcases zZi hr with h7 | h7
   ·unfold vP at hr
    split at hr
    ·cases hr
    simp only [Bool.and_eq_true,decide_eq_true_eq] at hr
    rw [hr.1]; simp
   ·exact hks _ h7
  ·unfold vP at hr
   split at hr
   ·cases hr
   ·rename_i h8; omega
theorem zWU {g:ql} {t:TxX} {ms:Sl} {mks:List MkX} {rg:Int} (hrt:vE rg t = true) (hg0:0 ≤ g.epoch∧g.epoch < 18446744073709551616) (hg1:0 ≤ g.seq∧g.seq < 18446744073709551616) (hmk:∀ m ∈ mks,0 ≤ m.cnt∧m.cnt < 18446744073709551616)
  (hr:∀ w,Holds B Γ w→zCs w t) (hm:∀ w,Holds B Γ w→RdC w ms 3 (mks.flatMap mkL)) (hml:mks.length ≤ 1000) (hN:N ≤ 100000) (h:∀ N',N' ≤ N + 100000→HG B (zFP p N'::Γ) Q):HG B (zFP p N::Γ) (uI.call (some ⟨p,0,none⟩) (orV g t ms).toArray Q):=fun w hw=>by
 refine zL4 _ _ _ _ ?_
 have hmn:ms.n = mks.length:=zAb zDE (by omega) (hm w hw.tail)
 have hon:t.os.n = t.ops.length:=zAb zBL (by omega) (hr w hw.tail).2.2.1
 refine Sep.hg hw ?_
 clear hw w
 obtain ⟨k1,k2,k3,k4⟩:=zEc hrt
 unfold uI
 refine zR fun o3=>?_
 refine yD (b:=o3) (l:=orV g t ms) (x:=g.node) ?_
 refine zBK rfl ?_
 refine yD (b:=o3) (off:=1) (l:=orV g t ms) (x:=g.epoch) ?_
 refine yD (b:=o3) (off:=2) (l:=orV g t ms) (x:=g.seq) ?_
 refine yD (b:=o3) (off:=3) (l:=orV g t ms) (x:=g.tr) ?_
 refine zBK rfl ?_
 refine yD (b:=o3) (off:=4) (l:=orV g t ms) (x:=t.kind) ?_
 refine zBK rfl ?_
 refine yD (b:=o3) (off:=8) (l:=orV g t ms) (x:=t.to) ?_
 refine zBK rfl ?_
 refine zR fun t34=>?_
 have u1:=zAo g.node
 have u2:=zAo g.tr
 have u3:=zAo t.kind
 have u4:=zAo t.to
 refine zQ p ?_
 refine zTb (L:=[IntKind.wrap .u64 g.node,g.epoch,g.seq,IntKind.wrap .u64 g.tr,IntKind.wrap .u64 t.kind,IntKind.wrap .u64 t.to]) (fun w hw=>?_) ?_ (by simp) (by omega) ?_
 ·have:=zAX (B:=B) (esz:=6) (k:=6) (t:=t34) (cs:=[.int .u64 (IntKind.wrap .u64 g.node),.int .u64 g.epoch,.int .u64 g.seq,.int .u64 (IntKind.wrap .u64 g.tr),.int .u64 (IntKind.wrap .u64 t.kind),.int .u64 (IntKind.wrap .u64 t.to)]) rfl w hw
  exact ⟨by simp,fun h=>(by cases h),fun a ha i hi=>this.at' a ha i hi⟩
 ·intro x hx
  simp only [List.mem_cons,List.not_mem_nil,or_false] at hx
  rcases hx with rfl | rfl | rfl | rfl | rfl | rfl <;> omega
 refine zC (Δ:=zFP p (N + 60)::blk o3 (.cells (orV g t ms).toArray yT (0,0))::Γ) ?_
 refine yD (b:=o3) (off:=5) (l:=orV g t ms) (x:=t.rs) ?_
 refine zQi (L:=t.reads) (fun w hw=>(hr w hw.drops).1) (fun x hx=>by have:=k1 x (List.mem_append_left _ hx); omega) (by omega) (by omega) ?_
 refine yD (b:=o3) (off:=6) (l:=orV g t ms) (x:=t.ws) ?_
 refine zQi (L:=t.writes) (fun w hw=>(hr w hw.drops).2.1) (fun x hx=>by have:=k1 x (List.mem_append_right _ hx); omega) (by omega) (by omega) ?_
 refine yD (b:=o3) (off:=7) (l:=orV g t ms) (x:=t.os) ?_
 refine zBK (zDg (by omega) (by omega)) ?_
 refine zFn (by omega) (by omega) (by omega) ?_
 refine yD (b:=o3) (off:=7) (l:=orV g t ms) (x:=t.os) ?_
 generalize hN1:N + 60 + 10 + 210 * t.reads.length + 10 + 210 * t.writes.length + 10 = N1
 refine vQ (α:=Int) (ι:=Nat) (fun x i=>x = (i:Int)∧i ≤ t.ops.length) (fun x i=>zFP p (N1 + 440 * i)::blk o3 (.cells (orV g t ms).toArray yT (0,0))::Γ) (fun x i=>t.ops.length - i) 0 ⟨rfl,Nat.zero_le _⟩ ?_
 rintro k' _ i ⟨rfl,hi⟩ hk'
 unfold uI.b1
 refine zH (fun hb=>?_) fun hb=>?_
 ·have hil:i < t.ops.length:=by simp only [decide_eq_true_eq] at hb; omega
  have hge:t.ops[i]? = some t.ops[i]:=List.getElem?_eq_getElem hil
  have hmem:t.ops[i] ∈ t.ops:=List.getElem_mem hil
  generalize t.ops[i] = x at hge hmem
  obtain ⟨h1,h2⟩:=k4 x hmem
  refine zAw opF zBL (fun w hw=>(hr w hw.drops).2.2.1) hge ?_
  refine zR fun x5=>?_
  refine qX (b:=x5) (l':=opF x) ?_
  refine yD (b:=x5) (l:=opF x) (x:=x.1.kind) ?_
  refine zBK rfl ?_
  have u5:=zAo x.1.kind
  refine zQ p ?_
  refine zFn (by omega) (by omega) (by omega) ?_
  refine yD (b:=x5) (off:=1) (l:=opF x) (x:=bs x.1.key) ?_
  refine zTa (E:=yO) (xs:=x.1.key) fun b hb=>?_
  refine zQ p ?_
  refine zL7 (L:=200) (ys:=x.1.key) (fun w hw=>(yh (s:=b) hw).1) (by omega) (by omega) (by omega) ?_
  refine yD (b:=x5) (off:=2) (l:=opF x) (x:=x.2) ?_
  refine zL7 (L:=200) (ys:=x.1.val) (fun w hw=>(hr w hw.drops).2.2.2 x hmem) (by omega) (by omega) (by omega) ?_
  refine yD (b:=x5) (off:=3) (l:=opF x) (x:=x.1.n) ?_
  refine zUX fun m hm1 hm2=>?_
  refine zFn hm1 (by omega) (by omega) ?_
  refine qU ?_
  have:=hk' ((i:Int) + 1) (i + 1) ⟨by simp,hil⟩ (by omega)
  rw [show N1 + 440 * (i + 1) = N1 + 440 * i + 10 + 10 + 200 + 10 + 200 + 10 by omega] at this
  exact zC this
 ·have hil:i = t.ops.length:=by simp only [decide_eq_false_iff_not] at hb; omega
  refine yD (b:=o3) (off:=9) (l:=orV g t ms) (x:=ms) ?_
  rw [hil]
  refine zC (Δ:=zFP p (N1 + 440 * t.ops.length + 20 * 0)::Γ) ?_
  refine vQ (α:=Int) (ι:=Nat) (fun x i=>x = (i:Int)∧i ≤ mks.length) (fun x i=>zFP p (N1 + 440 * t.ops.length + 20 * i)::Γ) (fun x i=>mks.length - i) 0 ⟨rfl,Nat.zero_le _⟩ ?_
  rintro k2 _ j ⟨rfl,hj⟩ hk2
  unfold uI.b2
  refine zH (fun hb2=>?_) fun hb2=>?_
  ·have hjl:j < mks.length:=by simp only [decide_eq_true_eq] at hb2; omega
   have hge:mks[j]? = some mks[j]:=List.getElem?_eq_getElem hjl
   obtain ⟨h1,h2⟩:=hmk _ (List.getElem_mem hjl)
   generalize mks[j] = m at hge h1 h2
   refine zAw mkL zDE (fun w hw=>hm w hw.tail) hge ?_
   refine zR fun m7=>?_
   refine qX (b:=m7) (l':=mkL m) ?_
   refine yD (b:=m7) (off:=1) (l:=mkL m) (x:=m.home) ?_
   refine zBK rfl ?_
   have u5:=zAo m.home
   refine zQ p ?_
   refine zFn (by omega) (by omega) (by omega) ?_
   refine yD (b:=m7) (off:=2) (l:=mkL m) (x:=m.cnt) ?_
   refine zFn h1 (by omega) (by omega) ?_
   refine qU ?_
   have:=hk2 ((j:Int) + 1) (j + 1) ⟨by simp,hjl⟩ (by omega)
   rw [show N1 + 440 * t.ops.length + 20 * (j + 1) = N1 + 440 * t.ops.length + 20 * j + 10 + 10 by omega] at this
   exact zC this
  ·have hjl:j = mks.length:=by simp only [decide_eq_false_iff_not] at hb2; omega
   exact h _ (by omega)
theorem zPD {kind ix:Int} {g:ql} {t:TxX} {ms:Sl} {mks:List MkX} {q:Sl→Int→K} (hg0:0 ≤ g.epoch∧g.epoch < 18446744073709551616) (hg1:0 ≤ g.seq∧g.seq < 18446744073709551616) (hmk:∀ m ∈ mks,0 ≤ m.cnt∧m.cnt < 18446744073709551616)
  (hr:∀ w,Holds B Γ w→zCs w t) (hm:∀ w,Holds B Γ w→RdC w ms 3 (mks.flatMap mkL)) (hl:t.reads.length ≤ 1000∧t.writes.length ≤ 1000∧t.ops.length ≤ 1000) (hml:mks.length ≤ 1000)
  (hbad:¬ (zFm kind ix∧zDO 3 g t mks)→HG B Γ (q ⟨none,0,0⟩ 1)) (hgood:zFm kind ix→zDO 3 g t mks→∀ s,HG B Γ (q s 0)) :
  HG B Γ (yG.call (.int .i64 kind::.int .i64 ix::orV g t ms).toArray q):=by
 refine fun w hw=>zIF _ _ _ ?_
 refine hg hw ?_
 clear hw w
 unfold yG
 refine zR fun i1=>?_
 have S2:∀ b:Bool,(b = false ↔ zFm kind ix∧zDO 3 g t mks)→HG B (blk i1 (.cells (.int .i64 kind::.int .i64 ix::orV g t ms).toArray qF (0,0))::Γ) (yG.s2 q ⟨i1,0,none⟩ b):=fun b hb=>by
  unfold yG.s2
  cases b
  ·obtain ⟨hi,ho⟩:=hb.1 rfl
   refine s_f ?_
   refine zUU fun p=>?_
   refine zL6 (N:=0) (by simp) ?_
   refine yD (b:=i1) (x:=kind) ?_
   refine zBK rfl ?_
   refine yD (b:=i1) (off:=1) (x:=ix) ?_
   refine zBK rfl ?_
   refine zR fun t46=>?_
   have u1:=zAo kind
   have u2:=zAo ix
   refine zQ p ?_
   refine zTb (L:=[IntKind.wrap .u64 kind,IntKind.wrap .u64 ix]) (fun w hw=>?_) ?_ (by simp) (by omega) ?_
   ·have:=zAX (B:=B) (esz:=2) (k:=2) (t:=t46) (cs:=[.int .u64 (IntKind.wrap .u64 kind),.int .u64 (IntKind.wrap .u64 ix)]) rfl w hw
    exact ⟨by simp,fun h=>(by cases h),fun a ha i hi=>this.at' a ha i hi⟩
   ·intro x hx
    simp only [List.mem_cons,List.not_mem_nil,or_false] at hx
    rcases hx with rfl | rfl <;> omega
   refine qW (b:=i1) (off:=2) (l':=orV g t ms) ?_
   refine zWU ho.1 hg0 hg1 hmk (fun w hw=>hr w hw.drops) (fun w hw=>hm w hw.drops) hml (by simp) fun N' hN'=>?_
   refine zRt fun xs hx=>?_
   refine zXt (by simp only [List.length_cons,List.length_nil] at hN'; omega) fun s=>?_
   exact zC (hgood hi ho s)
  ·refine s_t ?_
   exact zC (hbad fun hh=>by have:=hb.2 hh; cases this)
 have S1:∀ b:Bool,(b = true ↔ zFm kind ix)→HG B (blk i1 (.cells (.int .i64 kind::.int .i64 ix::orV g t ms).toArray qF (0,0))::Γ) (yG.s1 q ⟨i1,0,none⟩ b):=fun b hb=>by
  unfold yG.s1
  cases b
  ·refine s_t ?_
   exact S2 true (by simp only [Bool.true_eq_false,false_iff]; intro hh; have:=hb.2 hh.1; cases this)
  ·refine s_f ?_
   refine qW (b:=i1) (off:=2) (l':=orV g t ms) ?_
   refine zJ8 (rg:=3) (fun w hw=>hr w hw.drops) (fun w hw=>hm w hw.drops) hl (by omega) ?_
   have hi:=hb.1 rfl
   by_cases ho:zDO 3 g t mks
   ·rw [if_pos ho]; exact S2 _ ⟨fun _=>⟨hi,ho⟩,fun _=>by simp⟩
   ·rw [if_neg ho]; exact S2 _ ⟨fun h=>by simp at h,fun h=>absurd h.2 ho⟩
 have piece:(kind ≠ 1∨ix ≠ 0)→HG B (blk i1 (.cells (.int .i64 kind::.int .i64 ix::orV g t ms).toArray qF (0,0))::Γ) (Ld ⟨i1,0,none⟩ (Value.int .i64) fun t16=>Ite (decide (t16 = 2)) (Ld ((⟨i1,0,none⟩:Addr).add 1) (Value.int .i64) fun t20=>Ite (decide ((0:Int) ≤ t20)) (Ld ((⟨i1,0,none⟩:Addr).add 1) (Value.int .i64) fun t25=>yG.s1 q ⟨i1,0,none⟩ (decide (t25 < 64))) (yG.s1 q ⟨i1,0,none⟩ false)) (yG.s1 q ⟨i1,0,none⟩ false)):=fun hn=>by
  refine yD (b:=i1) (x:=kind) ?_
  refine zH (fun h2=>?_) fun h2=>?_
  ·simp only [decide_eq_true_eq] at h2
   refine yD (b:=i1) (off:=1) (x:=ix) ?_
   refine zH (fun h3=>?_) fun h3=>?_
   ·simp only [decide_eq_true_eq] at h3
    refine yD (b:=i1) (off:=1) (x:=ix) ?_
    exact S1 _ (by simp only [decide_eq_true_eq,zFm]; omega)
   ·simp only [decide_eq_false_iff_not] at h3
    exact S1 false (by simp only [Bool.false_eq_true,false_iff,zFm]; omega)
  ·simp only [decide_eq_false_iff_not] at h2
   exact S1 false (by simp only [Bool.false_eq_true,false_iff,zFm]; omega)
 refine yD (b:=i1) (x:=kind) ?_
 refine zH (fun h1=>?_) fun h1=>?_
 ·simp only [decide_eq_true_eq] at h1
  refine yD (b:=i1) (off:=1) (x:=ix) ?_
  refine zH (fun h2=>?_) fun h2=>?_
  ·simp only [decide_eq_true_eq] at h2
   exact S1 true (by simp [zFm,h1,h2])
  ·simp only [decide_eq_false_iff_not] at h2
   exact piece (.inr h2)
 ·simp only [decide_eq_false_iff_not] at h1
  exact piece (.inl h1)
end
end
section
open Go Go.Sep Go.Sep.Bt
def wrU (n:Nat) (M:yY) (t:TxX):WM:=if (jJ n M t).2.2 = 0 then zGj (jJ n M t).1 else []
def zGE (n:Nat) (g:ql) (t:TxX) (M:yY) (G:GM×DM):yY:=if G.2 g = true then M else zBM n M (wrU n M t)
def zIH (n:Nat) (g:ql) (t:TxX) (M:yY) (G:GM×DM):GM×DM :=
 if G.2 g = true then uS g G else
 if t.kind = 2∧(jJ n M t).2.2 = 0 then uS g (zDB n (zBM n M (wrU n M t)) (t.writes.headD []) (uS g G)) else uS g G
def zGF (n:Nat) (g:ql) (t:TxX) (M:yY) (G:GM×DM):Int:=if G.2 g = true then 112 else (jJ n M t).2.2
def zMj (n:Nat) (g:ql) (t:TxX) (M:yY) (G:GM×DM):OM:=if G.2 g = true then [] else if (jJ n M t).2.2 = 0 then (jJ n M t).2.1 else []
structure SzG (T:Nat) (G:GM×DM):Prop where
 gl:G.1.length ≤ T
 gs:∀ p ∈ G.1,p.2.1.length + p.2.2.length ≤ T
theorem SzG.gsz {T:Nat} {G:GM×DM} (h:SzG T G):gsz G.1 T:=⟨h.gl,fun p hp=>by have:=h.gs p hp; omega⟩
theorem SzG.up {T T':Nat} {G:GM×DM} (h:SzG T G) (ht:T ≤ T'):SzG T' G:=⟨Nat.le_trans h.gl ht,zTN h.gs ht⟩
theorem SzG.leave {T:Nat} {G:GM×DM} (g:ql) (h:SzG T G):SzG T (uS g G):=by
 obtain ⟨a,b⟩:=zVx (tag:=g) (x:=G) h.gl h.gs
 exact ⟨a,b⟩
theorem SzG.moved {T n:Nat} {S:yY} {key:TX} {G:GM×DM} (h:SzG T G):SzG (T + 1) (zDB n S key G):=by
 obtain ⟨a,b⟩:=zVw (n:=n) (S:=S) (key:=key) (x:=G) h.gl h.gs
 exact ⟨a,zTN b (by omega)⟩
theorem SzG.enters {T n:Nat} {S:yY} {tag:ql} {L:List zEn} {G:GM×DM} (h:SzG T G):SzG (T + L.length) (zBF n S tag L G):=by
 obtain ⟨a,b⟩:=zNG (n:=n) (S:=S) (tag:=tag) L (x:=G) h.gl h.gs
 exact ⟨a,b⟩
theorem zZj {n T:Nat} {g:ql} {t:TxX} {M:yY} {G:GM×DM} (h:SzG T G):SzG (T + 1) (zIH n g t M G):=by
 unfold zIH
 split
 ·exact (h.leave g).up (by omega)
 split
 ·exact ((h.leave g).moved).leave g
 ·exact (h.leave g).up (by omega)
theorem zL8 {n:Nat} {M:yY} {t:TxX} {rg:Int} (hrt:vE rg t = true):(jJ n M t).1.length ≤ 16∧((jJ n M t).2.2 = 0→(jJ n M t).2.1.length ≤ 16∧∀ x ∈ (jJ n M t).1,x.1.length ≤ 16):=by
 obtain ⟨k1,k2,k3,k4⟩:=zEc hrt
 obtain ⟨_,g2⟩:=zXr (n:=n) (M:=M) hrt
 refine ⟨?_,fun hc=>⟨?_,fun x hx=>?_⟩⟩
 ·unfold jJ
  split
  ·have h5:=zJd (n:=n) (M:=M) (to:=t.to) (ks:=t.writes) (W:=[])
   simp only [List.length_nil] at h5
   simp only; omega
  ·have h5:=zLr (n:=n) (M:=M) (xs:=t.ops) (W:=[]) (O:=[])
   simp only [List.length_nil] at h5
   omega
 ·rw [(g2 hc).2]
  have:=List.length_filter_le zQc t.ops
  omega
 ·exact k1 _ (List.mem_append_right _ ((g2 hc).1 _ hx).1)
theorem zTc {n:Nat} {M:yY} {t:TxX} {rg:Int} (hrt:vE rg t = true):(wrU n M t).length ≤ 16∧∀ x ∈ wrU n M t,x.1.length ≤ 16:=by
 obtain ⟨h1,h2⟩:=zL8 (n:=n) (M:=M) hrt
 unfold wrU
 split
 ·rename_i hc
  refine ⟨by rw [(zDd _).length_eq]; exact h1,fun x hx=>(h2 hc).2 x ((zDd _).mem_iff.1 hx)⟩
 ·simp
abbrev sdL (st l:Nat) (a b c:Sl):List Value:=[.pointer (some ⟨st,0,none⟩),.pointer (some ⟨l,0,none⟩),a.val,b.val,c.val]
section
variable {B:World} {Γ Δ:List zB} {k:K} {sd st l n:Nat} {M:yY} {G:GM×DM} {a b c:Sl}
theorem zZk {α:Type} {a:Addr} {cs:List Value} {c:α→Value} {x:α} {k:α→K} (hn:∀ w,Holds B Γ w→RdN w (a.add 4) cs.toArray) (hv:cs[2]? = some (c x)) (h:HG B Γ (k x)):HG B Γ (Ld ((a.add 4).add 2) c k):=fun w hw=>⟨x,by
 have:=hn w hw 2 (by have:=(List.getElem?_eq_some_iff.1 hv).1; simpa using this)
 rw [this]; simpa using hv,h w hw⟩
theorem zNX {dm:DM} {M:GM} {tag:ql} {N:Nat} {Q:K} (hN:gsz M N) (hNl:N ≤ 1000000) (h:HG B (vH l (uS tag (M,dm)).1 (uS tag (M,dm)).2::Γ) Q) :
  HG B (vH l M dm::Γ) (yV.zSx (some ⟨l,0,none⟩) (qQ tag).toArray Q):=fun w hw=>zF6 _ _ _ _ (zNF hN hNl h w hw)
theorem zRu {rg:Int} {g:ql} {t:TxX} {ms:Sl} {T:Nat} {q:Array Value→K} (hrt:vE rg t = true) (hnn:∀ x ∈ t.ops,-9223372036854775808 ≤ x.1.n∧x.1.n ≤ 9223372036854775807) (hr:∀ w,Holds B Γ w→zCs w t) (hsz:SzG T G) (hT:T ≤ 900000) (hM:M.length ≤ 10000000)
  (h:∀ (os:Sl) (O:OX),O.map Prod.fst = zMj n g t M G→HG B (SlC qH 2 os (O.flatMap oF)::Sep.stars (O.map oB)::blk sd (.cells (sdL st l a b c).toArray qB (0,0))::vH l (zIH n g t M G).1 (zIH n g t M G).2::ze st n (zGE n g t M G)::Γ) (q #[.int .i64 (zGF n g t M G),os.val])) :
  HG B (blk sd (.cells (sdL st l a b c).toArray qB (0,0))::vH l G.1 G.2::ze st n M::Γ) (zx.call (some ⟨sd,0,none⟩) (orV g t ms).toArray q):=by
 refine fun w hw=>zGB _ _ _ _ ?_
 refine hg hw ?_
 clear hw w
 obtain ⟨k1,k2,k3,k4⟩:=zEc hrt
 obtain ⟨r1,r2⟩:=zL8 (n:=n) (M:=M) hrt
 obtain ⟨w1,w2⟩:=zTc (n:=n) (M:=M) hrt
 unfold zx
 refine zR fun o3=>?_
 refine zR fun t4=>?_
 refine vk ?_
 refine vg ?_
 refine yD (b:=sd) (off:=1) (l:=sdL st l a b c) (x:=some ⟨l,0,none⟩) ?_
 refine qW (b:=o3) (l:=orV g t ms) (l':=qQ g) ?_
 refine vk ?_
 refine yD (b:=sd) (off:=1) (l:=sdL st l a b c) (x:=some ⟨l,0,none⟩) ?_
 refine qW (b:=o3) (l:=orV g t ms) (l':=qQ g) ?_
 refine zQ l ?_
 refine zND ?_
 unfold zMj zIH zGF zGE at h
 by_cases hd:G.2 g = true
 ·rw [hd]
  refine s_t ?_
  simp only [hd,if_true] at h
  refine qX (b:=t4) (l':=[.int .i64 112,Sl.val ⟨none,0,0⟩]) ?_
  refine zQ l ?_
  refine zNX hsz.gsz (by omega) ?_
  show HG B (vH l (uS g G).1 (uS g G).2::_) _
  refine qW (b:=t4) (l':=[.int .i64 112,Sl.val ⟨none,0,0⟩]) ?_
  refine zC (Δ:=blk sd (.cells (sdL st l a b c).toArray qB (0,0))::vH l (uS g G).1 (uS g G).2::ze st n M::Γ) ?_
  refine fun w hw=>h ⟨none,0,0⟩ [] rfl w ?_
  exact (hw.zCv).zAk qH 2
 rw [Bool.eq_false_iff.2 hd]
 refine s_f ?_
 simp only [hd,Bool.false_eq_true,if_false] at h
 refine vk ?_
 refine zBw [blk o3 (.cells (orV g t ms).toArray yT (0,0)),blk sd (.cells (sdL st l a b c).toArray qB (0,0))] ?_
 refine u6 (b:=sd) (l:=sdL st l a b c) (x:=some ⟨st,0,none⟩) ?_
 refine zAW (b:=o3) (off:=4) (l:=orV g t ms) (l':=txL t) ?_
 have run:∀ {Ψ:List zB} {kk:Array Value→Sl→K},(∀ w,Holds B Ψ w→zCs w t) →
   (∀ (os:Sl) (O:OX) (rows:Sl) (R:WX),O.map Prod.fst = (if (jJ n M t).2.2 = 0 then (jJ n M t).2.1 else [])→qV R = wrU n M t→(∀ p ∈ R,p.2.1.ok)→HG B (SlC qH 2 os (O.flatMap oF)::Sep.stars (O.map oB)::SlC xX 5 rows (R.flatMap zHb)::Sep.stars (R.map wB)::ze st n M::Ψ) (kk #[.int .i64 (jJ n M t).2.2,os.val] rows)) →
   HG B (ze st n M::Ψ) (vJ.call (some ⟨st,0,none⟩) (txL t).toArray kk):=fun {Ψ kk} hΨ hk=>by
  refine zO7 (t:=t) ⟨fun x hx=>by have:=k1 x (List.mem_append_right _ hx); omega,fun x hx=>⟨by have:=(k4 x hx).1; omega,by have:=(k4 x hx).2; omega,hnn x hx⟩,by omega,by omega,by omega,fun x hx=>by have:=k1 x (List.mem_append_left _ hx); omega⟩ hΨ fun e os O rows R he hb hz hok=>?_
  subst he
  refine hk os O rows R ?_ ?_ hok
  ·split
   ·rename_i hc; exact (hz hc).1
   ·rename_i hc; rw [(hb hc).1]; rfl
  ·unfold wrU
   split
   ·rename_i hc; exact (hz hc).2
   ·rename_i hc; rw [(hb hc).2]; rfl
 have cont:∀ {r5:Nat} {os rows:Sl} {O:OX} {R:WX} {Ψ:List zB},O.map Prod.fst = (if (jJ n M t).2.2 = 0 then (jJ n M t).2.1 else [])→qV R = wrU n M t→(∀ p ∈ R,p.2.1.ok) →
   HG B (SlC xX 5 rows (R.flatMap zHb)::Sep.stars (R.map wB)::ze st n M::blk r5 (.cells [.int .i64 (jJ n M t).2.2,os.val].toArray xG (0,0))::SlC qH 2 os (O.flatMap oF)::Sep.stars (O.map oB)::vH l G.1 G.2::blk t4 (.cells [.int .i64 0,Sl.val ⟨none,0,0⟩].toArray xG (0,0))::blk o3 (.cells (orV g t ms).toArray yT (0,0))::blk sd (.cells (sdL st l a b c).toArray qB (0,0))::Γ) (zx.s1 q ⟨sd,0,none⟩ ⟨o3,0,none⟩ ⟨t4,0,none⟩ ⟨r5,0,none⟩ rows (some ⟨l,0,none⟩) (qQ g).toArray):=fun {r5 os rows O R Ψ} hO hR hok=>by
  have hRl:R.length = (wrU n M t).length:=by rw [← hR]; simp [qV]
  unfold zx.s1
  refine yD (b:=sd) (l:=sdL st l a b c) (x:=some ⟨st,0,none⟩) ?_
  refine zQ st ?_
  refine zV9 (R:=R) (fun w hw=>(yh (s:=rows) hw).1) (fun x hx w hw=>zUW (Γ:=[]) hx hw.drops) (fun x hx=>⟨by
   have:(x.1,x.2.1) ∈ qV R:=List.mem_map.2 ⟨x,hx,rfl⟩
   rw [hR] at this
   have:=w2 _ this
   simp only at this; omega,hok x hx⟩) (by omega) ?_
  rw [hR]
  have S2:∀ {G':GM×DM},SzG (T + 1) G'→(uS g G') = (if t.kind = 2∧(jJ n M t).2.2 = 0 then uS g (zDB n (zBM n M (wrU n M t)) (t.writes.headD []) (uS g G)) else uS g G) →
    HG B (blk r5 (.cells [.int .i64 (jJ n M t).2.2,os.val].toArray xG (0,0))::SlC qH 2 os (O.flatMap oF)::Sep.stars (O.map oB)::vH l G'.1 G'.2::blk t4 (.cells [.int .i64 0,Sl.val ⟨none,0,0⟩].toArray xG (0,0))::blk sd (.cells (sdL st l a b c).toArray qB (0,0))::ze st n (zBM n M (wrU n M t))::Γ) (zx.s2 q ⟨t4,0,none⟩ ⟨r5,0,none⟩ (some ⟨l,0,none⟩) (qQ g).toArray):=fun {G'} hG' he=>by
   unfold zx.s2
   refine qW (b:=r5) (l':=[.int .i64 (jJ n M t).2.2,os.val]) ?_
   refine qX (b:=t4) (l':=[.int .i64 (jJ n M t).2.2,os.val]) ?_
   refine zQ l ?_
   refine zNX hG'.gsz (by omega) ?_
   show HG B (vH l (uS g G').1 (uS g G').2::_) _
   refine qW (b:=t4) (l':=[.int .i64 (jJ n M t).2.2,os.val]) ?_
   have h1:=h os O hO
   rw [← he] at h1
   exact zC h1
  refine yD (b:=o3) (off:=4) (l:=orV g t ms) (x:=t.kind) ?_
  have S3:∀ {bb:Bool},(bb = true ↔ t.kind = 2∧(jJ n M t).2.2 = 0)→HG B (ze st n (zBM n M (wrU n M t))::blk r5 (.cells [.int .i64 (jJ n M t).2.2,os.val].toArray xG (0,0))::SlC qH 2 os (O.flatMap oF)::Sep.stars (O.map oB)::vH l G.1 G.2::blk t4 (.cells [.int .i64 0,Sl.val ⟨none,0,0⟩].toArray xG (0,0))::blk o3 (.cells (orV g t ms).toArray yT (0,0))::blk sd (.cells (sdL st l a b c).toArray qB (0,0))::Γ) (zx.s3 q ⟨sd,0,none⟩ ⟨o3,0,none⟩ ⟨t4,0,none⟩ ⟨r5,0,none⟩ (some ⟨l,0,none⟩) (qQ g).toArray bb):=fun {bb} hbb=>by
   unfold zx.s3
   cases bb
   ·have hn:¬ (t.kind = 2∧(jJ n M t).2.2 = 0):=fun hh=>by have:=hbb.2 hh; cases this
    refine s_f ?_
    exact zC (S2 (G':=G) (hsz.up (by omega)) (by rw [if_neg hn]))
   ·have hy:=hbb.1 rfl
    refine s_t ?_
    obtain ⟨_,key,hkey⟩:=zID hrt hy.1
    refine vk ?_
    refine yD (b:=sd) (off:=1) (l:=sdL st l a b c) (x:=some ⟨l,0,none⟩) ?_
    refine qW (b:=o3) (l:=orV g t ms) (l':=qQ g) ?_
    refine zQ l ?_
    refine zVs hsz.gsz (by omega) ?_
    show HG B (vH l (uS g G).1 (uS g G).2::_) _
    refine vk ?_
    refine yD (b:=sd) (off:=1) (l:=sdL st l a b c) (x:=some ⟨l,0,none⟩) ?_
    refine yD (b:=sd) (l:=sdL st l a b c) (x:=some ⟨st,0,none⟩) ?_
    refine zZk (cs:=txL t) (x:=t.ws) (fun w hw=>?_) rfl ?_
    ·exact zWQ (b:=o3) (off:=4) (l:=orV g t ms) (n:=5) hw
    refine zAa (L:=t.writes) (j:=0) (x:=key) (fun w hw=>(hr w (hw.drops (Δ:=Γ))).2.1) (by rw [hkey]; rfl) ?_
    refine zQ st ?_
    refine zQ l ?_
    refine zVu (N:=T) (by have:=k1 key (List.mem_append_right _ (by rw [hkey]; simp)); omega) (hsz.leave g).gsz (by omega) ?_
    show HG B (vH l (zDB n (zBM n M (wrU n M t)) key (uS g G)).1 (zDB n (zBM n M (wrU n M t)) key (uS g G)).2::_) _
    refine zC (S2 (G':=zDB n (zBM n M (wrU n M t)) key (uS g G)) ((hsz.leave g).moved) ?_)
    rw [if_pos hy,hkey]; rfl
  refine zH (fun h1=>?_) fun h1=>?_
  ·have hk:t.kind = 2:=by simpa using h1
   refine yD (b:=r5) (l:=[.int .i64 (jJ n M t).2.2,os.val]) (x:=(jJ n M t).2.2) ?_
   exact zC (S3 (by simp [hk]))
  ·have hk:t.kind ≠ 2:=by simpa using h1
   exact zC (S3 (by simp [hk]))
 refine zJK ?_ ?_
 ·refine zQ st ?_
  refine run (fun w hw=>hr w hw.drops) fun os O rows R hO hR hok=>?_
  refine zR fun r5=>?_
  refine qX (b:=r5) (l':=[.int .i64 (jJ n M t).2.2,os.val]) ?_
  exact zC (cont (os:=os) (Ψ:=[]) hO hR hok)
 ·refine zR fun r5=>?_
  refine zBC ?_
  refine zQ st ?_
  refine run (fun w hw=>hr w hw.drops) fun os O rows R hO hR hok=>?_
  refine qX (b:=r5) (l':=[.int .i64 (jJ n M t).2.2,os.val]) ?_
  exact zC (cont (os:=os) (Ψ:=[]) hO hR hok)
end
end
section
open Go Go.Sep Go.Sep.Bt
section
variable {B:World} {Γ Δ:List zB} {k:K} {st sd n:Nat} {M:yY} {P:Pool}
end
end
section
open Go.Proofs Go.Shelf
def zWV:Go.Shelf.Ren:=⟨fun | 5=>50 | 7=>87 | 8=>88 | 10=>135 | 11=>136 | 12=>137 | 13=>138 | 14=>139 | 15=>140 | 16=>141 | 17=>142 | 18=>143 | 19=>144 | 20=>145 | 30=>184 | 31=>185 | 32=>186 | 33=>187 | 34=>188 | 35=>189 | 40=>213 | n=>n,fun | 0=>0 | 3=>3 | 4=>4 | 5=>5 | 9=>9 | 22=>42 | 23=>42 | 25=>3 | 32=>204 | 35=>264 | 36=>265 | 41=>270 | 44=>273 | 46=>33 | 53=>308 | 57=>312 | 63=>339 | 64=>340 | n=>n,fun | n=>n⟩
theorem zQj:Go.Proofs.SlLaysM.n5 Tryz.prog zWV:={
 mixed:=by kernel_rfl
 f5:=⟨Tryz.f50.name,by decide,Tryz.func50.trans (congrArg some (by kernel_rfl))⟩
 f7:=⟨Tryz.f87.name,by decide,Tryz.func87.trans (congrArg some (by kernel_rfl))⟩
 f8:=Tryz.func88.trans (congrArg some (by kernel_rfl))
 f10:=⟨Tryz.f135.name,by decide,Tryz.func135.trans (congrArg some (by kernel_rfl))⟩
 f11:=⟨Tryz.f136.name,by decide,Tryz.func136.trans (congrArg some (by kernel_rfl))⟩
 f12:=⟨Tryz.f137.name,by decide,Tryz.func137.trans (congrArg some (by kernel_rfl))⟩
 f13:=⟨Tryz.f138.name,by decide,Tryz.func138.trans (congrArg some (by kernel_rfl))⟩
 f14:=⟨Tryz.f139.name,by decide,Tryz.func139.trans (congrArg some (by kernel_rfl))⟩
 f15:=⟨Tryz.f140.name,by decide,Tryz.func140.trans (congrArg some (by kernel_rfl))⟩
 f16:=⟨Tryz.f141.name,by decide,Tryz.func141.trans (congrArg some (by kernel_rfl))⟩
 f17:=⟨Tryz.f142.name,by decide,Tryz.func142.trans (congrArg some (by kernel_rfl))⟩
 f18:=⟨Tryz.f143.name,by decide,Tryz.func143.trans (congrArg some (by kernel_rfl))⟩
 f19:=Tryz.func144.trans (congrArg some (by kernel_rfl))
 f20:=Tryz.func145.trans (congrArg some (by kernel_rfl))
 f30:=⟨Tryz.f184.name,by decide,Tryz.func184.trans (congrArg some (by kernel_rfl))⟩
 f31:=Tryz.func185.trans (congrArg some (by kernel_rfl))
 f32:=Tryz.func186.trans (congrArg some (by kernel_rfl))
 f33:=⟨Tryz.f187.name,by decide,Tryz.func187.trans (congrArg some (by kernel_rfl))⟩
 f34:=⟨Tryz.f188.name,by decide,Tryz.func188.trans (congrArg some (by kernel_rfl))⟩
 f35:=⟨Tryz.f189.name,by decide,Tryz.func189.trans (congrArg some (by kernel_rfl))⟩
 f40:=⟨Tryz.f213.name,by decide,Tryz.func213.trans (congrArg some (by kernel_rfl))⟩
 t0:=Tryz.underlying0
 a0:=Tryz.isAgg0
 z0:=Tryz.sizeOf0
 v0:=Tryz.zeroValue0
 t3:=Tryz.underlying3
 a3:=Tryz.isAgg3
 z3:=Tryz.sizeOf3
 v3:=Tryz.zeroValue3
 t4:=Tryz.underlying4
 a4:=Tryz.isAgg4
 z4:=Tryz.sizeOf4
 v4:=Tryz.zeroValue4
 t5:=Tryz.underlying5
 a5:=Tryz.isAgg5
 z5:=Tryz.sizeOf5
 v5:=Tryz.zeroValue5
 t9:=Tryz.underlying9
 a9:=Tryz.isAgg9
 z9:=Tryz.sizeOf9
 v9:=Tryz.zeroValue9
 t22:=Tryz.underlying42
 a22:=Tryz.isAgg42
 z22:=Tryz.sizeOf42
 v22:=Tryz.zeroValue42
 t23:=Tryz.underlying42
 a23:=Tryz.isAgg42
 z23:=Tryz.sizeOf42
 v23:=Tryz.zeroValue42
 t25:=Tryz.underlying3
 a25:=Tryz.isAgg3
 z25:=Tryz.sizeOf3
 v25:=Tryz.zeroValue3
 t32:=Tryz.underlying204
 a32:=Tryz.isAgg204
 z32:=Tryz.sizeOf204
 v32:=Tryz.zeroValue204
 t35:=Tryz.underlying264
 a35:=Tryz.isAgg264
 z35:=Tryz.sizeOf264
 v35:=Tryz.zeroValue264
 t36:=Tryz.underlying265
 a36:=Tryz.isAgg265
 z36:=Tryz.sizeOf265
 v36:=Tryz.zeroValue265
 t41:=Tryz.underlying270
 a41:=Tryz.isAgg270
 z41:=Tryz.sizeOf270
 v41:=Tryz.zeroValue270
 t44:=Tryz.underlying273
 a44:=Tryz.isAgg273
 z44:=Tryz.sizeOf273
 v44:=Tryz.zeroValue273
 t46:=Tryz.underlying33
 a46:=Tryz.isAgg33
 z46:=Tryz.sizeOf33
 v46:=Tryz.zeroValue33
 t53:=Tryz.underlying308
 a53:=Tryz.isAgg308
 z53:=Tryz.sizeOf308
 v53:=Tryz.zeroValue308
 t57:=Tryz.underlying312
 a57:=Tryz.isAgg312
 z57:=Tryz.sizeOf312
 v57:=Tryz.zeroValue312
 t63:=Tryz.underlying339
 a63:=Tryz.isAgg339
 z63:=Tryz.sizeOf339
 v63:=Tryz.zeroValue339
 t64:=Tryz.underlying340
 a64:=Tryz.isAgg340
 z64:=Tryz.sizeOf340
 v64:=Tryz.zeroValue340
}
end
section
open Go Go.Sep
abbrev zDs (ss:List Int):List Int:=ss.mergeSort fun x y=>decide (x ≤ y)
section
variable {B w:World} {Γ:List zB}
theorem zI8 {s:Sl} {ss:List Int} {k:K} (hl:ss.length ≤ 1000000) (h:Holds B (SlC zAs 1 s (ss.map (Value.int .i64))::Γ) w) (hk:∀ w,Holds B (SlC zAs 1 s ((zDs ss).map (Value.int .i64))::Γ) w→k w):zAY.call s k w:=by
 have hsc:=h.zLN
 have hn:ss.length = s.n:=by have:=hsc.1; simpa using this
 unfold zAY.call zK
 cases ha:s.a with
 | none=>
  have hs0:s.n = 0:=by have:=hsc.2.2.2 ha; omega
  have hss:ss = []:=List.length_eq_zero_iff.1 (by omega)
  subst hss
  have h1:=AnyM.slices_Sort_int_none zQj none s.c w
  have e:[Sl.val s].toArray = #[.slice none 0 s.c]:=by
   show #[Value.slice s.a s.n s.c] = _
   rw [ha,hs0]
  rw [e]
  refine Calls.mono h1 fun e w' he=>?_
  obtain ⟨rfl,rfl⟩:=he
  exact ⟨rfl,hk _ (by simpa [zDs] using h)⟩
 | some a=>
  obtain ⟨cs,fz,h,hsp,hf,hsz,hr,hlen,hc⟩:=zLO h ha
  obtain ⟨b,off,sp⟩:=a
  simp only at hsp
  subst hsp
  simp only at h hf hsz hr
  have hb:=h.block
  have hH:Sort.Holds (Value.int .i64) w b off ss.toArray:=fun j hj=>by
   simp only [List.size_toArray] at hj
   have h1:=hr j (by simpa using hj)
   constructor
   ·refine vI hb ?_
    rw [h1,List.getElem?_map,List.getElem?_eq_getElem hj]
    simp [getElem!_pos,hj]
   ·exact zAf hb (hf _ (by omega) (by omega))
  have h1:=AnyM.slices_Sort_int zQj b off s.c ss w hH (Array.getElem?_eq_some_iff.1 hb).1 (by omega)
  have e:[Sl.val s].toArray = #[.slice (some ⟨b,off,none⟩) ss.length s.c]:=by
   show #[Value.slice s.a s.n s.c] = _
   rw [ha,hn]
  rw [e]
  refine Calls.mono h1 fun e w' he=>?_
  obtain ⟨rfl,n,os,rfl⟩:=he
  refine ⟨rfl,hk _ ?_⟩
  have h2:Holds B (blk b (.cells cs zAs fz)::Γ) (Sort.ahead w n):=h.drew _
  have h3:=h2.setBlock (o':=.cells (Sort.putCells (Value.int .i64) off (zDs ss).toArray cs) zAs fz) rfl
  have e2:({ (Sort.ahead w n) with heap:=(Sort.ahead w n).heap.setIfInBounds b (.cells (Sort.putCells (Value.int .i64) off (zDs ss).toArray cs) zAs fz) }:World) = Sort.putRow (Value.int .i64) (Sort.ahead w n) b off (zDs ss).toArray:=by
   have harr:(Sort.ahead w n).heap.setIfInBounds b (.cells (Sort.putCells (Value.int .i64) off (zDs ss).toArray cs) zAs fz) = (Sort.ahead w n).heap.modify b (Sort.onCells (Sort.putCells (Value.int .i64) off (zDs ss).toArray)):=by
    apply Array.ext_getElem?
    intro i
    rw [Array.getElem?_modify]
    by_cases hi:b = i
    ·subst hi
     rw [if_pos rfl,h2.block,Array.getElem?_setIfInBounds_self_of_lt (Array.getElem?_eq_some_iff.1 h2.block).1]
     rfl
    ·rw [if_neg hi,Array.getElem?_setIfInBounds_ne hi]
   unfold Sort.putRow Sort.mapBlock
   rw [← harr]
  rw [e2] at h3
  have h4:=holds_grow h3 os
  have hsl:(zDs ss).length = ss.length:=by simp [zDs]
  refine zLP (a:=⟨b,off,none⟩) ha h4 ⟨rfl,hf,?_,fun i hi=>?_,by rw [List.length_map,hsl]; simpa using hlen,hc⟩
  ·have:(Sort.putCells (Value.int .i64) off (zDs ss).toArray cs).size = cs.size:=by simp [Sort.putCells]
   rw [this]; exact hsz
  ·simp only [List.length_map] at hi
   unfold Sort.putCells
   rw [Array.getElem?_mapIdx]
   have hlt:off + i < cs.size:=by omega
   rw [Array.getElem?_eq_getElem hlt,Option.map_some,if_pos (by simp; omega),List.getElem?_map,List.getElem?_eq_getElem hi,Option.map_some,Nat.add_sub_cancel_left,getElem!_pos (zDs ss).toArray i (by simpa using hi)]
   simp
end
end
section
open Go Go.Sep
abbrev SlI (s:Sl) (L:List Int):zB:=SlC zAs 1 s (L.map (Value.int .i64))
section
variable {B:World} {Γ Δ:List zB} {k:K}
theorem zQk {s:Sl} {L:List Int} {Q:Sl→K} (hL:L.length < 100000000) (h:∀ s',HG B (SlI s' (uD L)::Γ) (Q s')):HG B (SlI s L::Γ) (zo.call s Q):=by
 refine fun w hw=>zEK _ _ _ ?_
 refine hg hw ?_
 clear hw w
 unfold zo
 refine yS s fun a1 a2 a3 a4=>?_
 rw [List.length_map,Nat.mul_one] at a1
 refine zH (fun hb=>?_) fun hb=>?_
 ·have e:uD L = L:=by
   match L,a1 with
   | [],_=>rfl
   | [x],_=>rfl
   | x::y::L,a1=>simp only [List.length_cons] at a1; simp only [decide_eq_true_eq] at hb; omega
  rw [e] at h
  exact h s
 have hn2:2 ≤ L.length:=by simp only [decide_eq_false_iff_not] at hb; omega
 refine j4 (α:=Int) (fun x=>∃ i:Nat,x = (i:Int)∧1 ≤ i∧i ≤ L.length∧uD (L.take i) = L.take i) (fun x=>L.length - x.toNat) ⟨1,rfl,Nat.le_refl _,by omega,?_⟩ fun k' x hx hk'=>?_
 ·match L,hn2 with
  | x::L,_=>simp [uD]
 obtain ⟨i,rfl,hi1,hi,hc⟩:=hx
 unfold zo.b1
 refine zH (fun hb2=>?_) fun hb2=>?_
 rotate_left
 ·have hil:i = L.length:=by simp only [decide_eq_false_iff_not] at hb2; omega
  rw [hil,List.take_length] at hc
  rw [hc] at h
  exact h s
 have hil:i < L.length:=by simp only [decide_eq_true_eq] at hb2; omega
 obtain ⟨j,rfl⟩:∃ j,i = j + 1:=⟨i - 1,by omega⟩
 have step:∀ m,m + 1 < L.length→uD (L.take (m + 2)) = if L[m + 1]? = L[m]? then uD (L.take (m + 1)) else uD (L.take (m + 1))++L[m + 1]?.toList:=fun m hm=>by
  have t1:L.take (m + 2) = L.take m++[L[m],L[m + 1]]:=by rw [List.take_succ_eq_append_getElem hm,List.take_succ_eq_append_getElem (by omega),List.append_assoc]; rfl
  have t2:L.take (m + 1) = L.take m++[L[m]]:=List.take_succ_eq_append_getElem (by omega)
  rw [t1,t2,zFf,List.getElem?_eq_getElem hm,List.getElem?_eq_getElem (show m < L.length by omega)]
  simp
 obtain ⟨a,ha⟩:∃ a,L[j + 1]? = some a:=⟨_,List.getElem?_eq_getElem hil⟩
 obtain ⟨b,hb'⟩:∃ b,L[j]? = some b:=⟨_,List.getElem?_eq_getElem (by omega)⟩
 refine vk ?_
 refine zAA (c:=Value.int .i64) (L:=L) (j:=j + 1) (fun w hw=>(yh (s:=s) hw).1) ha ?_ rfl
 refine qU ?_
 refine zAA (c:=Value.int .i64) (L:=L) (j:=j) (fun w hw=>(yh (s:=s) hw).1) hb' ?_ (by omega)
 have hst:=step j hil
 rw [ha,hb'] at hst
 refine zH (fun he=>?_) fun he=>?_
 rotate_left
 ·have hne:¬ some a = some b:=by simpa using he
  rw [if_neg hne] at hst
  refine qU ?_
  refine hk' _ ⟨j + 2,by simp; omega,by omega,hil,?_⟩ (by omega)
  rw [hst,hc,List.take_succ_eq_append_getElem hil]
  rw [List.getElem?_eq_getElem hil] at ha
  rw [Option.some.inj ha]; rfl
 have hab:some a = some b:=by simpa using he
 rw [if_pos hab,hc] at hst
 refine zAC (lo:=j + 1) (hi:=s.n) (mx:=s.c) ?_
 refine vQ (α:=Int×Int) (ι:=Nat×Nat×List Int) (fun y i=>y.1 = (i.1:Int)∧y.2 = (i.2.1:Int)∧1 ≤ i.2.1∧j + 1 + i.2.1 ≤ L.length∧i.1 < j + 1 + i.2.1∧i.2.2.length = L.length∧i.2.2.drop (j + i.2.1) = L.drop (j + i.2.1)∧i.2.2.take i.1 = uD (L.take (j + 1 + i.2.1)))
  (fun y i=>SlI s i.2.2::Γ) (fun y i=>L.length - i.2.1) (j + 1,1,L) ⟨rfl,rfl,Nat.le_refl _,by simp only; omega,by simp only; omega,rfl,rfl,hst.symm⟩ ?_
 rintro k2 ⟨_,_⟩ ⟨p,q,M⟩ ⟨rfl,rfl,hq1,hq,hpq,hM,hd,ht⟩ hk2
 simp only at hq1 hq hpq hM hd ht hk2 ⊢
 unfold zo.b2
 simp only
 refine yS s fun d1 d2 d3 d4=>?_
 rw [List.length_map,Nat.mul_one] at d1
 refine zH (fun hb3=>?_) fun hb3=>?_
 ·have hql:j + 1 + q < L.length:=by simp only [decide_eq_true_eq] at hb3; omega
  obtain ⟨x,hx⟩:∃ x,L[j + 1 + q]? = some x:=⟨_,List.getElem?_eq_getElem hql⟩
  obtain ⟨y,hy⟩:∃ y,L[j + q]? = some y:=⟨_,List.getElem?_eq_getElem (by omega)⟩
  have hMx:M[j + 1 + q]? = some x:=by
   have:=congrArg (·[1]?) hd
   simp only [List.getElem?_drop] at this
   rw [show j + q + 1 = j + 1 + q by omega] at this
   rw [this,hx]
  have hMy:M[j + q]? = some y:=by
   have:=congrArg (·[0]?) hd
   simp only [List.getElem?_drop,Nat.add_zero] at this
   rw [this,hy]
  have hrd:∀ w,Holds B (SlI s M::Γ) w→RdC w ⟨zBj s.a (j + 1) s.c 1,s.n - (j + 1),s.c - (j + 1)⟩ 1 ((M.drop (j + 1)).map (Value.int .i64)):=fun w hw=>by
   have:=(yh (s:=s) hw).1.drop (l:=j + 1) (c:=s.c) (by omega) d2 d3
   rwa [Nat.mul_one,← List.map_drop] at this
  have hst2:=step (j + q) (by omega)
  rw [show j + q + 1 = j + 1 + q by omega,hx,hy,show j + q + 2 = j + 1 + (q + 1) by omega] at hst2
  refine vk ?_
  refine zAA (c:=Value.int .i64) (L:=M.drop (j + 1)) (j:=q) hrd (by rw [List.getElem?_drop]; exact hMx) ?_ rfl
  refine qU ?_
  refine zAA (c:=Value.int .i64) (L:=M.drop (j + 1)) (j:=q - 1) hrd (by rw [List.getElem?_drop,show j + 1 + (q - 1) = j + q by omega]; exact hMy) ?_ (by omega)
  unfold zo.s3
  refine zH (fun he2=>?_) fun he2=>?_
  ·have hne:¬ some x = some y:=by simpa using he2
   rw [if_neg hne] at hst2
   refine zAA (c:=Value.int .i64) (L:=M.drop (j + 1)) (j:=q) hrd (by rw [List.getElem?_drop]; exact hMx) ?_ rfl
   refine vZ (s:=s) (i:=p) ?_
   rw [← add0 (elA s p 1)]
   refine zPx (s:=s) ?_ (by simp; omega)
   rw [show p * 1 + 0 = p by omega,show Value.int .i64 x = (Value.int .i64) x from rfl,← List.map_set]
   refine qU ?_
   refine qU ?_
   refine hk2 _ (p + 1,q + 1,M.set p x) ⟨by simp,by simp,by simp only; omega,by simp only; omega,by simp only; omega,by simpa using hM,?_,?_⟩ (by simp only; omega)
   ·simp only
    rw [List.drop_set_of_lt (by omega),show j + (q + 1) = (j + q) + 1 by omega,← List.drop_drop,hd,List.drop_drop]
   ·simp only
    rw [zIv (by omega),ht,hst2]; rfl
  ·have heq:some x = some y:=by simpa using he2
   rw [if_pos heq] at hst2
   refine qU ?_
   refine hk2 _ (p,q + 1,M) ⟨rfl,by simp,by simp only; omega,by simp only; omega,by simp only; omega,hM,?_,?_⟩ (by simp only; omega)
   ·simp only
    rw [show j + (q + 1) = (j + q) + 1 by omega,← List.drop_drop,hd,List.drop_drop]
   ·simp only
    rw [ht,hst2]
 ·have hql:j + 1 + q = L.length:=by simp only [decide_eq_false_iff_not] at hb3; omega
  rw [hql,List.take_length] at ht
  refine zAC (lo:=p) (hi:=s.n) (mx:=s.c) ?_
  refine zCL (s:=s) (m:=p) (c':=s.c) (by omega) (by omega) (Nat.le_refl _) ?_
  rw [show (M.map (Value.int .i64)).take (p * 1) = (uD L).map (Value.int .i64) by rw [Nat.mul_one,← List.map_take,ht]]
  refine zIl (s:=⟨s.a,p,s.c⟩) (l:=p) (q:=s.n - p) (m:=s.c) rfl (Nat.le_refl _) (by simp only; omega) (by omega) ?_
  refine zAC (lo:=0) (hi:=p) (mx:=s.c) ?_
  rw [zJJ d3]
  exact h ⟨s.a,p,s.c⟩
def xS (L:List MkX):List Int:=uD (zDs (if L.length = 0 then [0] else L.map MkX.home))
theorem zHM (L:List Int):(zDs L).length = L.length:=(List.mergeSort_perm L _).length_eq
theorem zGq {ms:Sl} {L:List MkX} {pre:List Value} {Q:Sl→K} (hpre:pre.length = 9) (hr:∀ w,Holds B Γ w→RdC w ms 3 (L.flatMap mkL)) (hL:L.length ≤ 1000) (h:∀ s,HG B (SlI s (xS L)::Γ) (Q s)):HG B Γ (qo.call (pre++[ms.val]).toArray Q):=fun w hw=>by
 refine zL2 _ _ _ ?_
 have hn:ms.n = L.length:=zAb zDE (by omega) (hr w hw)
 refine Sep.hg hw ?_
 clear hw w
 unfold qo
 refine zR fun o1=>?_
 refine yD (b:=o1) (x:=ms) ?_ (by rw [zAq,List.getElem?_append_right (by omega),hpre]; rfl)
 refine zC (Δ:=Γ) ?_
 have fin:∀ (s:Sl) (H:List Int),H = (if L.length = 0 then [0] else L.map MkX.home)→H.length ≤ 1001→HG B (SlI s H::Γ) (qo.s2 Q (fun _ _=>Q s) s):=fun s H hH hl=>by
  unfold qo.s2
  refine fun w hw=>zI8 (by omega) hw fun w hw=>?_
  refine Sep.hg hw ?_
  clear hw w
  refine zQk (by rw [zHM]; omega) fun s'=>?_
  have:=h s'
  unfold xS at this
  rw [← hH] at this
  exact this
 refine zWN (E:=zAs) (esz:=1) (vs:=([]:List Int).map (Value.int .i64)) ?_
 refine vQ (α:=Sl×Int) (ι:=Nat) (fun x i=>x.2 = (i:Int)∧i ≤ L.length) (fun x i=>SlI x.1 ((L.take i).map MkX.home)::Γ) (fun x i=>L.length - i) 0 ⟨rfl,Nat.zero_le _⟩ ?_
 rintro k' ⟨o,_⟩ i ⟨rfl,hi⟩ hk'
 simp only at hi hk' ⊢
 refine yS o fun b1 b2 b3 b4=>?_
 rw [List.length_map,List.length_map,List.length_take] at b1
 unfold qo.b1
 refine zH (fun hb=>?_) fun hb=>?_
 ·have hil:i < L.length:=by simp only [decide_eq_true_eq] at hb; omega
  have hge:L[i]? = some L[i]:=List.getElem?_eq_getElem hil
  have htk:L.take (i + 1) = L.take i++[L[i]]:=List.take_succ_eq_append_getElem hil
  generalize L[i] = m at hge htk
  refine zAw mkL zDE (fun w hw=>hr w hw.drops) hge ?_
  refine zR fun m4=>?_
  repeat refine zh ?_
  refine zOZ (s:=o) (m:=1) (us:=[.int .i64 m.home]) (fun o2 ho2=>?_)
  refine qU ?_
  rw [show ((L.take i).map MkX.home).map (Value.int .i64)++[.int .i64 m.home] = ((L.take (i + 1)).map MkX.home).map (Value.int .i64) by rw [htk]; simp]
  exact zC (hk' (o2,(i:Int) + 1) (i + 1) ⟨by simp,hil⟩ (by omega))
 ·have hil:i = L.length:=by simp only [decide_eq_false_iff_not] at hb; omega
  rw [hil,List.take_length]
  have fin2:∀ (X1:Sl→Int→K) (s:Sl) (H:List Int),H = (if L.length = 0 then [0] else L.map MkX.home)→H.length ≤ 1001→HG B (SlI s H::Γ) (qo.s2 Q X1 s):=fun X1 s H hH hl=>by
   have:=fin s H hH hl
   unfold qo.s2 at this ⊢
   exact this
  refine zH (fun hc=>?_) fun hc=>?_
  ·have h0:L.length = 0:=by simp only [decide_eq_true_eq] at hc; omega
   refine zR fun t21=>?_
   refine zCh (A':=SlI ⟨some ⟨t21,0,none⟩,1,1⟩ [0]) (zEI (vs:=[.int .i64 0]) rfl (by simp)) ?_
   exact zC (fin2 _ _ [0] (by rw [if_pos h0]) (by simp))
  ·have h0:L.length ≠ 0:=by simp only [decide_eq_false_iff_not] at hc; omega
   exact fin2 _ o _ (by rw [if_neg h0]) (by rw [List.length_map]; omega)
theorem zJl {a b c d:Int} {t:TxX} {ms:Sl} {L:List MkX} {Q:Bool→K} (hr:∀ w,Holds B Γ w→RdC w ms 3 (L.flatMap mkL)) (hL:L.length ≤ 1000) (h:HG B Γ (Q (decide (t.kind = 1) && decide ((xS L).length = 1)))):HG B Γ (vw.call (orL a b c d t ms).toArray Q):=fun w hw=>by
 refine zKP _ _ _ ?_
 refine Sep.hg hw ?_
 clear hw w
 unfold vw
 refine zR fun o1=>?_
 repeat refine zh ?_
 unfold vw.s1
 refine zH (fun hb=>?_) fun hb=>?_
 ·repeat refine zh ?_
  refine zGq (pre:=[.int .i64 a,.int .u64 b,.int .u64 c,.int .i64 d,.int .i64 t.kind,t.rs.val,t.ws.val,t.os.val,.int .i64 t.to]) (L:=L) rfl (fun w hw=>hr w hw.drops) hL fun s=>?_
  refine yS s fun b1 b2 b3 b4=>?_
  rw [List.length_map,Nat.mul_one] at b1
  rw [hb,Bool.true_and] at h
  rw [show decide ((s.n:Int) = 1) = decide ((xS L).length = 1) from decide_eq_decide.2 (by omega)]
  exact zC h
 ·rw [hb,Bool.false_and] at h
  exact zC h
end
end
section
open Go Go.Sep
structure zHk where
 last:Int
 seen:List ql
structure zXx (S:List ql) (N:Nat) (D:List (ql×Int)):Prop where
 keys:D.map Prod.fst = S
 once:S.Nodup
 cnt:∀ p ∈ D,1 ≤ p.2∧p.2 ≤ N
abbrev zI9 (rg last:Int) (m:Nat):List Value:=[.int .i64 rg,.int .i64 last,.map (some m)]
def zDt (fb:Nat) (rg:Int) (N:Nat) (f:zHk):zB:=ex fun m=>ex fun D:List (ql×Int)=>Sep.stars [pur (zXx f.seen N D),blk fb (.cells (zI9 rg f.last m).toArray uj (0,0)),xM (kyS qQ) (Value.int .i64) m D]
def firstM (tag:ql) (S:List ql):List ql:=if tag ∈ S then S else S++[tag]
def uz (rg:Int) (f:zHk) (kind ix:Int) (tag:ql) (homes:List Int) (single:Bool):zHk×Bool :=
 if rg ∉ homes then (f,false) else
 if kind = 1∧single = true then ({ f with seen:=firstM tag f.seen },!decide (tag ∈ f.seen)) else
 if kind = 2∧single = false∧f.last < ix then ({ f with last:=ix },true) else (f,false)
section
variable {B:World} {Γ Δ:List zB} {fb N:Nat} {rg:Int} {f:zHk} {k:K}
theorem zTd (h:∀ m D,zXx f.seen N D→HG B (blk fb (.cells (zI9 rg f.last m).toArray uj (0,0))::xM (kyS qQ) (Value.int .i64) m D::Γ) k):HG B (zDt fb rg N f::Γ) k :=
 zC1 fun m=>zC1 fun D=>zBX <| zGU fun h1=>h m D h1
theorem zHN {m:Nat} {D:List (ql×Int)} (h1:zXx f.seen N D) (h:HG B (zDt fb rg N f::Γ) k):HG B (blk fb (.cells (zI9 rg f.last m).toArray uj (0,0))::xM (kyS qQ) (Value.int .i64) m D::Γ) k:=fun w hw=>by
 refine h w ?_
 have h3:Holds B (Sep.stars [pur (zXx f.seen N D),blk fb (.cells (zI9 rg f.last m).toArray uj (0,0)),xM (kyS qQ) (Value.int .i64) m D]::Γ) w:=Holds.flat.2 (Holds.pur.2 ⟨h1,hw⟩)
 exact h3.imp fun g hg=>⟨m,D,hg⟩
instance (priority:=high) zbH:Sep.Own fb (zDt fb rg N f::Γ) (zDt fb rg N f) Γ:=⟨.refl _⟩
theorem zPE {N':Nat} (hN:N ≤ N') (h:HG B (zDt fb rg N' f::Γ) k):HG B (zDt fb rg N f::Γ) k:=zTd fun m D hD=>zHN ⟨hD.keys,hD.once,fun p hp=>by have:=hD.cnt p hp; omega⟩ h
theorem zNY {q:Option Addr→K} (h:∀ fb,HG B (zDt fb rg 0 ⟨-1,[]⟩::Γ) (q (some ⟨fb,0,none⟩))):HG B Γ (zAu.call rg q):=by
 refine fun w hw=>zJj _ _ _ ?_
 refine hg hw ?_
 clear hw w
 unfold zAu
 refine zKs (enc:=kyS qQ) (cV:=Value.int .i64) fun m=>?_
 refine zR fun fb=>?_
 exact zHN (f:=⟨-1,[]⟩) (D:=[]) ⟨rfl,by simp,by simp⟩ (h fb)
theorem zRv {q:Int→K} (h:HG B (zDt fb rg N f::Γ) (q f.last)):HG B (zDt fb rg N f::Γ) (jR.call (some ⟨fb,0,none⟩) q):=by
 refine fun w hw=>zGD _ _ _ ?_
 refine hg hw ?_
 clear hw w
 unfold jR
 refine vg ?_
 refine zTd fun m D hD=>?_
 refine yD (b:=fb) (off:=1) (l:=zI9 rg f.last m) (x:=f.last) ?_
 exact zHN hD h
theorem zUY {D:List (ql×Int)} {tag:ql}:(y9 tag D).isSome = true ↔ tag ∈ D.map Prod.fst:=by
 induction D with
 | nil=>simp [y9]
 | cons p D ih=>
  unfold y9
  split
  ·rename_i h; simp [h]
  ·rename_i h
   rw [ih]; simp [h]
theorem zNZ {α ν:Type} [DecidableEq α] {k:α} {v:ν} {p:α×ν}:∀ {M:List (α×ν)},p ∈ vL k v M→p = (k,v)∨p ∈ M
 | [],h=>by
  unfold vL at h
  exact .inl (List.mem_singleton.1 h)
 | q::M,h=>by
  unfold vL at h
  split at h
  ·rcases List.mem_cons.1 h with h | h
   ·exact .inl h
   ·exact .inr (List.mem_cons_of_mem _ h)
  ·rcases List.mem_cons.1 h with h | h
   ·exact .inr (h ▸ List.mem_cons_self)
   ·exact (zNZ h).imp id (List.mem_cons_of_mem _)
theorem zQl {tag:ql} {q:Bool→K} (hN:N ≤ 1000000000) (h:HG B (zDt fb rg (N + 1) { f with seen:=firstM tag f.seen }::Γ) (q (!decide (tag ∈ f.seen)))):HG B (zDt fb rg N f::Γ) (uE.call (some ⟨fb,0,none⟩) (qQ tag).toArray q):=by
 refine fun w hw=>zFk _ _ _ _ ?_
 refine hg hw ?_
 clear hw w
 refine zTd fun m D hD=>?_
 unfold uE
 refine zR fun t3=>?_
 have hc:0 ≤ (y9 tag D).getD 0∧(y9 tag D).getD 0 ≤ N:=by
  cases hg:y9 tag D with
  | none=>simp
  | some v=>have:=hD.cnt _ (zFC hg); simp only [Option.getD_some]; simp only at this; omega
 have hz:(y9 tag D).getD 0 = 0 ↔ tag ∉ f.seen:=by
  rw [← hD.keys,← zUY]
  cases hg:y9 tag D with
  | none=>simp
  | some v=>have:=hD.cnt _ (zFC hg); simp only [Option.getD_some,Option.isSome_some,not_true,iff_false]; simp only at this; omega
 refine vk ?_
 refine zan (fun w=>w.cell? ((⟨fb,0,none⟩:Addr).add 2) = some (.map (some m))∧RdN w ⟨t3,0,none⟩ (qQ tag).toArray∧(Instr.lookup zCe (.map (some m)) (kyS qQ tag) false).run Tryz.prog w = .ok (.int .i64 ((y9 tag D).getD 0)) w) (fun w hw=>⟨by rw [uV]; exact vI (zBU hw (b:=fb)) rfl,zWQ (b:=t3) (l:=qQ tag) (n:=4) hw,zTZ (b:=m) hw zDA zDn⟩) ?_
 refine vg ?_
 refine zZg (x:=some m) (fun w hS=>hS.1) ?_
 refine zXw (l:=qQ tag) (fun w hS=>hS.2.1) ?_
 refine zZh (x:=(y9 tag D).getD 0) (fun w hS=>hS.2.2) ?_
 refine qU ?_
 refine zWP (b:=m) (m:=D) (cV:=Value.int .i64) (z:=(0:Int)) (a:=tag) (zbn zDA) zDn fun stp=>?_
 refine zao (fun w hw=>⟨by rw [uV]; exact vI (zBU hw (b:=fb)) rfl,zWQ (b:=t3) (l:=qQ tag) (n:=4) hw,by
  have h1:=zTZ (b:=m) (m:=vL tag ((y9 tag D).getD 0) D) (cV:=Value.int .i64) (a:=tag) (T:=zCe) (zRp.map hw) zDA zDn
  rw [zNW] at h1
  exact h1⟩) ?_
 refine zRq (b:=m) (enc:=kyS qQ) (cV:=Value.int .i64) (m:=D) (z:=(0:Int)) (a:=tag) (v:=(y9 tag D).getD 0 + 1) rfl ?_
 refine vk ?_
 refine yD (b:=fb) (off:=2) (l:=zI9 rg f.last m) (x:=some m) ?_
 refine qW (b:=t3) (l':=qQ tag) ?_
 refine zLc (b:=m) (m:=vL tag ((y9 tag D).getD 0 + 1) D) (cV:=Value.int .i64) (z:=(0:Int)) (a:=tag) zDA zDn ?_
 rw [zNW,Option.getD_some]
 have e:decide ((y9 tag D).getD 0 + 1 = 1) = !decide (tag ∈ f.seen):=by
  by_cases hm:tag ∈ f.seen
  ·have:¬ (y9 tag D).getD 0 = 0:=fun h0=>hz.1 h0 hm
   simp [hm]; omega
  ·rw [hz.2 hm]; simp [hm]
 rw [e]
 refine zQ m ?_
 refine zQ fb ?_
 refine zHN (f:={ f with seen:=firstM tag f.seen }) (N:=N + 1) ⟨?_,?_,fun p hp=>?_⟩ (zC h)
 ·rw [zFB,hD.keys]; rfl
 ·unfold firstM
  split
  ·exact hD.once
  ·rename_i hm
   exact List.nodup_append.2 ⟨hD.once,by simp,fun a ha b hb=>by rw [List.mem_singleton.1 hb]; exact fun e=>hm (e ▸ ha)⟩
 ·rcases zNZ hp with rfl | hp
  ·simp only; omega
  ·have:=hD.cnt p hp; omega
theorem zNa {s:Sl} {L:List Int} {x:Int} {q:Bool→K} (hL:L.length < 1000000000) (hr:∀ w,Holds B Γ w→RdC w s 1 (L.map (Value.int .i64))) (h:HG B Γ (q (decide (x ∈ L)))):HG B Γ (xH.call s x q):=fun w hw=>by
 refine zD6 _ _ _ _ ?_
 have hsn:s.n = L.length:=by have:=(hr w hw).len; simpa using this.symm
 refine hg hw ?_
 clear hw w
 unfold xH
 refine fun w hw=>zEg _ _ _ _ ?_
 refine hg hw ?_
 clear hw w
 unfold qy
 refine j4 (α:=Int) (fun y=>∃ i:Nat,y = (i:Int)∧i ≤ L.length∧x ∉ L.take i) (fun y=>L.length - y.toNat) ⟨0,rfl,Nat.zero_le _,by simp⟩ fun k' y hy hk'=>?_
 obtain ⟨i,rfl,hi,hno⟩:=hy
 unfold qy.b1
 refine zH (fun hb=>?_) fun hb=>?_
 ·have hil:i < L.length:=by simp only [decide_eq_true_eq] at hb; omega
  have hge:L[i]? = some L[i]:=List.getElem?_eq_getElem hil
  have hmem:L[i] ∈ L:=List.getElem_mem hil
  have htk:L.take (i + 1) = L.take i++[L[i]]:=List.take_succ_eq_append_getElem hil
  generalize L[i] = z at hge hmem htk
  refine zAA (L:=L) hr hge ?_
  refine zH (fun hc=>?_) fun hc=>?_
  ·have hxz:x = z:=by simpa using hc
   show HG B Γ (q (decide ((0:Int) ≤ (i:Int))))
   rw [show decide ((0:Int) ≤ (i:Int)) = decide (x ∈ L) by simp [hxz,hmem]]
   exact h
  ·have hxz:x ≠ z:=by simpa using hc
   refine qU ?_
   refine hk' _ ⟨i + 1,by simp,hil,?_⟩ (by omega)
   rw [htk,List.mem_append,List.mem_singleton]
   exact fun hh=>hh.elim hno hxz
 ·have hil:i = L.length:=by simp only [decide_eq_false_iff_not] at hb; omega
  rw [hil,List.take_length] at hno
  show HG B Γ (q (decide ((0:Int) ≤ -1)))
  rw [show decide ((0:Int) ≤ -1) = decide (x ∈ L) by simp [hno]]
  exact h
theorem zRw {kind ix:Int} {tag:ql} {t:TxX} {ms:Sl} {mks:List MkX} {q:Bool→K} (hm:∀ w,Holds B Γ w→RdC w ms 3 (mks.flatMap mkL)) (hml:mks.length ≤ 1000) (hN:N ≤ 1000000000)
  (h:HG B (zDt fb rg (N + 1) (uz rg f kind ix tag (xS mks) (decide (t.kind = 1) && decide ((xS mks).length = 1))).1::Γ) (q (uz rg f kind ix tag (xS mks) (decide (t.kind = 1) && decide ((xS mks).length = 1))).2)) :
  HG B (zDt fb rg N f::Γ) (yM.call (some ⟨fb,0,none⟩) (.int .i64 kind::.int .i64 ix::orV tag t ms).toArray q):=by
 refine fun w hw=>zGC _ _ _ _ ?_
 refine hg hw ?_
 clear hw w
 have hhl:(xS mks).length ≤ 100000:=by
  have h1:=zFN (zDs (if mks.length = 0 then [0] else mks.map MkX.home))
  rw [zHM] at h1
  have h2:(if mks.length = 0 then [0] else mks.map MkX.home).length ≤ 1000:=by split <;> simp <;> omega
  unfold xS
  omega
 generalize hH:xS mks = H at *
 generalize hS:(decide (t.kind = 1) && decide (H.length = 1)) = sg at *
 refine zTd fun m D hD=>?_
 unfold yM
 refine zR fun i3=>?_
 refine vk ?_
 refine zBw [blk i3 (.cells (.int .i64 kind::.int .i64 ix::orV tag t ms).toArray qF (0,0)),blk fb (.cells (zI9 rg f.last m).toArray uj (0,0))] ?_
 refine vg ?_
 refine zAW (b:=i3) (off:=2) (l:=.int .i64 kind::.int .i64 ix::orV tag t ms) (l':=orV tag t ms) ?_
 refine u6 (b:=fb) (l:=zI9 rg f.last m) (x:=rg) ?_
 refine zGq (pre:=qQ tag++txL t) (L:=mks) rfl (fun w hw=>hm w hw.drops) (by omega) fun hs=>?_
 rw [hH]
 refine zBC ?_
 refine zNa (L:=H) (by omega) (fun w hw=>(yh (s:=hs) hw).1) ?_
 have back:∀ {X:List zB} {kk:K} [Drops X (blk fb (.cells (zI9 rg f.last m).toArray uj (0,0))::xM (kyS qQ) (Value.int .i64) m D::Γ)],HG B (zDt fb rg N f::Γ) kk→HG B X kk:=by
  intro X kk d hk
  exact zC (d:=d) (zHN hD hk)
 by_cases hr:rg ∈ H
 rotate_left
 ·rw [decide_eq_false hr]
  refine s_t ?_
  rw [show uz rg f kind ix tag H sg = (f,false) by unfold uz; rw [if_pos hr]] at h
  exact back (zPE (by omega) h)
 rw [decide_eq_true hr]
 refine s_f ?_
 refine qW (b:=i3) (off:=2) (l:=.int .i64 kind::.int .i64 ix::orV tag t ms) (l':=orV tag t ms) ?_
 refine zJl (L:=mks) (fun w hw=>hm w hw.drops) (by omega) ?_
 rw [hH,hS]
 have S2:∀ b:Bool,(b = true ↔ kind = 2∧sg = false∧f.last < ix)→¬ (kind = 1∧sg = true)→HG B (blk i3 (.cells (.int .i64 kind::.int .i64 ix::orV tag t ms).toArray qF (0,0))::blk fb (.cells (zI9 rg f.last m).toArray uj (0,0))::xM (kyS qQ) (Value.int .i64) m D::Γ) (yM.s2 q ⟨fb,0,none⟩ ⟨i3,0,none⟩ b):=fun b hb hn=>by
  unfold yM.s2
  cases b
  ·refine s_f ?_
   rw [show uz rg f kind ix tag H sg = (f,false) by unfold uz; rw [if_neg (by simp [hr]),if_neg hn,if_neg fun hh=>by have:=hb.2 hh; cases this]] at h
   exact back (zPE (by omega) h)
  ·refine s_t ?_
   rw [show uz rg f kind ix tag H sg = ({ f with last:=ix },true) by unfold uz; rw [if_neg (by simp [hr]),if_neg hn,if_pos (hb.1 rfl)]] at h
   refine yD (b:=i3) (off:=1) (l:=.int .i64 kind::.int .i64 ix::orV tag t ms) (x:=ix) ?_
   refine zBY (b:=fb) (l:=zI9 rg f.last m) (l':=zI9 rg ix m) ?_ rfl rfl
   refine zQ m ?_
   refine zQ fb ?_
   exact zHN (f:={ f with last:=ix }) (N:=N + 1) ⟨hD.keys,hD.once,fun p hp=>by have:=hD.cnt p hp; omega⟩ (zC h)
 have S1:∀ b:Bool,(b = true ↔ kind = 1∧sg = true)→HG B (blk i3 (.cells (.int .i64 kind::.int .i64 ix::orV tag t ms).toArray qF (0,0))::blk fb (.cells (zI9 rg f.last m).toArray uj (0,0))::xM (kyS qQ) (Value.int .i64) m D::Γ) (yM.s1 q ⟨fb,0,none⟩ ⟨i3,0,none⟩ sg b):=fun b hb=>by
  unfold yM.s1
  cases b
  ·have hn:¬ (kind = 1∧sg = true):=fun hh=>by have:=hb.2 hh; cases this
   refine s_f ?_
   refine vk ?_
   refine yD (b:=i3) (l:=.int .i64 kind::.int .i64 ix::orV tag t ms) (x:=kind) ?_
   refine zH (fun h2=>?_) fun h2=>?_
   ·have hk2:kind = 2:=by simpa using h2
    refine zH (fun h3=>?_) fun h3=>?_
    ·have hs3:sg = false:=by simpa using h3
     refine yD (b:=i3) (off:=1) (l:=.int .i64 kind::.int .i64 ix::orV tag t ms) (x:=ix) ?_
     refine yD (b:=fb) (off:=1) (l:=zI9 rg f.last m) (x:=f.last) ?_
     exact S2 _ (by simp [hk2,hs3]) hn
    ·have hs3:sg = true:=by simpa using h3
     exact S2 false (by simp [hs3]) hn
   ·have hk2:kind ≠ 2:=by simpa using h2
    exact S2 false (by simp [hk2]) hn
  ·have hy:=hb.1 rfl
   refine s_t ?_
   refine qW (b:=i3) (off:=2) (l:=.int .i64 kind::.int .i64 ix::orV tag t ms) (l':=qQ tag) ?_
   refine back ?_
   refine zQl hN ?_
   rw [show uz rg f kind ix tag H sg = ({ f with seen:=firstM tag f.seen },!decide (tag ∈ f.seen)) by unfold uz; rw [if_neg (by simp [hr]),if_pos hy]] at h
   exact h
 refine yD (b:=i3) (l:=.int .i64 kind::.int .i64 ix::orV tag t ms) (x:=kind) ?_
 refine zH (fun h1=>?_) fun h1=>?_
 ·have hk1:kind = 1:=by simpa using h1
  exact zC (S1 sg (by simp [hk1]))
 ·have hk1:kind ≠ 1:=by simpa using h1
  exact zC (S1 false (by simp [hk1]))
end
end
section
open Go Go.Sep Go.Sep.Bt
def zGG (t:TxX):TxX:=⟨t.kind,t.reads,t.writes,t.ops.map fun x=>(x.1,⟨none,0,0⟩),t.to,⟨none,0,0⟩,⟨none,0,0⟩,⟨none,0,0⟩⟩
theorem zPF (t:TxX):zEb (zGG t) t:=⟨rfl,rfl,rfl,rfl,by simp [zGG,Function.comp_def]⟩
theorem zUZ {a b:TxX} (h:zEb a b):zGG a = zGG b:=by
 obtain ⟨h1,h2,h3,h4,h5⟩:=h
 have e:∀ L:List OpX,(L.map fun x=>(x.1,(⟨none,0,0⟩:Sl))) = (L.map Prod.fst).map fun o=>(o,⟨none,0,0⟩):=fun L=>by simp [Function.comp_def]
 unfold zGG
 rw [h1,h2,h3,h4,e,e,h5]
structure zD8 where
 tag:ql
 tx:TxX
 mks:List MkX
 need:List Int
structure zAp where
 b:Nat
 tag:ql
 t:TxX
 ms:Sl
 mks:List MkX
 ns:Sl
 need:List Int
def zB3 (j:zAp):zD8:=⟨j.tag,zGG j.t,j.mks,j.need⟩
abbrev zMk (j:zAp):List Value:=[.int .i64 j.tag.node,.int .u64 j.tag.epoch,.int .u64 j.tag.seq,.int .i64 j.tag.tr,.int .i64 j.t.kind,j.t.rs.val,j.t.ws.val,j.t.os.val,.int .i64 j.t.to,j.ms.val,j.ns.val]
abbrev zDf (j:zAp):Option Addr:=some ⟨j.b,0,none⟩
abbrev zRx (j:zAp) (Γ:List zB):List zB:=blk j.b (.cells (zMk j).toArray zIi (0,0))::SlI j.ns j.need::SlC yu 3 j.ms (j.mks.flatMap mkL)::txC j.t Γ
def zEw (j:zAp):zB:=Sep.stars (zRx j [])
structure zYv (n:Nat) (j:zAp):Prop where
 ord:zDO (n:Int) j.tag j.t j.mks
 nn:∀ x ∈ j.t.ops,-9223372036854775808 ≤ x.1.n∧x.1.n ≤ 9223372036854775807
 nl:j.need.length ≤ 1000
structure DcM where
 tag:ql
 code:Int
 out:OM
structure DcX where
 tag:ql
 code:Int
 os:Sl
 O:OX
def zHl (d:DcX):DcM:=⟨d.tag,d.code,d.O.map Prod.fst⟩
abbrev dcF (d:DcX):List Value:=[.int .i64 d.tag.node,.int .u64 d.tag.epoch,.int .u64 d.tag.seq,.int .i64 d.tag.tr,.int .i64 d.code,d.os.val]
theorem zEM (d:DcX):(dcF d).length = 6:=rfl
def dcO (d:DcX):zB:=Sep.stars [SlC qH 2 d.os (d.O.flatMap oF),Sep.stars (d.O.map oB)]
def zHy {α:Type} (p:α→Bool):List α→Option (α×List α)
 | []=>none
 | j::J=>if p j then some (j,J) else (zHy p J).map fun r=>(r.1,j::r.2)
theorem zII {α:Type} {p:α→Bool}:∀ {J:List α},(∀ y ∈ J,p y = false)→zHy p J = none
 | [],_=>rfl
 | j::J,h=>by
  unfold zHy
  rw [if_neg (by simp [h j List.mem_cons_self]),zII fun y hy=>h y (List.mem_cons_of_mem _ hy)]
  rfl
theorem zJm {α:Type} {p:α→Bool} {x:α} {C:List α}:∀ {A:List α},(∀ y ∈ A,p y = false)→p x = true→zHy p (A++x::C) = some (x,A++C)
 | [],_,h=>by simp [zHy,h]
 | j::J,h,h2=>by
  rw [List.cons_append]
  unfold zHy
  rw [if_neg (by simp [h j List.mem_cons_self]),zJm (fun y hy=>h y (List.mem_cons_of_mem _ hy)) h2]
  rfl
def pick (G:GM×DM) (j:zD8):Bool:=decide (j.need = []) && (G.2 j.tag || zFc j.tag G.1)
def zAO (n:Nat):Nat→List zD8→yY→GM×DM→(List zD8×yY×(GM×DM))×List DcM
 | 0,J,M,G=>((J,M,G),[])
 | f + 1,J,M,G=>match zHy (pick G) J with
  | none=>((J,M,G),[])
  | some (j,J')=>((zAO n f J' (zGE n j.tag j.tx M G) (zIH n j.tag j.tx M G)).1,⟨j.tag,zGF n j.tag j.tx M G,zMj n j.tag j.tx M G⟩::(zAO n f J' (zGE n j.tag j.tx M G) (zIH n j.tag j.tx M G)).2)
theorem zTe {α:Type} (p:α→Bool):∀ L:List α,(∀ y ∈ L,p y = false)∨∃ A x C,L = A++x::C∧(∀ y ∈ A,p y = false)∧p x = true
 | []=>.inl (by simp)
 | x::L=>by
  cases hx:p x with
  | true=>exact .inr ⟨[],x,L,rfl,by simp,hx⟩
  | false=>
   rcases zTe p L with h | ⟨A,y,C,h1,h2,h3⟩
   ·refine .inl fun z hz=>?_
    rcases List.mem_cons.1 hz with rfl | hz
    ·exact hx
    ·exact h z hz
   ·refine .inr ⟨x::A,y,C,by rw [h1]; rfl,fun z hz=>?_,h3⟩
    rcases List.mem_cons.1 hz with rfl | hz
    ·exact hx
    ·exact h2 z hz
theorem zar {α:Type} {p:α→Bool} {A C:List α} {x:α} (hA:∀ y ∈ A,p y = false) (hx:p x = true):zFb ((A++x::C).findIdx? p) = (A.length:Int):=by
 have:(A++x::C).findIdx? p = some A.length:=by
  rw [List.findIdx?_append,List.findIdx?_eq_none_iff.2 hA]
  simp [List.findIdx?_cons,hx]
 rw [this]; rfl
theorem zWW {n:Nat} {g:ql} {a b:TxX} {M:yY} {G:GM×DM} (h:zEb a b):zGE n g a M G = zGE n g b M G∧zIH n g a M G = zIH n g b M G∧zGF n g a M G = zGF n g b M G∧zMj n g a M G = zMj n g b M G:=by
 have e:=zUP (n:=n) (M:=M) h
 obtain ⟨h1,h2,h3,h4,h5⟩:=h
 unfold zGE zIH zGF zMj wrU
 rw [e,h1,h4]
 exact ⟨rfl,rfl,rfl,rfl⟩
theorem zL9 {n:Nat}:∀ (W:WM) (M:yY),(zBM n M W).length ≤ M.length + 2 * W.length
 | [],M=>by simp [zBM]
 | x::W,M=>by
  have h1:=zLx n M x
  have h2:=zL9 (n:=n) W (zCG n M x)
  show (zBM n (zCG n M x) W).length ≤ _
  simp only [List.length_cons]; omega
theorem zWX {n:Nat} {rg:Int} {g:ql} {t:TxX} {M:yY} {G:GM×DM} (hrt:vE rg t = true):(zGE n g t M G).length ≤ M.length + 32:=by
 unfold zGE
 split
 ·omega
 ·have:=zL9 (n:=n) (wrU n M t) M
  have:=(zTc (n:=n) (M:=M) hrt).1
  omega
section
variable {B:World} {Γ Δ:List zB} {k:K} {sd st l n:Nat} {M:yY} {G:GM×DM} {a b c:Sl} {J:List zAp}
theorem zQm {j:zAp} (h:HG B (zRx j Γ) k):HG B (zEw j::Γ) k:=zBX h
theorem zJA {j:zAp} (h:HG B (zEw j::Γ) k):HG B (zRx j Γ) k:=fun w hw=>h w ((Holds.flat (Δ:=zRx j [])).2 hw)
theorem zZl {d:DcX} (h:HG B (dcO d::Γ) k):HG B (SlC qH 2 d.os (d.O.flatMap oF)::Sep.stars (d.O.map oB)::Γ) k:=fun w hw=>h w ((Holds.flat (Δ:=[SlC qH 2 d.os (d.O.flatMap oF),Sep.stars (d.O.map oB)])).2 hw)
theorem zHO {α:Type} {F:α→zB} {A:List α} {x:α} (h:HG B (Sep.stars ((A++[x]).map F)::Γ) k):HG B (F x::Sep.stars (A.map F)::Γ) k:=by
 refine zAG (A:=A) (C:=[]) ?_ |> fun h=>by rw [List.append_nil] at h; exact h
 exact h
abbrev zKT (sd st l n:Nat) (M:yY) (G:GM×DM) (a b c:Sl) (J:List zAp) (Γ:List zB):List zB :=
 blk sd (.cells (sdL st l a b c).toArray qB (0,0))::vH l G.1 G.2::ze st n M::SlC jf 1 c ((J.map zDf).map Value.pointer)::Sep.stars (J.map zEw)::Γ
abbrev fiJ (b:Nat):Value:=.func (.func 96) #[] #[.pointer (some ⟨b,0,none⟩)]
abbrev woJ (b:Nat):Value:=.func (.func 97) #[] #[.pointer (some ⟨b,0,none⟩)]
theorem zWY {tag:ql} {q:Option Addr→K} (hJ:J.length ≤ 1000000) (hno:(∀ j ∈ J,j.tag ≠ tag)→HG B (zKT sd st l n M G a b c J Γ) (q none)) (hyes:∀ A j C,J = A++j::C→(∀ y ∈ A,y.tag ≠ tag)→j.tag = tag→HG B (zKT sd st l n M G a b c J Γ) (q (zDf j))) :
  HG B (zKT sd st l n M G a b c J Γ) (zAS.call (some ⟨sd,0,none⟩) (qQ tag).toArray q):=by
 refine fun w hw=>zHh _ _ _ _ ?_
 refine hg hw ?_
 clear hw w
 refine yS c fun a1 a2 a3 a4=>?_
 rw [List.length_map,List.length_map,Nat.mul_one] at a1
 unfold zAS
 refine zR fun tb=>?_
 refine vg ?_
 refine yD (b:=sd) (off:=4) (l:=sdL st l a b c) (x:=c) ?_
 refine fun w hw=>jL _ _ _ _ ?_
 refine hg hw ?_
 clear hw w
 show HG B _ (zHv Tryz.prog (zVj Value.pointer) c (fiJ tb) _)
 refine zIu (vV:=fun e:zAp=>.pointer (zDf e)) (L:=J) (fun j=>decide (j.tag = tag)) (by omega) (by omega) (fun i x k hx hk=>?_) (fun e q he hq=>?_) ?_
 ·exact zAA (c:=Value.pointer) (fun w hw=>(yh (s:=c) hw).1) (by rw [List.getElem?_map,hx]; rfl) hk
 ·obtain ⟨A,C,rfl⟩:=List.append_of_mem he
  refine zEV (cs:=[.pointer (some ⟨tb,0,none⟩)]) ?_
  refine fun w hw=>zF9 _ _ _ _ ?_
  refine hg hw ?_
  clear hw w
  unfold zBJ
  refine zX (Sep.stars ((A++e::C).map zEw)) ?_
  refine zEk ?_
  refine zQm ?_
  refine vk ?_
  refine vg ?_
  refine qW (b:=e.b) (l:=zMk e) (l':=qQ e.tag) ?_
  refine qW (b:=tb) (l':=qQ tag) ?_
  refine zYo (xs:=qQ e.tag) (ys:=qQ tag) (ks:=zVh) (p:=e.tag = tag) zGf ?_
  refine zJA ?_
  refine zAG ?_
  exact zC hq
 ·rcases zTe (fun j:zAp=>decide (j.tag = tag)) J with hn | ⟨A,e,C,rfl,hA,he⟩
  ·rw [List.findIdx?_eq_none_iff.2 hn]
   refine s_t ?_ (by simp [zFb])
   exact zC (hno fun j hj=>by simpa using hn j hj)
  ·rw [zar hA he]
   refine s_f ?_ (by simp)
   refine yD (b:=sd) (off:=4) (l:=sdL st l a b c) (x:=c) ?_
   refine zAA (c:=Value.pointer) (L:=(A++e::C).map zDf) (j:=A.length) (x:=zDf e) (fun w hw=>(yh (s:=c) hw).1) (by simp) ?_
   exact zC (hyes A e C rfl (fun y hy=>by simpa using hA y hy) (by simpa using he))
theorem zRy {f:Nat} {L:List zD8} (h:∀ y ∈ L,pick G y = false):zAO n f L M G = ((L,M,G),[]):=by
 cases f with
 | zero=>rfl
 | succ f=>unfold zAO; rw [zII h]
theorem zRz {f:Nat} {A C:List zD8} {j:zD8} (hA:∀ y ∈ A,pick G y = false) (hj:pick G j = true) :
  zAO n (f + 1) (A++j::C) M G = ((zAO n f (A++C) (zGE n j.tag j.tx M G) (zIH n j.tag j.tx M G)).1,⟨j.tag,zGF n j.tag j.tx M G,zMj n j.tag j.tx M G⟩::(zAO n f (A++C) (zGE n j.tag j.tx M G) (zIH n j.tag j.tx M G)).2):=by
 rw [zAO,zJm hA hj]
abbrev s1B (s1 sd:Nat):zB:=blk s1 (.cells [.pointer (some ⟨sd,0,none⟩)].toArray zDS (0,0))
theorem zXy {s1 T:Nat} {A C:List zAp} {e:zAp} {q:Bool→K} (hsz:SzG T G) (hT:T ≤ 1000000) (hJ:J = A++e::C) (hq:HG B (s1B s1 sd::zKT sd st l n M G a b c J Γ) (q (pick G (zB3 e)))) :
  HG B (s1B s1 sd::zKT sd st l n M G a b c J Γ) (xD.call (zDf e) ⟨s1,0,none⟩ q):=by
 refine fun w hw=>zGA _ _ _ _ ?_
 refine hg hw ?_
 clear hw w
 unfold xD xD.s1
 subst hJ
 refine vg ?_
 refine zX (Sep.stars ((A++e::C).map zEw)) ?_
 refine zEk ?_
 refine zQm ?_
 refine yS e.ns fun a1 a2 a3 a4=>?_
 rw [List.length_map,Nat.mul_one] at a1
 have hz:decide ((e.ns.n:Int) = 0) = decide (e.need = []):=by
  rw [← a1]
  cases e.need <;> simp
  omega
 have back:HG B (zRx e (Sep.stars ((A++C).map zEw)::s1B s1 sd::blk sd (.cells (sdL st l a b c).toArray qB (0,0))::vH l G.1 G.2::ze st n M::SlC jf 1 c (((A++e::C).map zDf).map Value.pointer)::Γ)) (q (pick G (zB3 e))):=by
  refine zJA ?_
  refine zAG ?_
  exact zC hq
 have hpk:pick G (zB3 e) = (decide (e.need = []) && (G.2 e.tag || zFc e.tag G.1)):=rfl
 rw [hpk] at back
 refine qW (b:=e.b) (l:=zMk e) (l':=qQ e.tag) ?_
 refine zR fun tb=>?_
 refine qX (b:=tb) (l':=qQ e.tag) ?_
 refine vk ?_
 refine zBw [blk e.b (.cells (zMk e).toArray zIi (0,0)),blk tb (.cells (qQ e.tag).toArray xW (0,0)),s1B s1 sd,blk sd (.cells (sdL st l a b c).toArray qB (0,0))] ?_
 refine u6 (b:=e.b) (off:=10) (l:=zMk e) (x:=e.ns) ?_
 rw [hz]
 refine zH (fun h1=>?_) fun h1=>?_
 ·refine u6 (b:=s1) (l:=[.pointer (some ⟨sd,0,none⟩)]) (x:=some ⟨sd,0,none⟩) ?_
  refine vg ?_
  refine u6 (b:=sd) (off:=1) (l:=sdL st l a b c) (x:=some ⟨l,0,none⟩) ?_
  refine zAW (b:=tb) (l:=qQ e.tag) (l':=qQ e.tag) ?_
  refine zQ l ?_
  refine zND ?_
  refine zBC ?_
  rw [h1,Bool.true_and] at back
  by_cases hd:G.2 e.tag = true
  ·rw [hd] at back ⊢
   refine s_t ?_
   exact zC back
  ·rw [Bool.eq_false_iff.2 hd] at back ⊢
   refine s_f ?_
   refine u6 (b:=s1) (l:=[.pointer (some ⟨sd,0,none⟩)]) (x:=some ⟨sd,0,none⟩) ?_
   refine vg ?_
   refine u6 (b:=sd) (off:=1) (l:=sdL st l a b c) (x:=some ⟨l,0,none⟩) ?_
   refine zAW (b:=tb) (l:=qQ e.tag) (l':=qQ e.tag) ?_
   refine zVt hsz.gsz hT ?_
   rw [Bool.false_or] at back
   exact zC back
 ·rw [h1,Bool.false_and] at back
  exact zC back
theorem zMA {A C:List zAp} {e:zAp}:(A++e::C).map zB3 = A.map zB3++zB3 e::C.map zB3:=by simp
theorem zXz {T:Nat} {q:Sl→K} (hok:∀ j ∈ J,zYv n j) (hsz:SzG T G) (hT:T + J.length ≤ 900000) (hM:M.length + 32 * J.length ≤ 10000000)
  (h:∀ (s:Sl) (D:List DcX) (c':Sl) (J':List zAp),D.map zHl = (zAO n J.length (J.map zB3) M G).2→J'.map zB3 = (zAO n J.length (J.map zB3) M G).1.1→(∀ j ∈ J',j ∈ J)→J'.length + D.length = J.length→(zAO n J.length (J.map zB3) M G).1.2.1.length ≤ M.length + 32 * D.length→SzG (T + D.length) (zAO n J.length (J.map zB3) M G).1.2.2 →
   HG B (SlC qE 6 s (D.flatMap dcF)::Sep.stars (D.map dcO)::zKT sd st l n (zAO n J.length (J.map zB3) M G).1.2.1 (zAO n J.length (J.map zB3) M G).1.2.2 a b c' J' Γ) (q s)) :
  HG B (zKT sd st l n M G a b c J Γ) (xJ.call (some ⟨sd,0,none⟩) q):=by
 refine fun w hw=>zHi _ _ _ ?_
 refine hg hw ?_
 clear hw w
 unfold xJ
 refine zR fun s1=>?_
 refine fun w hw=>?_
 refine hg (show Holds B (SlC qE 6 ⟨none,0,0⟩ (([]:List DcX).flatMap dcF)::Sep.stars (([]:List DcX).map dcO)::s1B s1 sd::zKT sd st l n M G a b c J Γ) w from (hw.zCv).zAk _ _) ?_
 clear hw w
 generalize hW:zAO n J.length (J.map zB3) M G = W at h
 refine vQ (α:=Sl) (ι:=List zAp×yY×(GM×DM)×List DcX×Sl)
  (fun x i=>(∀ j ∈ i.1,j ∈ J)∧i.1.length + i.2.2.2.1.length = J.length∧SzG (T + i.2.2.2.1.length) i.2.2.1∧i.2.1.length ≤ M.length + 32 * i.2.2.2.1.length∧(zAO n i.1.length (i.1.map zB3) i.2.1 i.2.2.1).1 = W.1∧i.2.2.2.1.map zHl++(zAO n i.1.length (i.1.map zB3) i.2.1 i.2.2.1).2 = W.2)
  (fun x i=>SlC qE 6 x (i.2.2.2.1.flatMap dcF)::Sep.stars (i.2.2.2.1.map dcO)::s1B s1 sd::zKT sd st l n i.2.1 i.2.2.1 a b i.2.2.2.2 i.1 Γ)
  (fun x i=>i.1.length) (J,M,G,[],c) ⟨fun _ h=>h,by simp,by simpa using hsz,by simp,by rw [hW],by rw [hW]; simp⟩ ?_
 rintro k' o ⟨J1,M1,G1,D1,c1⟩ ⟨i1,i2,i3,i4,i5,i6⟩ hk'
 simp only at i1 i2 i3 i4 i5 i6 hk' ⊢
 refine yS c1 fun a1 a2 a3 a4=>?_
 rw [List.length_map,List.length_map,Nat.mul_one] at a1
 refine yS o fun b1 b2 b3 b4=>?_
 rw [zn _ 6 zEM] at b1
 unfold xJ.b1
 refine yD (b:=s1) (l:=[.pointer (some ⟨sd,0,none⟩)]) (x:=some ⟨sd,0,none⟩) ?_
 refine vg ?_
 refine yD (b:=sd) (off:=4) (l:=sdL st l a b c1) (x:=c1) ?_
 refine fun w hw=>jL _ _ _ _ ?_
 refine hg hw ?_
 clear hw w
 show HG B _ (zHv Tryz.prog (zVj Value.pointer) c1 (woJ s1) _)
 refine zIu (vV:=fun e:zAp=>.pointer (zDf e)) (L:=J1) (fun j=>pick G1 (zB3 j)) (by omega) (by omega) (fun i x k hx hk=>?_) (fun e q he hq=>?_) ?_
 ·exact zAA (c:=Value.pointer) (fun w hw=>(yh (s:=c1) hw).1) (by rw [List.getElem?_map,hx]; rfl) hk
 ·obtain ⟨A,C,hAC⟩:=List.append_of_mem he
  refine zEV (cs:=[.pointer (some ⟨s1,0,none⟩)]) ?_
  refine zX (Sep.stars (J1.map zEw)) ?_
  refine zq c1 ?_
  refine zQ st ?_
  refine zQ l ?_
  refine zQ sd ?_
  refine zQ s1 ?_
  refine zXy (T:=T + D1.length) i3 (by omega) hAC ?_
  exact zC hq
 ·rcases zTe (fun j:zAp=>pick G1 (zB3 j)) J1 with hn | ⟨A,e,C,rfl,hA,he⟩
  ·rw [List.findIdx?_eq_none_iff.2 hn]
   refine s_t ?_ (by simp [zFb])
   rw [zRy (fun y hy=>by obtain ⟨z,hz,rfl⟩:=List.mem_map.1 hy; exact hn z hz)] at i5 i6
   simp only [List.append_nil] at i5 i6
   have h1:=h o D1 c1 J1 (by rw [i6]) (by rw [← i5]) i1 i2
   rw [← i5] at h1
   exact zC (h1 i4 i3)
  ·rw [zar hA he]
   have hlen:(A++e::C).length = A.length + (C.length + 1):=by simp
   have hwf:=zRz (n:=n) (f:=(A++C).length) (A:=A.map zB3) (C:=C.map zB3) (j:=zB3 e) (M:=M1) (G:=G1) (fun y hy=>by obtain ⟨z,hz,rfl⟩:=List.mem_map.1 hy; exact hA z hz) he
   rw [← zMA,show (A++C).length + 1 = (A++e::C).length by simp; omega] at hwf
   rw [hwf] at i5 i6
   have hok1:=hok e (i1 e (by simp))
   obtain ⟨e1,e2,e3,e4⟩:=zWW (n:=n) (g:=e.tag) (a:=zGG e.t) (b:=e.t) (M:=M1) (G:=G1) (zPF e.t)
   simp only [zB3,e1,e2,e3,e4] at i5 i6
   rw [← List.map_append] at i5 i6
   refine s_f ?_ (by simp)
   refine yD (b:=s1) (l:=[.pointer (some ⟨sd,0,none⟩)]) (x:=some ⟨sd,0,none⟩) ?_
   refine vg ?_
   refine yD (b:=sd) (off:=4) (l:=sdL st l a b c1) (x:=c1) ?_
   refine zAA (c:=Value.pointer) (L:=(A++e::C).map zDf) (j:=A.length) (x:=zDf e) (fun w hw=>(yh (s:=c1) hw).1) (by simp) ?_
   refine vg ?_
   refine zX (Sep.stars ((A++e::C).map zEw)) ?_
   refine zEk ?_
   refine zQm ?_
   refine qW (b:=e.b) (l:=zMk e) (l':=orV e.tag e.t e.ms) ?_
   refine zR fun o4=>?_
   refine qX (b:=o4) (l':=orV e.tag e.t e.ms) ?_
   refine vk ?_
   refine zBw [blk s1 (.cells [.pointer (some ⟨sd,0,none⟩)].toArray zDS (0,0)),blk sd (.cells (sdL st l a b c1).toArray qB (0,0))] ?_
   refine qU ?_
   refine u6 (b:=s1) (l:=[.pointer (some ⟨sd,0,none⟩)]) (x:=some ⟨sd,0,none⟩) ?_
   refine u6 (b:=s1) (l:=[.pointer (some ⟨sd,0,none⟩)]) (x:=some ⟨sd,0,none⟩) ?_
   refine vg ?_
   refine u6 (b:=sd) (off:=4) (l:=sdL st l a b c1) (x:=c1) ?_
   refine fun w hw=>zBs _ _ _ _ _ ?_
   refine hg hw ?_
   clear hw w
   refine (show ∀ (Γ':List zB) (Q':Sl→K),HG B Γ' (zOe Tryz.prog zJH 0 1 c1 (A.length:Int) ((A.length:Int) + 1) Q')→HG B Γ' (qz c1 (A.length:Int) ((A.length:Int) + 1) Q') from fun _ _ h=>h) _ _ ?_
   refine zM4 (s:=c1) (E:=jf) (i:=A.length) (j:=A.length + 1) (by omega) (by omega) (by omega) (by intro v hv; obtain ⟨y,_,rfl⟩:=List.mem_map.1 hv; rfl) (fun c2 hc2=>?_) (by kernel_rfl)
   rw [show (((A++e::C).map zDf).map Value.pointer).take (A.length * 1)++(((A++e::C).map zDf).map Value.pointer).drop ((A.length + 1) * 1) = ((A++C).map zDf).map Value.pointer by
    rw [Nat.mul_one,Nat.mul_one,← List.map_take,← List.map_take,← List.map_drop,← List.map_drop,List.take_left,show A++e::C = (A++[e])++C by simp,List.drop_left' (by simp)]; simp]
   refine zBC ?_
   refine vg ?_
   refine zBY (b:=sd) (off:=4) (l:=sdL st l a b c1) (l':=sdL st l a b c2) ?_ rfl rfl
   refine vk ?_
   refine zBw [blk s1 (.cells [.pointer (some ⟨sd,0,none⟩)].toArray zDS (0,0)),blk o4 (.cells (orV e.tag e.t e.ms).toArray yT (0,0))] ?_
   refine zAW (b:=o4) (l:=orV e.tag e.t e.ms) (l':=qQ e.tag) ?_
   refine u6 (b:=s1) (l:=[.pointer (some ⟨sd,0,none⟩)]) (x:=some ⟨sd,0,none⟩) ?_
   refine zAW (b:=o4) (l:=orV e.tag e.t e.ms) (l':=orV e.tag e.t e.ms) ?_
   refine zQ st ?_
   refine zQ l ?_
   refine zQ sd ?_
   refine zRu (T:=T + D1.length) hok1.ord.1 hok1.nn (fun w hw=>zO8 (Γ:=[]) hw.drops) i3 (by omega) (by omega) fun os O hO=>?_
   refine zBC ?_
   refine zOo (cs:=dcF ⟨e.tag,zGF n e.tag e.t M1 G1,os,O⟩) ?_
   refine zBp (cs:=dcF ⟨e.tag,zGF n e.tag e.t M1 G1,os,O⟩) ?_
   refine zR fun t42=>?_
   refine xR (s:=o) (esz:=6) (us:=dcF ⟨e.tag,zGF n e.tag e.t M1 G1,os,O⟩) (zAX rfl) (by simp [yX]) (by simp only; omega) fun o' _=>?_
   rw [show D1.flatMap dcF++dcF ⟨e.tag,zGF n e.tag e.t M1 G1,os,O⟩ = (D1++[(⟨e.tag,zGF n e.tag e.t M1 G1,os,O⟩:DcX)]).flatMap dcF by simp]
   refine zC (Δ:=SlC qH 2 os (O.flatMap oF)::Sep.stars (O.map oB)::Sep.stars (D1.map dcO)::SlC qE 6 o' ((D1++[(⟨e.tag,zGF n e.tag e.t M1 G1,os,O⟩:DcX)]).flatMap dcF)::s1B s1 sd::zKT sd st l n (zGE n e.tag e.t M1 G1) (zIH n e.tag e.t M1 G1) a b c2 (A++C) Γ) ?_
   refine zZl (d:=⟨e.tag,zGF n e.tag e.t M1 G1,os,O⟩) ?_
   refine zHO ?_
   refine zC (hk' o' (A++C,zGE n e.tag e.t M1 G1,zIH n e.tag e.t M1 G1,D1++[⟨e.tag,zGF n e.tag e.t M1 G1,os,O⟩],c2) ⟨fun j hj=>i1 j ?_,?_,?_,?_,i5,?_⟩ ?_)
   ·rcases List.mem_append.1 hj with hj | hj
    ·exact List.mem_append_left _ hj
    ·exact List.mem_append_right _ (List.mem_cons_of_mem _ hj)
   ·simp only [List.length_append,List.length_cons,List.length_nil] at i2 ⊢; omega
   ·simp only [List.length_append,List.length_cons,List.length_nil]
    exact zZj i3
   ·have:=zWX (n:=n) (g:=e.tag) (M:=M1) (G:=G1) hok1.ord.1
    simp only [List.length_append,List.length_cons,List.length_nil]; omega
   ·rw [← i6]; simp [zHl,hO]
   ·simp only [List.length_append,List.length_cons]; omega
end
end
end Go.Proofs.YtdemfamgieonbaaGreat
namespace Go.Sep
section
open Go Go.RowKit
section
variable {P:Program} {B:World} {Γ Δ:List zB} {E esz:Nat} {s:Sl} {vs:List Value}
end
end
section
open Go Go.RowKit
section
variable {B:World} {Γ Δ:List zB} {k:K}
theorem zWZ (us l:List Value) (off:Nat) (h:off + us.length ≤ l.length):(us.zipIdx off).foldl (fun (c:Array Value) q=>c.setIfInBounds q.2 q.1) l.toArray = (l.take off++us++l.drop (off + us.length)).toArray:=by
 apply Array.ext
 ·rw [fold_size]
  simp; omega
 intro i h1 h2
 rw [fold_size] at h1
 simp only [List.size_toArray] at h1
 have e:∀ (a b:Array Value) (ha:i < a.size) (hb:i < b.size),a[i]? = b[i]?→a[i] = b[i]:=fun a b ha hb hab=>by
  rw [Array.getElem?_eq_getElem ha,Array.getElem?_eq_getElem hb] at hab
  exact Option.some.inj hab
 have e2:∀ L:List Value,L.toArray[i]? = L[i]?:=fun L=>by simp
 apply e
 rw [e2 (l.take off++us++l.drop (off + us.length)),List.append_assoc,List.getElem?_append]
 split
 ·rename_i h3
  simp only [List.length_take] at h3
  rw [zDo _ _ _ _ (by omega),List.getElem?_take,if_pos (by omega),e2 l]
 ·rename_i h3
  simp only [List.length_take] at h3 ⊢
  rw [show min off l.length = off by omega] at h3 ⊢
  rw [List.getElem?_append]
  split
  ·rename_i h4
   have h5:=zKo us off l.toArray (i - off) h4 (by simp only [List.size_toArray]; omega)
   rw [show off + (i - off) = i by omega] at h5
   exact h5
  ·rename_i h4
   rw [zDo _ _ _ _ (by omega),List.getElem?_drop,e2 l,show off + us.length + (i - off - us.length) = i by omega]
theorem zR0 {a:Addr} {b off n:Nat} {l us:List Value} {T:TypeId} (l':List Value) (h:HG B (blk b (.cells l'.toArray T (0,0))::Δ) k) [ad:zC2 a b off] [p:Own b Γ (blk b (.cells l.toArray T (0,0))) Δ] (hn:us.length = n:=by rfl) (ho:off + n ≤ l.length:=by exact Nat.le_of_ble_eq_true rfl) (hl:l.take off++us++l.drop (off + n) = l':=by rfl)
  (hf:us.all yX = true:=by rfl):HG B Γ (StN a n us.toArray k):=fun w hw=>by
 subst hn
 subst hl
 have h1:=hw.perm p.perm
 have hb:=h1.block
 rw [ad.h]
 refine ⟨_,rfl,by simp,fun i hi=>?_,by simpa using zIj hf,h _ ?_⟩
 ·simp only [List.size_toArray] at hi
  rw [uV]
  have hlt:off + i < l.toArray.size:=by simp only [List.size_toArray]; omega
  exact ⟨⟨_,vI hb (Array.getElem?_eq_getElem hlt)⟩,zAf hb (by omega)⟩
 ·rw [zBS _ _ _ _ _ hb,Nat.add_zero]
  have:=zWZ us l off ho
  simp only at this ⊢
  rw [this]
  exact h1.setBlock rfl
end
end
end Go.Sep
namespace Go.Proofs.YtdemfamgieonbaaGreat
section
open Go Go.Sep Go.Sep.Bt
structure jk where
 M:yY
 G:GM×DM
 fils:List zHk
 fed:List Int
 jobs:List zD8
def mM (m:MkX):zEn:=⟨m.key,m.home,m.cnt⟩
theorem zX0 (L:List MkX):(L.map mM).flatMap zQH = L.flatMap mkL:=by
 rw [List.flatMap_map]; rfl
def zJn (tag:ql) (r:Int):List zD8→List zD8
 | []=>[]
 | j::J=>if j.tag = tag then { j with need:=j.need.filter fun h=>!decide (h = r) }::J else j::zJn tag r J
def zFQ (n:Nat) (S:jk):jk×List DcM :=
 (⟨(zAO n S.jobs.length S.jobs S.M S.G).1.2.1,(zAO n S.jobs.length S.jobs S.M S.G).1.2.2,S.fils,S.fed,(zAO n S.jobs.length S.jobs S.M S.G).1.1⟩,(zAO n S.jobs.length S.jobs S.M S.G).2)
def zK0 (kind r:Int) (mks:List MkX):List MkX:=if kind = 2 then mks.filter fun m=>decide (m.home = r) else mks
abbrev zWa (t:TxX) (mks:List MkX):Bool:=decide (t.kind = 1) && decide ((xS mks).length = 1)
abbrev zBz (r kind ix:Int) (tag:ql) (t:TxX) (mks:List MkX) (S:jk):zHk×Bool:=uz r (S.fils.getD r.toNat ⟨-1,[]⟩) kind ix tag (xS mks) (zWa t mks)
abbrev zMB (r kind ix:Int) (tag:ql) (t:TxX) (mks:List MkX) (S:jk):jk :=
 ⟨S.M,S.G,S.fils.set r.toNat (zBz r kind ix tag t mks S).1,S.fed.set r.toNat (S.fed.getD r.toNat 0 + 1),S.jobs⟩
abbrev zPG (n:Nat) (r kind:Int) (tag:ql) (mks:List MkX) (J:List zD8) (S:jk):jk :=
 ⟨S.M,zBF n S.M tag ((zK0 kind r mks).map mM) S.G,S.fils,S.fed,zJn tag r J⟩
def zJ9 (n:Nat) (r kind ix:Int) (tag:ql) (t:TxX) (mks:List MkX) (S:jk):jk×List DcM :=
 if (zBz r kind ix tag t mks S).2 = false then (zMB r kind ix tag t mks S,[]) else
 if (∃ j ∈ S.jobs,j.tag = tag) then
  if kind = 1 then zFQ n (zMB r kind ix tag t mks S) else zFQ n (zPG n r kind tag mks S.jobs (zMB r kind ix tag t mks S))
 else zFQ n (zPG n r kind tag mks (S.jobs++[⟨tag,zGG t,mks,xS mks⟩]) (zMB r kind ix tag t mks S))
abbrev zGr (n:Nat) (r kind ix:Int) (tag:ql) (t:TxX) (mks:List MkX):Prop:=zFm kind ix∧zDO 3 tag t mks∧(0 ≤ r∧r < n)∧zDO (n:Int) tag t mks
def j5 (n:Nat) (r kind ix:Int) (tag:ql) (t:TxX) (mks:List MkX) (S:jk):jk×List DcM :=
 if zGr n r kind ix tag t mks then zJ9 n r kind ix tag t mks S else (S,[])
structure FX where
 b:Nat
 rg:Int
 f:zHk
abbrev zIJ (x:FX):Option Addr:=some ⟨x.b,0,none⟩
def zEh (N:Nat) (x:FX):zB:=zDt x.b x.rg N x.f
structure zFR (n T:Nat) (S:jk) (F:List FX) (J:List zAp):Prop where
 n1:1 ≤ n
 n3:n ≤ 3
 fils:F.map FX.f = S.fils
 rgs:F.map FX.rg = (List.range n).map fun i:Nat=>(i:Int)
 fedl:S.fed.length = n
 fedr:∀ x ∈ S.fed,0 ≤ x∧x ≤ T
 jobs:J.map zB3 = S.jobs
 ok:∀ j ∈ J,zYv n j
 jl:J.length ≤ T
 gz:∃ K,SzG K S.G∧K + J.length ≤ 40 * T
 ml:S.M.length + 32 * J.length ≤ 40 * T
abbrev zEN (sd st l n T:Nat) (S:jk) (a b c:Sl) (F:List FX) (J:List zAp) (Γ:List zB):List zB :=
 zKT sd st l n S.M S.G a b c J (SlC uW 1 a ((F.map zIJ).map Value.pointer)::Sep.stars (F.map (zEh T))::SlI b S.fed::Γ)
def zBG (sd n T:Nat) (S:jk):zB:=ex fun st=>ex fun l=>ex fun a:Sl=>ex fun b:Sl=>ex fun c:Sl=>ex fun F:List FX=>ex fun J:List zAp=>Sep.stars (pur (zFR n T S F J)::zEN sd st l n T S a b c F J [])
section
variable {B:World} {Γ Δ:List zB} {k:K} {sd st l n T:Nat} {S:jk} {a b c:Sl} {F:List FX} {J:List zAp} {t:TxX} {mks:List MkX} {ms:Sl} {tag:ql}
instance (priority:=high) zbI:Sep.Own sd (zBG sd n T S::Γ) (zBG sd n T S) Γ:=⟨.refl _⟩
theorem zHz (h:∀ st l a b c F J,zFR n T S F J→HG B (zEN sd st l n T S a b c F J Γ) k):HG B (zBG sd n T S::Γ) k :=
 zC1 fun st=>zC1 fun l=>zC1 fun a=>zC1 fun b=>zC1 fun c=>zC1 fun F=>zC1 fun J=>zBX <| zGU fun h1=>h st l a b c F J h1
theorem zB4 (h1:zFR n T S F J) (h:HG B (zBG sd n T S::Γ) k):HG B (zEN sd st l n T S a b c F J Γ) k:=fun w hw=>by
 refine h w ?_
 have h3:Holds B (Sep.stars (pur (zFR n T S F J)::zEN sd st l n T S a b c F J [])::Γ) w:=Holds.flat.2 (Holds.pur.2 ⟨h1,hw⟩)
 exact h3.imp fun g hg=>⟨st,l,a,b,c,F,J,hg⟩
theorem zR1 {s:Sl} {L:List MkX} {Q:Sl→K} (hr:∀ w,Holds B Γ w→RdC w s 3 (L.flatMap mkL)) (hl:L.length ≤ 20000000) (h:∀ s',HG B (SlC yu 3 s' (L.flatMap mkL)::Γ) (Q s')):HG B Γ (qj.call s Q):=by
 refine fun w hw=>zCS _ _ _ ?_
 refine hg hw ?_
 clear hw w
 unfold qj
 exact zFY (us:=L.flatMap mkL) hr (zWL _) (by rw [zn _ 3 zDE]; omega) (by omega) fun s' _=>h s'
theorem zKA {Q:Array Value→K} (hr:∀ w,Holds B Γ w→zCs w t) (hm:∀ w,Holds B Γ w→RdC w ms 3 (mks.flatMap mkL)) (hl:t.reads.length ≤ 1000∧t.writes.length ≤ 1000∧t.ops.length ≤ 1000∧∀ x ∈ t.ops,x.1.val.length ≤ 1000000) (hml:mks.length ≤ 1000)
  (h:∀ t' ms',zUR t' t→HG B (SlC yu 3 ms' (mks.flatMap mkL)::txC t' Γ) (Q (orV tag t' ms').toArray)):HG B Γ (zCf.call (orV tag t ms).toArray Q):=by
 refine fun w hw=>zMd _ _ _ ?_
 refine hg hw ?_
 clear hw w
 unfold zCf
 refine zR fun o1=>?_
 refine zR fun t2=>?_
 repeat refine zh ?_
 refine zTX (t:=t) (fun w hw=>hr w hw.drops) hl fun t' ht'=>?_
 repeat refine zh ?_
 refine zR1 (L:=mks) (fun w hw=>hm w hw.drops) (by omega) fun ms'=>?_
 refine zR0 (b:=o1) (off:=4) (us:=txL t') (orV tag t' ms) ?_
 repeat refine zh ?_
 exact zC (h t' ms' ht')
theorem zR2 {s:Sl} {L:List Int} {rb:Nat} {r:Int} {Q:Sl→K} (hL:L.length < 1000000000) (h:∀ s',HG B (SlI s' (L.filter fun x=>!decide (x = r))::Γ) (Q s')) [p:Sep.Own rb Γ (blk rb (.cells [.int .i64 r].toArray zAs (0,0))) Δ] :
  HG B (SlI s L::Γ) (yK.call s (.func (.func 61) #[] #[.pointer (some ⟨rb,0,none⟩)]) Q):=by
 refine fun w hw=>zDb _ _ _ _ ?_
 refine hg hw ?_
 clear hw w
 show HG B _ (zVl Tryz.prog qc.call zPs 0 (Value.int .i64) s (.func (.func 61) #[] #[.pointer (some ⟨rb,0,none⟩)]) Q)
 refine zXe (R:=fun _=>Γ) (L:=L) (c:=Value.int .i64) (fun (_:Unit) x=>decide (x = r)) (fun _ _=>()) () (fun _ _=>True) trivial (fun _ _ _ _=>trivial) (fun s fv Q w h=>zDq _ _ _ _ h) (fun _=>rfl) hL (fun Ξ g x C q _ _ hq=>?_) fun s' _=>?_
 ·refine zEV (cs:=[.pointer (some ⟨rb,0,none⟩)]) ?_
  refine fun w hw=>zF8 _ _ _ _ ?_
  refine hg hw ?_
  clear hw w
  unfold zBI
  refine yD (b:=rb) (l:=[.int .i64 r]) (x:=r) ?_
  exact hq
 ·rw [zJR]
  exact h s'
theorem zX1 {r:Int} {Q:Sl→K} (hm:∀ w,Holds B Γ w→RdC w ms 3 (mks.flatMap mkL)) (hml:mks.length ≤ 1000) (h:∀ s,HG B (SlC yu 3 s ((mks.filter fun m=>decide (m.home = r)).flatMap mkL)::Γ) (Q s)):HG B Γ (uZ.call (orV tag t ms).toArray r Q):=by
 refine fun w hw=>zMf _ _ _ _ ?_
 have hmn:ms.n = mks.length:=zAb zDE (by omega) (hm w hw)
 refine hg (show Holds B (SlC yu 3 ⟨none,0,0⟩ []::Γ) w from hw.zAk _ _) ?_
 clear hw w
 unfold uZ
 refine zR fun o2=>?_
 refine yD (b:=o2) (off:=9) (l:=orV tag t ms) (x:=ms) ?_
 refine vQ (α:=Sl×Int) (ι:=Nat) (fun x i=>x.2 = (i:Int)∧i ≤ mks.length) (fun x i=>blk o2 (.cells (orV tag t ms).toArray yT (0,0))::SlC yu 3 x.1 (((mks.take i).filter fun m=>decide (m.home = r)).flatMap mkL)::Γ) (fun x i=>mks.length - i) 0 ⟨rfl,Nat.zero_le _⟩ ?_
 rintro k' ⟨o,_⟩ i ⟨rfl,hi⟩ hk'
 simp only at hi hk' ⊢
 unfold uZ.b1
 refine zH (fun hb=>?_) fun hb=>?_
 ·have hil:i < mks.length:=by simp only [decide_eq_true_eq] at hb; omega
  have hge:mks[i]? = some mks[i]:=List.getElem?_eq_getElem hil
  have htk:mks.take (i + 1) = mks.take i++[mks[i]]:=List.take_succ_eq_append_getElem hil
  generalize mks[i] = m at hge htk
  refine yS o fun a1 a2 a3 a4=>?_
  rw [zn _ 3 zDE] at a1
  have hfl:((mks.take i).filter fun m=>decide (m.home = r)).length ≤ 1000:=by
   have:=List.length_filter_le (fun m:MkX=>decide (m.home = r)) (mks.take i)
   rw [List.length_take] at this
   omega
  refine zAw mkL zDE (fun w hw=>hm w hw.tail.tail) hge ?_
  refine zR fun m6=>?_
  refine qX (b:=m6) (l':=mkL m) ?_
  refine yD (b:=m6) (off:=1) (l:=mkL m) (x:=m.home) ?_
  unfold uZ.s2
  refine zH (fun hc=>?_) fun hc=>?_
  ·refine qW (b:=m6) (l:=mkL m) (l':=mkL m) ?_
   refine zBp (cs:=mkL m) ?_
   refine zR fun t20=>?_
   refine xR (s:=o) (esz:=3) (us:=mkL m) (zAX rfl) (by simp [yX]) (by simp only; omega) fun o' _=>?_
   refine qU ?_
   rw [show ((mks.take i).filter fun m=>decide (m.home = r)).flatMap mkL++mkL m = ((mks.take (i + 1)).filter fun m=>decide (m.home = r)).flatMap mkL by rw [htk,List.filter_append]; simp [show m.home = r by simpa using hc]]
   exact zC (hk' (o',(i:Int) + 1) (i + 1) ⟨by simp,hil⟩ (by omega))
  ·refine qU ?_
   rw [show (mks.take i).filter (fun m=>decide (m.home = r)) = (mks.take (i + 1)).filter fun m=>decide (m.home = r) by rw [htk,List.filter_append]; simp [show ¬ m.home = r by simpa using hc]]
   exact zC (hk' (o,(i:Int) + 1) (i + 1) ⟨by simp,hil⟩ (by omega))
 ·have hil:i = mks.length:=by simp only [decide_eq_false_iff_not] at hb; omega
  rw [hil,List.take_length]
  exact zC (h o)
theorem zMC {r:Int} {L:List Int} {q:Bool→K} (hL:L.length = n) (h:HG B (blk sd (.cells (sdL st l a b c).toArray qB (0,0))::SlI b L::Γ) (q (decide (0 ≤ r∧r < n)))):HG B (blk sd (.cells (sdL st l a b c).toArray qB (0,0))::SlI b L::Γ) (qg.call (some ⟨sd,0,none⟩) r q):=by
 refine fun w hw=>zGo _ _ _ _ ?_
 refine hg hw ?_
 clear hw w
 refine yS b fun a1 a2 a3 a4=>?_
 rw [List.length_map,Nat.mul_one] at a1
 unfold qg qg.s1
 refine zH (fun h1=>?_) fun h1=>?_
 ·have h1':0 ≤ r:=by simpa using h1
  refine vg ?_
  refine yD (b:=sd) (off:=3) (l:=sdL st l a b c) (x:=b) ?_
  rw [← a1,hL,show decide (r < (n:Int)) = decide (0 ≤ r∧r < n) by simp [h1']]
  exact h
 ·have h1':¬ 0 ≤ r:=by simpa using h1
  rw [show decide (0 ≤ r∧r < n) = false by simp [h1']] at h
  exact h
theorem zNb {α:Type} {F G:α→zB}:∀ {L:List α} {Γ:List zB} {k:K},(∀ x ∈ L,∀ (Γ':List zB) (k':K),HG B (G x::Γ') k'→HG B (F x::Γ') k')→HG B (Sep.stars (L.map G)::Γ) k→HG B (Sep.stars (L.map F)::Γ) k
 | [],Γ,k,_,h=>h
 | x::L,Γ,k,h1,h=>by
  refine zBX (Δ:=F x::L.map F) ?_
  refine h1 x List.mem_cons_self _ _ ?_
  refine fun w hw=>?_
  refine (zNb (F:=F) (G:=G) (L:=L) (Γ:=G x::Γ) (fun y hy=>h1 y (List.mem_cons_of_mem _ hy)) ?_) w (Holds.flat.2 (hw.perm List.perm_middle.symm))
  exact fun w hw=>h w (Holds.flat.2 ((Holds.flat.1 hw).perm List.perm_middle))
theorem zTf {L:List FX} {N N':Nat} (hN:N ≤ N') (h:HG B (Sep.stars (L.map (zEh N'))::Γ) k):HG B (Sep.stars (L.map (zEh N))::Γ) k :=
 zNb (fun x _ Γ' k' h=>zPE hN h) h
end
end
end Go.Proofs.YtdemfamgieonbaaGreat
namespace Go.Sep
section
open Go Go.RowKit
abbrev zGs (r:Loop):Loop:={ r with state:=.busy }
abbrev zQn (r:Loop) (J:Exit):Loop:={ r with state:=.done,pending:=some (zPq J) }
abbrev zZm (r:Loop):Prop:=r.state = .ready∧r.pending = none
def Aft (B:World) (l:Nat) (r:Loop) (J:Exit) (a j:K):K:=fun w=>(∃ Δ,Holds B (blk l (.loop r)::Δ) w∧HG B Δ a)∨(∃ Δ,Holds B (blk l (.loop (zQn r J))::Δ) w∧HG B Δ j)
section
variable {P:Program} {B:World} {Γ Δ:List zB} {l:Nat} {r:Loop} {J:Exit} {k a j:K}
theorem zWb (h:HG B Δ a) [p:Own l Γ (blk l (.loop r)) Δ]:HG B Γ (Aft B l r J a j):=fun w hw=>.inl ⟨Δ,hw.perm p.perm,h⟩
theorem zWc (h:HG B Δ j) [p:Own l Γ (blk l (.loop (zQn r J))) Δ]:HG B Γ (Aft B l r J a j):=fun w hw=>.inr ⟨Δ,hw.perm p.perm,h⟩
theorem zQo (h:HG B (blk l (.loop (zGs r))::Δ) k) [p:Own l Γ (blk l (.loop r)) Δ]:HG B Γ (zLG l r k):=fun w hw=>
 ⟨(hw.perm p.perm).block,h _ (jX (hw.perm p.perm))⟩
theorem zWd (hr:zZm r) (h:HG B (blk l (.loop r)::Δ) k) [p:Own l Γ (blk l (.loop (zGs r))) Δ]:HG B Γ (zNq l (zGs r) k):=fun w hw=>by
 refine ⟨(hw.perm p.perm).block,h _ ?_⟩
 have h1:=jX (o':=.loop { zGs r with state:=.ready,pending:=none }) (hw.perm p.perm)
 have e:({ zGs r with state:=.ready,pending:=none }:Loop) = r:=by
  obtain ⟨h1,h2⟩:=hr
  cases r; simp only at h1 h2; subst h1; subst h2; rfl
 rw [e] at h1 ⊢
 exact h1
theorem zX2 (h:HG B (blk l (.loop (zQn r J))::Δ) k) [p:Own l Γ (blk l (.loop (zGs r))) Δ]:HG B Γ (zPr l (zGs r) J k):=fun w hw=>
 ⟨(hw.perm p.perm).block,h _ (jX (hw.perm p.perm))⟩
theorem zPH {D:Nat} (h:HG B Δ k) [p:Own D Γ (blk D (.deferred (some []))) Δ]:HG B Γ (jV D k):=fun w hw=>
 zSN (hw.perm p.perm) fun w hw=>h w hw
theorem zTg {f:Value} {args:List Value} {kk:Value→K} (h:HG B Γ (jU P f args (YN (kk (.bool true)) (kk (.bool false))))):HG B Γ (jU P f args kk):=fun w hw=>
 zLA (h w hw) fun v w hv=>by
  rcases hv with ⟨rfl,h⟩ | ⟨rfl,h⟩ <;> exact h
theorem zJo {α:Type} {c:α→Value} {x:α} {k:α→K} (h:HG B Γ (k x)):HG B Γ (yH c k (c x)):=fun w hw=>⟨x,rfl,h w hw⟩
theorem zQp {α:Type} {g:FuncId} {cs:List Value} {cX:α→List Value} {body:(K→K)→K→K→α→K} {after afterJ:Nat→K} (hc:callable P g = true)
  (h:∀ D l r,zZm r→(∀ (x:α) (kN kJ:K) (Δ:List zB),HG B (blk l (.loop r)::Δ) (body (zLG l r) (zNq l (zGs r) kN) (zPr l (zGs r) J kJ) x)→HG B (blk l (.loop r)::Δ) (jU P (yv l) (cX x) (YN kN kJ))) →
   HG B (blk l (.loop r)::blk D (.deferred (some []))::Γ) (zK P g (yv l::cs).toArray fun _=>Aft B l r J (after D) (afterJ D))) :
  HG B Γ (jE P (.func (.func g) #[] cs.toArray) J cX body after afterJ):=fun w hw=>by
 refine ⟨g,cs.toArray,rfl,hc,fun r w1 h1 h2 h3 hw1 hy=>?_⟩
 have h4:=hw.alloc (.deferred (some []))
 have h5:=h4.alloc (.loop r)
 have e:({ w with heap:=w.heap.push (.deferred (some [])) }:World).heap.size = w.heap.size + 1:=by simp
 rw [e] at h5
 subst hw1
 have h6:=h w.heap.size (w.heap.size + 1) r ⟨h1,h2⟩ (fun x kN kJ Δ hb w hw=>⟨_,rfl,hy x kN kJ w hw.block (hb w hw)⟩) _ h5
 refine (show Calls P g (yv (w.heap.size + 1)::cs).toArray _ (Ret _) from h6).mono fun e w3 he=>?_
 cases e with
 | returned v=>
  rcases he with ⟨Δ,h7,h8⟩ | ⟨Δ,h7,h8⟩
  ·exact .inl ⟨h7.block,h8 _ (jX (o':=.loop { r with state:=.exhausted }) h7).tail⟩
  ·exact .inr ⟨h7.block,h8 _ (jX (o':=.loop { r with state:=.exhausted,pending:=some (zPq J) }) h7).tail⟩
 | panicked c=>exact he.elim
 | outgrown=>exact he.elim
end
end
end Go.Sep
