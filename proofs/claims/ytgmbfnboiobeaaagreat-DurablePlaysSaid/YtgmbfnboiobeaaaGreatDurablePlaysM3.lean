/- Texts of the claim DurablePlays, one behind the other. -/
import Derived.Test.YtgmbfnboiobeaaaGreatDurablePlaysM2
import Derived.Shelf.SortM.Plain
import Derived.Shelf.SortM.SortNone
import Derived.Ground.SlgmProg
import Derived.Test.YtgmbfnboiobeaaaGreatProg
import Derived.Maps.RangeRun
set_option linter.all false
set_option maxRecDepth 100000
namespace Go.Proofs.YtgmbfnboiobeaaaGreat
section
open Go Go.Sep
def vQ (b:List UInt8):List UInt8:=if h:b = [] then [] else yP (b.take 1024)++vQ (b.drop 1024)
termination_by b.length
decreasing_by
 have:0 < b.length:=List.length_pos_iff.2 h
 simp; omega
theorem zAg:vQ [] = []:=by rw [vQ,dif_pos rfl]
theorem uy {b:List UInt8} (h:b ≠ []):vQ b = yP (b.take 1024)++vQ (b.drop 1024):=by rw [vQ,dif_neg h]
def yj (b:List UInt8):List UInt8:=yP (vM b.length)++vQ b
theorem zDm:∀ (n:Nat) (b:List UInt8),b.length = n→(vQ b).length ≤ 7 * b.length:=by
 intro n
 induction n using Nat.strongRecOn with
 | _ n ih=>
  intro b hb
  by_cases h:b = []
  ·subst h; rw [zAg]; simp
  ·have hp:0 < b.length:=List.length_pos_iff.2 h
   rw [uy h,List.length_append,qV]
   have:=ih (b.drop 1024).length (by simp; omega) _ rfl
   simp only [List.length_drop,List.length_take] at this ⊢
   omega
section
variable {B w:World} {Γ:List zB}
theorem zHu {s:Sl} {k:Value→K} (h:Holds B Γ w)
  (hk:∀ s2 n3 w,Holds B (blk s2 (.cells #[s.val] zL (0,0))::blk n3 (.cells #[.int .i64 1024] j3 (0,0))::Γ) w→k (.func (.func 121) #[] #[.pointer (some ⟨s2,0,none⟩),.pointer (some ⟨n3,0,none⟩)]) w):qH.call s 1024 k w:=by
 refine zC3 _ _ _ _ ?_
 unfold qH
 refine xE h ?_
 clear h
 intro s2 w h
 try simp only [zR,Nat.zero_add,Nat.reduceAdd]
 refine xE h ?_
 clear h
 intro n3 w h
 try simp only [zR,Nat.zero_add,Nat.reduceAdd]
 refine xQ (x:=(1024:Int)) h rfl (by first | with_reducible exact M0 | with_reducible exact M1 | with_reducible exact M2 | with_reducible exact M3 | with_reducible exact M4 | with_reducible exact M5 | with_reducible exact M6 | with_reducible exact M7 | with_reducible exact M8 | with_reducible exact M9 | with_reducible exact M10 | with_reducible exact M11 | with_reducible exact M12) ?_ ?_
 ·exact rfl
 refine yH (by decide) ?_
 unfold qH.s1
 exact hk s2 n3 _ h.swap
theorem zWR {w:World} {s:Sl} {d:List UInt8} {i n:Nat} (h:RdB w s d) (hi:i + n ≤ s.n) (hcap:s.n ≤ s.c) (hsp:∀ a,s.a = some a→a.spot = none):RdB w ⟨zAB s.a i (i + n) 1,n,n⟩ ((d.drop i).take n):=by
 have h1:=h.take (m:=i + n) (c:=i + n) hi
 have h2:=h1.drop (l:=i) (c:=i + n) (by simp only; omega) (by simp only; omega) hsp
 simp only [Nat.mul_one] at h2
 have e:i + n - i = n:=by omega
 rw [e] at h2
 show RdC w _ 1 (((d.drop i).take n).map qy)
 rw [List.map_take,List.map_drop]
 rw [List.drop_take,e] at h2
 exact h2
theorem zFh {s:Sl} {xs:List UInt8} {k:Sl→K} (hl:xs.length ≤ 100000) (hcap:s.n ≤ s.c) (h:Holds B Γ w) (hr:∀ w,Holds B Γ w→RdB w s xs)
  (hk:∀ f w,Holds B (Bytes zF f (yj xs)::Γ) w→k f w):zCV.call s k w:=by
 have hn:xs.length = s.n:=by have:=(hr w h).len; simpa using this
 refine zNu _ _ _ ?_
 unfold zCV
 refine xE h ?_
 clear h
 intro t10 w h
 try simp only [zR,Nat.zero_add,Nat.reduceAdd]
 rw [← hn]
 refine qP (xI (by omega) (by omega)) ?_
 replace h:=(h.zAv zF 1).swap
 refine zHt (xs:=[]) (n:=xs.length) (by simp; omega) h fun g' w h=>?_
 have hnl:(vM xs.length).length ≤ 3:=xO 2 _ (by omega)
 refine zG1 (by simp; omega) h fun d w h=>?_
 simp only [List.nil_append] at h
 refine zBr (by omega) h (fun w h=>Bytes.rd h List.mem_cons_self) fun f w h=>?_
 refine xE h ?_
 clear h
 intro out w h
 try simp only [zR,Nat.zero_add,Nat.reduceAdd]
 first | refine S0 h rfl ?_ rfl ?_ | refine S1 h rfl ?_ rfl ?_ | refine S2 h rfl ?_ rfl ?_ | refine S3 h rfl ?_ rfl ?_ | refine S4 h rfl ?_ rfl ?_ | refine S5 h rfl ?_ rfl ?_ | refine S6 h rfl ?_ rfl ?_ | refine S7 h rfl ?_ rfl ?_ | refine S8 h rfl ?_ rfl ?_
 ·first | exact Nat.lt_of_ble_eq_true rfl | (simp; done) | (simp; omega)
 clear h
 intro w h
 try simp only [N1,N2,N3,N4,N5,N6,N7] at h
 refine zHu h fun s2 n3 w h=>?_
 refine zOb h rfl (by kernel_rfl) fun D l r w hr1 hr2 h hy=>?_
 have hfl:=zDm _ xs rfl
 refine zHN (zCi (yv l) ⟨s2,0,none⟩ ⟨n3,0,none⟩ (fun w3=>∃ Δ,Holds B (blk l (.loop r)::Δ) w3∧∀ w,Holds B Δ w→(Ld ⟨out,0,none⟩ Sl.val fun t33=>zAl D (k t33)) w) w ?_) fun v w h=>h.2
 unfold qj
 refine yM.of (fun t w=>∃ (i:Nat) (o:Sl) (ys:List UInt8),t = (i:Int)∧i ≤ xs.length + 1024∧ys++vQ (xs.drop i) = yj xs ∧
   Holds B (blk l (.loop r)::blk D (.deferred (some []))::blk s2 (.cells #[s.val] zL (0,0))::blk n3 (.cells #[.int .i64 1024] j3 (0,0))::blk out (.cells #[o.val] zL (0,0))::Bytes zF o ys::Γ) w)
  (fun t _=>((s.n:Int) - t).toNat) ⟨0,f,yP (vM xs.length),rfl,by omega,rfl,by
   replace h:=P5 h
   replace h:=P5 h
   replace h:=P5 h
   replace h:=P5 h
   replace h:=P5 h
   replace h:=P5 h
   replace h:=D6 h
   try simp only [N1,N2,N3,N4,N5,N6,N7] at h
   exact h⟩ ?_
 clear h
 rintro t w ⟨i,o,ys,rfl,hi,he,h⟩
 unfold qj.b1
 refine xQ (x:=s) h rfl (by first | with_reducible exact M0 | with_reducible exact M1 | with_reducible exact M2 | with_reducible exact M3 | with_reducible exact M4 | with_reducible exact M5 | with_reducible exact M6 | with_reducible exact M7 | with_reducible exact M8 | with_reducible exact M9 | with_reducible exact M10 | with_reducible exact M11 | with_reducible exact M12) ?_ ?_
 ·exact rfl
 have hR:∀ w,Holds B (blk l (.loop r)::blk D (.deferred (some []))::blk s2 (.cells #[s.val] zL (0,0))::blk n3 (.cells #[.int .i64 1024] j3 (0,0))::blk out (.cells #[o.val] zL (0,0))::Bytes zF o ys::Γ) w→RdB w s xs:=fun w h=>hr _ h.tail.tail.tail.tail.tail.tail
 refine yJ (fun hb=>?_) (fun hb=>?_)
 ·simp only [decide_eq_true_eq] at hb
  have hne:xs.drop i ≠ []:=fun e=>by have:=congrArg List.length e; simp at this; omega
  rw [uy hne] at he
  have hsp:=zF9 (hR w h) (fun e=>by rw [e] at hn; simp at hn; omega)
  refine zB8 h ?_
  clear h
  intro w h
  refine xQ (x:=(1024:Int)) h rfl (by first | with_reducible exact M0 | with_reducible exact M1 | with_reducible exact M2 | with_reducible exact M3 | with_reducible exact M4 | with_reducible exact M5 | with_reducible exact M6 | with_reducible exact M7 | with_reducible exact M8 | with_reducible exact M9 | with_reducible exact M10 | with_reducible exact M11 | with_reducible exact M12) ?_ ?_
  ·exact rfl
  refine xQ (x:=s) h rfl (by first | with_reducible exact M0 | with_reducible exact M1 | with_reducible exact M2 | with_reducible exact M3 | with_reducible exact M4 | with_reducible exact M5 | with_reducible exact M6 | with_reducible exact M7 | with_reducible exact M8 | with_reducible exact M9 | with_reducible exact M10 | with_reducible exact M11 | with_reducible exact M12) ?_ ?_
  ·exact rfl
  refine ⟨_,by omega,by omega,by omega,by omega,rfl,?_⟩
  simp only [Int.toNat_natCast]
  obtain ⟨m,hm⟩:∃ m:Nat,m = min 1024 (xs.length - i):=⟨_,rfl⟩
  refine qP (e':=(m:Int)) (by split <;> omega) ?_
  refine xQ (x:=s) h rfl (by first | with_reducible exact M0 | with_reducible exact M1 | with_reducible exact M2 | with_reducible exact M3 | with_reducible exact M4 | with_reducible exact M5 | with_reducible exact M6 | with_reducible exact M7 | with_reducible exact M8 | with_reducible exact M9 | with_reducible exact M10 | with_reducible exact M11 | with_reducible exact M12) ?_ ?_
  ·exact rfl
  refine qP (e':=((i + m:Nat):Int)) (by rw [wrap64 (by omega) (by omega)]; omega) ?_
  refine qP (e':=((i + m:Nat):Int)) (by rw [wrap64 (by omega) (by omega)]; omega) ?_
  refine ⟨_,by omega,by omega,by omega,by omega,rfl,?_⟩
  simp only [Int.toNat_natCast,show i + m - i = m by omega]
  have hmt:(xs.drop i).take 1024 = (xs.drop i).take m:=by
   have h1:(xs.drop i).length = xs.length - i:=by simp
   by_cases hle:xs.length - i ≤ 1024
   ·rw [List.take_of_length_le (by omega),List.take_of_length_le (by omega)]
   ·have:m = 1024:=by omega
    rw [this]
  have hyl:ys.length ≤ 800000:=by
   have h1:=congrArg List.length he
   have h2:(yj xs).length ≤ 9 + 7 * xs.length:=by
    unfold yj
    rw [List.length_append,qV]
    omega
   simp only [List.length_append] at h1
   omega
  refine zGp (hy ⟨zAB s.a i (i + m) 1,m,m⟩ (fun w=>∃ o',Holds B (blk l (.loop r)::blk D (.deferred (some []))::blk s2 (.cells #[s.val] zL (0,0))::blk n3 (.cells #[.int .i64 1024] j3 (0,0))::blk out (.cells #[Sl.val o'] zL (0,0))::Bytes zF o' (ys++yP ((xs.drop i).take 1024))::Γ) w) w _ h fun W h=>?_) fun v w hv=>?_
  ·have hc:=fun w (h:Holds B (blk l (.loop { r with state:=.busy })::blk D (.deferred (some []))::blk s2 (.cells #[s.val] zL (0,0))::blk n3 (.cells #[.int .i64 1024] j3 (0,0))::blk out (.cells #[o.val] zL (0,0))::Bytes zF o ys::Γ) w)=>zWR (i:=i) (n:=m) (hr _ h.tail.tail.tail.tail.tail.tail) (by omega) hcap hsp
   rw [hmt]
   have hml:((xs.drop i).take m).length = m:=by simp; omega
   refine zBr (b:=(xs.drop i).take m) (by omega) h hc fun f w h=>?_
   refine xQ (x:=o) h rfl (by first | with_reducible exact M0 | with_reducible exact M1 | with_reducible exact M2 | with_reducible exact M3 | with_reducible exact M4 | with_reducible exact M5 | with_reducible exact M6 | with_reducible exact M7 | with_reducible exact M8 | with_reducible exact M9 | with_reducible exact M10 | with_reducible exact M11 | with_reducible exact M12) ?_ ?_
   ·exact rfl
   have hfl2:=qV ((xs.drop i).take m)
   replace h:=P5 h
   replace h:=P5 h
   replace h:=P5 h
   replace h:=P5 h
   replace h:=P5 h
   replace h:=P5 h
   replace h:=P6 h
   try simp only [N1,N2,N3,N4,N5,N6,N7] at h
   refine zA2 h (Bytes.rd h (List.mem_cons_of_mem _ List.mem_cons_self)) (by omega) fun o' w h _ _=>?_
   first | refine S0 h rfl ?_ rfl ?_ | refine S1 h rfl ?_ rfl ?_ | refine S2 h rfl ?_ rfl ?_ | refine S3 h rfl ?_ rfl ?_ | refine S4 h rfl ?_ rfl ?_ | refine S5 h rfl ?_ rfl ?_ | refine S6 h rfl ?_ rfl ?_ | refine S7 h rfl ?_ rfl ?_ | refine S8 h rfl ?_ rfl ?_
   ·first | exact Nat.lt_of_ble_eq_true rfl | (simp; done) | (simp; omega)
   clear h
   intro w h
   try simp only [N1,N2,N3,N4,N5,N6,N7] at h
   replace h:=P6 h
   replace h:=P6 h
   replace h:=P6 h
   replace h:=P6 h
   replace h:=P6 h
   replace h:=D6 h
   try simp only [N1,N2,N3,N4,N5,N6,N7] at h
   refine zTX h fun w h=>?_
   have e:({ ({ r with state:=.busy }:Loop) with state:=.ready,pending:=none }:Loop) = r:=by
    cases r
    simp only at hr1 hr2
    simp only [hr1,hr2]
   rw [e] at h
   exact ⟨o',h⟩
  ·obtain ⟨rfl,o',h⟩:=hv
   refine ⟨true,rfl,?_⟩
   refine yH rfl ?_
   refine xQ (x:=(1024:Int)) h rfl (by first | with_reducible exact M0 | with_reducible exact M1 | with_reducible exact M2 | with_reducible exact M3 | with_reducible exact M4 | with_reducible exact M5 | with_reducible exact M6 | with_reducible exact M7 | with_reducible exact M8 | with_reducible exact M9 | with_reducible exact M10 | with_reducible exact M11 | with_reducible exact M12) ?_ ?_
   ·exact rfl
   refine qP (e':=((i + 1024:Nat):Int)) (by rw [wrap64 (by omega) (by omega)]; omega) ?_
   refine ⟨⟨i + 1024,o',_,rfl,by omega,?_,h⟩,by omega⟩
   rw [← he,List.append_assoc,List.drop_drop]
 ·simp only [decide_eq_false_iff_not] at hb
  have e0:xs.drop i = []:=List.drop_of_length_le (by omega)
  rw [e0,zAg,List.append_nil] at he
  subst he
  refine ⟨_,h,fun w h=>?_⟩
  refine xQ (x:=o) h rfl (by first | with_reducible exact M0 | with_reducible exact M1 | with_reducible exact M2 | with_reducible exact M3 | with_reducible exact M4 | with_reducible exact M5 | with_reducible exact M6 | with_reducible exact M7 | with_reducible exact M8 | with_reducible exact M9 | with_reducible exact M10 | with_reducible exact M11 | with_reducible exact M12) ?_ ?_
  ·exact rfl
  replace h:=h
  refine zNB h fun w h=>?_
  replace h:=P3 h
  replace h:=D1 h
  replace h:=D1 h
  replace h:=D1 h
  try simp only [N1,N2,N3,N4,N5,N6,N7] at h
  exact hk _ _ h
end
end
section
open Go Go.Sep
theorem zDJ {b:List UInt8} (h:vQ b = []):b = []:=by
 by_cases hb:b = []
 ·exact hb
 ·rw [uy hb] at h
  have:=congrArg List.length h
  rw [List.length_append,qV] at this
  simp at this
theorem zKt (b:List UInt8):b.length ≤ (vQ b).length:=by
 have key:∀ (n:Nat) (b:List UInt8),b.length = n→b.length ≤ (vQ b).length:=by
  intro n
  induction n using Nat.strongRecOn with
  | _ n ih=>
   intro b hb
   by_cases hbn:b = []
   ·subst hbn; simp
   ·have hp:0 < b.length:=List.length_pos_iff.2 hbn
    rw [uy hbn,List.length_append,qV]
    have:=ih (b.drop 1024).length (by simp; omega) _ rfl
    simp only [List.length_drop,List.length_take] at this ⊢
    omega
 exact key _ b rfl
theorem zKu:∀ (m n:Nat),vM m = vM n→m = n:=by
 intro m
 induction m using Nat.strongRecOn with
 | _ m ih=>
  intro n h
  by_cases hm:m < 128
  ·by_cases hn:n < 128
   ·rw [u7 hm,u7 hn] at h
    have:=congrArg UInt8.toNat (List.cons.inj h).1
    rw [u8N,u8N] at this
    omega
   ·rw [u7 hm,zAt hn] at h
    have:=congrArg UInt8.toNat (List.cons.inj h).1
    rw [u8N,u8N] at this
    omega
  ·by_cases hn:n < 128
   ·rw [zAt hm,u7 hn] at h
    have:=congrArg UInt8.toNat (List.cons.inj h).1
    rw [u8N,u8N] at this
    omega
   ·rw [zAt hm,zAt hn] at h
    have h1:=congrArg UInt8.toNat (List.cons.inj h).1
    have h2:=ih (m / 128) (by omega) _ (List.cons.inj h).2
    rw [u8N,u8N] at h1
    omega
theorem zKv {b:List UInt8} (hb:b.length ≤ 1000000):(vM b.length).length ≤ 4096:=by have:=xO 2 b.length (by omega); omega
theorem zDn (b:List UInt8):b.length ≤ (yj b).length:=by
 have:=zKt b
 unfold yj
 rw [List.length_append]; omega
theorem zDo {b:List UInt8} (hb:b.length ≤ 100000):(yj b).length ≤ 9 + 7 * b.length:=by
 have h2:=zDm _ b rfl
 have h3:=xO 2 b.length (by omega)
 unfold yj
 rw [List.length_append,qV]
 omega
theorem zQc (a b:List UInt8) (h:vQ a = vQ b):a = b:=by
 have key:∀ (n:Nat) (a b:List UInt8),a.length = n→vQ a = vQ b→a = b:=by
  intro n
  induction n using Nat.strongRecOn with
  | _ n ih=>
   intro a b hn h
   by_cases ha:a = []
   ·subst ha; rw [zAg] at h; exact (zDJ h.symm).symm
   ·by_cases hb:b = []
    ·subst hb; rw [zAg] at h; exact zDJ h
    ·have hp:0 < a.length:=List.length_pos_iff.2 ha
     rw [uy ha,uy hb] at h
     obtain ⟨h1,h2⟩:=zMV (by simp; omega) (by simp; omega) h
     have h3:=ih (a.drop 1024).length (by simp; omega) _ _ rfl h2
     rw [← List.take_append_drop 1024 a,h1,h3,List.take_append_drop]
 exact key _ a b rfl h
theorem pack_inj {a b:List UInt8} (ha:a.length ≤ 100000) (h:yj a = yj b):a = b:=by
 have h1:=zDn b
 have h2:=zDo ha
 rw [← h] at h1
 have h3:=zMV (zKv (by omega)) (zKv (by omega)) h
 exact zQc _ _ h3.2
section
variable {B w:World} {Γ:List zB}
theorem zIm {s:Sl} {d:List UInt8} {k:Sl→Int→K} (hl:d.length ≤ 100000) (hcap:s.n ≤ s.c) (h:Holds B Γ w) (hr:∀ w,Holds B Γ w→RdB w s d)
  (hok:∀ b f w,yj b = d→Holds B (Bytes zF f b::Γ) w→k f 0 w) (hno:(∀ b,yj b ≠ d)→∀ w,Holds B Γ w→k ⟨none,0,0⟩ 61 w):qx.call s k w:=by
 have hn:d.length = s.n:=by have:=(hr w h).len; simpa using this
 refine zKp _ _ _ ?_
 unfold qx
 refine zCC (by omega) h hr hcap fun f w h=>?_
 replace h:=h.tail
 refine xE h ?_
 clear h
 intro t16 w h
 try simp only [zR,Nat.zero_add,Nat.reduceAdd]
 replace h:=vL (xs:=[]) (n:=0) (by rfl) rfl h
 have hF:=zJg d
 have hF1:=hF.le
 refine yM.of (fun t w=>∃ (i e:Nat) (o:Sl) (b:List UInt8),t = ((i:Int),(e:Int),o)∧i ≤ d.length∧e ≤ 33∧b.length ≤ i ∧
   (∀ b0,yj b0 = d→e = 0∧∃ j,b = b0.take j∧j ≤ b0.length∧d.drop i = vQ (b0.drop j))∧Holds B (Bytes zF o b::Γ) w)
  (fun t _=>2 * ((s.n:Int) - t.1).toNat + (if t.2.1 = 0 then 1 else 0)) ⟨(zP d).2.1,(zP d).2.2,_,[],rfl,hF.le,hF.err,by simp,fun b0 hb0=>?_,h⟩ ?_
 ·have hnl:(vM b0.length).length ≤ 4096:=by
   have h1:(yj b0).length ≤ 100000:=by rw [hb0]; omega
   unfold yj at h1
   rw [List.length_append,qV] at h1
   have h3:(vM b0.length).length ≤ 4∨¬ b0.length < 128 ^ 4:=by
    by_cases hb:b0.length < 128 ^ 4
    ·exact .inl (xO 3 _ hb)
    ·exact .inr hb
   rcases h3 with h3 | h3
   ·omega
   ·exfalso
    have h4:=zKt b0
    omega
  have hu:=zAi (b:=vM b0.length) (vQ b0) hnl
  have hu2:zP d = (vM b0.length,6 + (vM b0.length).length,0):=by rw [← hb0]; exact hu
  rw [hu2]
  refine ⟨rfl,0,rfl,by omega,?_⟩
  rw [← hb0]
  unfold yj
  simp only [List.drop_zero]
  rw [← qV,List.drop_left]
 clear h hF hF1
 rintro t w ⟨i,e,o,b,rfl,hi,he33,hbl,hall,h⟩
 dsimp only
 have hlast:(∀ b0,yj b0 = d→e = 0∧d.drop i = []→b = b0):=fun b0 hb0 hx=>by
  obtain ⟨_,j,h1,h2,h3⟩:=hall b0 hb0
  rw [hx.2] at h3
  have h4:=zDJ h3.symm
  have:b0.length ≤ j:=by have:=congrArg List.length h4; simp at this; omega
  rw [h1,List.take_of_length_le this]
 unfold qx.b1
 refine yJ (fun hb=>?_) (fun hb=>?_)
 ·simp only [decide_eq_true_eq] at hb
  have he0:e = 0:=by omega
  unfold qx.s2
  refine yJ (fun hb2=>?_) (fun hb2=>?_)
  ·simp only [decide_eq_true_eq] at hb2
   refine ⟨_,by omega,by omega,by omega,by omega,rfl,?_⟩
   simp only [Int.toNat_natCast]
   have hsp:=zF9 (hr w h.tail) (fun e=>by rw [e] at hn; simp at hn; omega)
   have hG:=zJg (d.drop i)
   have hG1:=hG.le
   have hG2:=hG.small
   simp only [List.length_drop] at hG1
   refine zCC (d:=d.drop i) (by simp; omega) h (fun w h=>zFg (hr w h.tail) (by omega) hcap hsp) (by simp only; omega) fun f w h=>?_
   have hbb:b.length + (zP (d.drop i)).1.length ≤ i + (zP (d.drop i)).2.1:=by
    by_cases hz:(zP (d.drop i)).2.2 = 0
    ·have:=(hG.ok hz).2.1; omega
    ·have:=(hG.no hz).1; rw [this]; simp; omega
   refine zA2 h.swap (Bytes.rd h List.mem_cons_self) (by omega) fun o' w h _ _=>?_
   replace h:=h.del 1 at1
   try simp only [N1,N2,N3,N4,N5,N6,N7] at h
   refine qP (e':=((i + (zP (d.drop i)).2.1:Nat):Int)) (by rw [wrap64 (by omega) (by omega)]; omega) ?_
   refine ⟨⟨_,_,o',_,rfl,by omega,hG.err,?_,fun b0 hb0=>?_,h⟩,?_⟩
   ·rw [List.length_append]; omega
   ·obtain ⟨_,j,h1,h2,h3⟩:=hall b0 hb0
    have hbn:b0.drop j ≠ []:=fun e=>by
     rw [e,zAg] at h3
     have:=congrArg List.length h3
     simp at this; omega
    rw [uy hbn] at h3
    have hu:=zAi (b:=(b0.drop j).take 1024) (vQ ((b0.drop j).drop 1024)) (by simp; omega)
    rw [← h3] at hu
    rw [hu]
    refine ⟨rfl,min (j + 1024) b0.length,?_,by omega,?_⟩
    ·simp only
     rw [h1,← List.take_add]
     by_cases hle:j + 1024 ≤ b0.length
     ·rw [Nat.min_eq_left hle]
     ·rw [Nat.min_eq_right (by omega),List.take_of_length_le (by omega),List.take_length]
    ·simp only
     rw [← List.drop_drop,h3,← qV,List.drop_left]
     rw [List.drop_drop]
     by_cases hle:j + 1024 ≤ b0.length
     ·rw [Nat.min_eq_left hle]
     ·rw [Nat.min_eq_right (by omega),List.drop_of_length_le (by omega),List.drop_length]
   ·by_cases hz:(zP (d.drop i)).2.2 = 0
    ·have:=(hG.ok hz).1
     simp only [hz,he0]
     split <;> omega
    ·have:=(hG.no hz).2
     have hz2:¬ (((zP (d.drop i)).2.2:Int) = 0):=by omega
     simp only [he0,this,if_neg hz2]
     simp
  ·simp only [decide_eq_false_iff_not] at hb2
   have hdi:d.drop i = []:=List.drop_of_length_le (by omega)
   refine yH (by simp only [decide_eq_false_iff_not]; omega) ?_
   have hsc:=h.zAm
   refine zFh (xs:=b) (by omega) hsc.2.1 h (fun w h=>Bytes.rd h List.mem_cons_self) fun f w h=>?_
   have hpl:(yj b).length ≤ 1000000:=by
    have h2:=zDm _ b rfl
    have h3:=xO 2 b.length (by omega)
    unfold yj
    rw [List.length_append,qV]
    omega
   refine zDk (by omega) h (fun w h=>Bytes.rd h List.mem_cons_self) (fun w h=>hr w h.tail.tail) fun w h=>?_
   unfold qx.s3
   refine yJ (fun hb3=>?_) (fun hb3=>?_)
   ·simp only [Bool.not_eq_true',decide_eq_false_iff_not] at hb3
    refine hno (fun b0 hb0=>?_) _ h.tail.tail
    have:=hlast b0 hb0 ⟨he0,hdi⟩
    rw [this] at hb3
    exact hb3 hb0
   ·simp only [Bool.not_eq_false',decide_eq_true_eq] at hb3
    exact hok b o _ hb3 h.tail
 ·simp only [decide_eq_false_iff_not] at hb
  unfold qx.s2
  refine yH rfl ?_
  refine qO (by simp only [decide_eq_true_eq]; omega) ?_
  unfold qx.s3
  refine qO rfl ?_
  refine hno (fun b0 hb0=>?_) _ h.tail
  have:=(hall b0 hb0).1
  omega
end
end
section
open Go.Proofs Go.Shelf
def zWS:Go.Shelf.Ren:=⟨fun | 6=>104 | 8=>126 | 9=>125 | 19=>141 | 20=>142 | 21=>132 | 22=>133 | 23=>134 | 24=>135 | 25=>136 | 26=>137 | 27=>138 | 28=>139 | 29=>140 | 36=>150 | 31=>151 | 32=>152 | 37=>153 | 38=>154 | 39=>155 | 41=>161 | n=>n,fun | 27=>71 | 29=>9 | 3=>3 | 32=>40 | 26=>71 | 0=>0 | 44=>213 | 46=>33 | 4=>4 | 36=>233 | 35=>232 | 41=>224 | 5=>5 | 9=>9 | 53=>248 | 57=>206 | 63=>257 | 64=>180 | n=>n,fun | n=>n⟩
theorem zRs:Go.Proofs.SlLaysM.n6 Tryz.prog zWS:={
 mixed:=by kernel_rfl
 f6:=⟨Tryz.f104.name,by decide,Tryz.func104.trans (congrArg some (by kernel_rfl))⟩
 f8:=Tryz.func126.trans (congrArg some (by kernel_rfl))
 f9:=⟨Tryz.f125.name,by decide,Tryz.func125.trans (congrArg some (by kernel_rfl))⟩
 f19:=Tryz.func141.trans (congrArg some (by kernel_rfl))
 f20:=Tryz.func142.trans (congrArg some (by kernel_rfl))
 f21:=⟨Tryz.f132.name,by decide,Tryz.func132.trans (congrArg some (by kernel_rfl))⟩
 f22:=⟨Tryz.f133.name,by decide,Tryz.func133.trans (congrArg some (by kernel_rfl))⟩
 f23:=⟨Tryz.f134.name,by decide,Tryz.func134.trans (congrArg some (by kernel_rfl))⟩
 f24:=⟨Tryz.f135.name,by decide,Tryz.func135.trans (congrArg some (by kernel_rfl))⟩
 f25:=⟨Tryz.f136.name,by decide,Tryz.func136.trans (congrArg some (by kernel_rfl))⟩
 f26:=⟨Tryz.f137.name,by decide,Tryz.func137.trans (congrArg some (by kernel_rfl))⟩
 f27:=⟨Tryz.f138.name,by decide,Tryz.func138.trans (congrArg some (by kernel_rfl))⟩
 f28:=⟨Tryz.f139.name,by decide,Tryz.func139.trans (congrArg some (by kernel_rfl))⟩
 f29:=⟨Tryz.f140.name,by decide,Tryz.func140.trans (congrArg some (by kernel_rfl))⟩
 f31:=Tryz.func151.trans (congrArg some (by kernel_rfl))
 f32:=Tryz.func152.trans (congrArg some (by kernel_rfl))
 f36:=⟨Tryz.f150.name,by decide,Tryz.func150.trans (congrArg some (by kernel_rfl))⟩
 f37:=⟨Tryz.f153.name,by decide,Tryz.func153.trans (congrArg some (by kernel_rfl))⟩
 f38:=⟨Tryz.f154.name,by decide,Tryz.func154.trans (congrArg some (by kernel_rfl))⟩
 f39:=⟨Tryz.f155.name,by decide,Tryz.func155.trans (congrArg some (by kernel_rfl))⟩
 f41:=⟨Tryz.f161.name,by decide,Tryz.func161.trans (congrArg some (by kernel_rfl))⟩
 t0:=Tryz.underlying0
 a0:=Tryz.isAgg0
 z0:=Tryz.sizeOf0
 v0:=Tryz.zeroValue0
 t3:=Tryz.underlying3
 a3:=Tryz.isAgg3
 z3:=Tryz.sizeOf3
 v3:=Tryz.zeroValue3
 t4:=Tryz.underlying4
 a4:=Tryz.isAgg4
 z4:=Tryz.sizeOf4
 v4:=Tryz.zeroValue4
 t5:=Tryz.underlying5
 a5:=Tryz.isAgg5
 z5:=Tryz.sizeOf5
 v5:=Tryz.zeroValue5
 t9:=Tryz.underlying9
 a9:=Tryz.isAgg9
 z9:=Tryz.sizeOf9
 v9:=Tryz.zeroValue9
 t26:=Tryz.underlying71
 a26:=Tryz.isAgg71
 z26:=Tryz.sizeOf71
 v26:=Tryz.zeroValue71
 t27:=Tryz.underlying71
 a27:=Tryz.isAgg71
 z27:=Tryz.sizeOf71
 v27:=Tryz.zeroValue71
 t29:=Tryz.underlying9
 a29:=Tryz.isAgg9
 z29:=Tryz.sizeOf9
 v29:=Tryz.zeroValue9
 t32:=Tryz.underlying40
 a32:=Tryz.isAgg40
 z32:=Tryz.sizeOf40
 v32:=Tryz.zeroValue40
 t35:=Tryz.underlying232
 a35:=Tryz.isAgg232
 z35:=Tryz.sizeOf232
 v35:=Tryz.zeroValue232
 t36:=Tryz.underlying233
 a36:=Tryz.isAgg233
 z36:=Tryz.sizeOf233
 v36:=Tryz.zeroValue233
 t41:=Tryz.underlying224
 a41:=Tryz.isAgg224
 z41:=Tryz.sizeOf224
 v41:=Tryz.zeroValue224
 t44:=Tryz.underlying213
 a44:=Tryz.isAgg213
 z44:=Tryz.sizeOf213
 v44:=Tryz.zeroValue213
 t46:=Tryz.underlying33
 a46:=Tryz.isAgg33
 z46:=Tryz.sizeOf33
 v46:=Tryz.zeroValue33
 t53:=Tryz.underlying248
 a53:=Tryz.isAgg248
 z53:=Tryz.sizeOf248
 v53:=Tryz.zeroValue248
 t57:=Tryz.underlying206
 a57:=Tryz.isAgg206
 z57:=Tryz.sizeOf206
 v57:=Tryz.zeroValue206
 t63:=Tryz.underlying257
 a63:=Tryz.isAgg257
 z63:=Tryz.sizeOf257
 v63:=Tryz.zeroValue257
 t64:=Tryz.underlying180
 a64:=Tryz.isAgg180
 z64:=Tryz.sizeOf180
 v64:=Tryz.zeroValue180 }
end
section
open Go Go.Sep
abbrev zCR (ss:List (List UInt8)):List (List UInt8):=ss.mergeSort fun x y=>decide (x ≤ y)
section
variable {B w:World} {Γ:List zB}
theorem holds_grow (h:Holds B Γ w) (os:Array Obj):Holds B Γ (Sort.grow w os):=by
 obtain ⟨l⟩:=os
 induction l generalizing w with
 | nil=>simpa [Sort.grow] using h
 | cons o l ih=>
  have h1:=ih (h.alloc o).tail
  have e:Sort.grow { w with heap:=w.heap.push o } ⟨l⟩ = Sort.grow w ⟨o::l⟩:=by
   have e2:w.heap.push o++(⟨l⟩:Array Obj) = w.heap++(⟨o::l⟩:Array Obj):=by
    apply Array.ext'
    rw [Array.toList_append,Array.toList_append,Array.toList_push,List.append_assoc]
    rfl
   unfold Sort.grow
   rw [← e2]
  rw [e] at h1
  exact h1
theorem zIn {s:Sl} {ss:List (List UInt8)} {k:K} (hl:ss.length ≤ 1000000) (h:Holds B (SlC jN 1 s (ss.map zAR)::Γ) w) (hk:∀ w,Holds B (SlC jN 1 s ((zCR ss).map zAR)::Γ) w→k w):jE.call s k w:=by
 have hsc:=h.zAm
 have hn:ss.length = s.n:=by have:=hsc.1; simpa using this
 unfold jE.call zX
 cases ha:s.a with
 | none=>
  have hs0:s.n = 0:=by have:=hsc.2.2.2 ha; omega
  have hss:ss = []:=List.length_eq_zero_iff.1 (by omega)
  subst hss
  have h1:=AnyM.slices_Sort_string_none zRs none s.c w
  have e:[Sl.val s].toArray = #[.slice none 0 s.c]:=by
   show #[Value.slice s.a s.n s.c] = _
   rw [ha,hs0]
  rw [e]
  refine Calls.mono h1 fun e w' he=>?_
  obtain ⟨rfl,rfl⟩:=he
  exact ⟨rfl,hk _ (by simpa [zCR] using h)⟩
 | some a=>
  obtain ⟨cs,fz,h,hsp,hf,hsz,hr,hlen,hc⟩:=zNa h ha
  obtain ⟨b,off,sp⟩:=a
  simp only at hsp
  subst hsp
  simp only at h hf hsz hr
  have hb:=h.block
  have hH:Sort.Holds Proofs.encStr w b off ss.toArray:=fun j hj=>by
   simp only [List.size_toArray] at hj
   have h1:=hr j (by simpa using hj)
   constructor
   ·refine uz hb ?_
    rw [h1,List.getElem?_map,List.getElem?_eq_getElem hj]
    simp [getElem!_pos,hj]
   ·exact zBT hb (hf _ (by omega) (by omega))
  have h1:=AnyM.slices_Sort_string zRs b off s.c ss w hH (Array.getElem?_eq_some_iff.1 hb).1 (by omega)
  have e:[Sl.val s].toArray = #[.slice (some ⟨b,off,none⟩) ss.length s.c]:=by
   show #[Value.slice s.a s.n s.c] = _
   rw [ha,hn]
  rw [e]
  refine Calls.mono h1 fun e w' he=>?_
  obtain ⟨rfl,n,os,rfl⟩:=he
  refine ⟨rfl,hk _ ?_⟩
  have h2:Holds B (blk b (.cells cs jN fz)::Γ) (Sort.ahead w n):=h.drew _
  have h3:=h2.setBlock (o':=.cells (Sort.putCells Proofs.encStr off (zCR ss).toArray cs) jN fz) rfl
  have e2:({ (Sort.ahead w n) with heap:=(Sort.ahead w n).heap.setIfInBounds b (.cells (Sort.putCells Proofs.encStr off (zCR ss).toArray cs) jN fz) }:World) = Sort.putRow Proofs.encStr (Sort.ahead w n) b off (zCR ss).toArray:=by
   have harr:(Sort.ahead w n).heap.setIfInBounds b (.cells (Sort.putCells Proofs.encStr off (zCR ss).toArray cs) jN fz) = (Sort.ahead w n).heap.modify b (Sort.onCells (Sort.putCells Proofs.encStr off (zCR ss).toArray)):=by
    apply Array.ext_getElem?
    intro i
    rw [Array.getElem?_modify]
    by_cases hi:b = i
    ·subst hi
     rw [if_pos rfl,h2.block,Array.getElem?_setIfInBounds_self_of_lt (Array.getElem?_eq_some_iff.1 h2.block).1]
     rfl
    ·rw [if_neg hi,Array.getElem?_setIfInBounds_ne hi]
   unfold Sort.putRow Sort.mapBlock
   rw [← harr]
  rw [e2] at h3
  have h4:=holds_grow h3 os
  have hsl:(zCR ss).length = ss.length:=by simp [zCR]
  refine zNb (a:=⟨b,off,none⟩) ha h4 ⟨rfl,hf,?_,fun i hi=>?_,by rw [List.length_map,hsl]; simpa using hlen,hc⟩
  ·have:(Sort.putCells Proofs.encStr off (zCR ss).toArray cs).size = cs.size:=by simp [Sort.putCells]
   rw [this]; exact hsz
  ·simp only [List.length_map] at hi
   unfold Sort.putCells
   rw [Array.getElem?_mapIdx]
   have hlt:off + i < cs.size:=by omega
   rw [Array.getElem?_eq_getElem hlt,Option.map_some,if_pos (by simp; omega),List.getElem?_map,List.getElem?_eq_getElem hi,Option.map_some,Nat.add_sub_cancel_left,getElem!_pos (zCR ss).toArray i (by simpa using hi)]
   simp
end
end
end Go.Proofs.YtgmbfnboiobeaaaGreat
namespace Go.Sep
section
open Go Go.RowKit Go.MapKept
section
variable {α β:Type} [DecidableEq α] {P:Program} {B w:World} {Γ:List zB} {enc:α→Value} {cV:β→Value}
def zQd (es:Array MapEntry) (seen:Array Nat) (m:List (α×β)):List (α×β):=((es.toList.zip m).filter fun p=>!seen.contains p.1.born).map Prod.snd
structure ItF (enc:α→Value) (cV:β→Value) (es:Array MapEntry) (c:Nat) (seen:Array Nat) (m left:List (α×β)) (cur:Option (α×β)):Prop where
 rel:zHj enc cV es m
 st:stamps es c
 lf:left = zQd es seen m
 cnt:seen.size + left.length = m.length
 cur:∀ p,cur = some p→∃ (seen':Array Nat) (e:MapEntry),seen = seen'.push e.born∧e ∈ es.toList∧e.key = enc p.1∧e.val = cV p.2
def zBQ (enc:α→Value) (cV:β→Value) (b r:Nat) (m left:List (α×β)) (cur:Option (α×β)):zB:=ex fun es:Array MapEntry=>ex fun c:Nat=>ex fun seen:Array Nat=>
 stars [pur (ItF enc cV es c seen m left cur),blk b (.map es c),blk r (.mapIter (some b) c seen c)]
theorem zBQ.opens {b r:Nat} {m left:List (α×β)} {cur:Option (α×β)} (h:Holds B (zBQ enc cV b r m left cur::Γ) w):∃ es c seen,ItF enc cV es c seen m left cur∧Holds B (blk b (.map es c)::blk r (.mapIter (some b) c seen c)::Γ) w:=by
 obtain ⟨es,h⟩:=Holds.ex.1 h
 obtain ⟨c,h⟩:=Holds.ex.1 h
 obtain ⟨seen,h⟩:=Holds.ex.1 h
 obtain ⟨hp,h⟩:=Holds.pur.1 (Holds.flat.1 h)
 exact ⟨es,c,seen,hp,h⟩
theorem zBQ.shuts {b r:Nat} {m left:List (α×β)} {cur:Option (α×β)} {es:Array MapEntry} {c:Nat} {seen:Array Nat} (hp:ItF enc cV es c seen m left cur) (h:Holds B (blk b (.map es c)::blk r (.mapIter (some b) c seen c)::Γ) w):Holds B (zBQ enc cV b r m left cur::Γ) w :=
 Holds.ex.2 ⟨es,Holds.ex.2 ⟨c,Holds.ex.2 ⟨seen,Holds.flat.2 (Holds.pur.2 ⟨hp,h⟩)⟩⟩⟩
theorem zBQ.ends {b r:Nat} {m left:List (α×β)} {cur:Option (α×β)} (h:Holds B (zBQ enc cV b r m left cur::Γ) w):Holds B (qM enc cV b m::Γ) w:=by
 obtain ⟨es,c,seen,hp,h⟩:=zBQ.opens h
 exact qM.shuts ⟨hp.rel,hp.st⟩ (h.del 1 rfl)
theorem zPJ {es:Array MapEntry} {m:List (α×β)} (h:zHj enc cV es m):es.toList.length = m.length:=by have:=congrArg List.length h; simpa using this
theorem zUf {es:Array MapEntry} {m:List (α×β)} (h:zHj enc cV es m):∀ p ∈ es.toList.zip m,p.1.key = enc p.2.1∧p.1.val = cV p.2.2:=by
 intro p hp
 obtain ⟨i,hi⟩:=List.getElem?_of_mem hp
 rw [List.getElem?_zip_eq_some] at hi
 have:=zKA h i
 rw [hi.1,hi.2] at this
 simp only [Option.map_some,Option.some.injEq,Prod.mk.injEq] at this
 exact this
theorem zRt {T E:TypeId} {d:TypeDesc} {b:Nat} {m:List (α×β)} {k:Option Addr→K} (hT:zE3 P T d E) (h:Holds B (qM enc cV b m::Γ) w) (hk:∀ r w,Holds B (zBQ enc cV b r m m none::Γ) w→k (some ⟨r,0,none⟩) w) :
  Do P (Instr.range T (.map (some b))) Value.pointer k w:=by
 obtain ⟨kt,hT,hd⟩:=hT
 obtain ⟨es,c,⟨hr,hst⟩,h⟩:=qM.opens h
 have hb:=h.block
 refine ⟨some ⟨w.heap.size,0,none⟩,{ w with heap:=w.heap.push (.mapIter (some b) c #[] c) },?_,hk _ _ (zBQ.shuts (seen:=#[]) ⟨hr,hst,?_,by simp,fun p hp=>by cases hp⟩ (h.alloc _).swap)⟩
 ·unfold Instr.range
  simp only [Sem.run_bind,run_underlying hT,Result.andThen,MapKept.run_getObj_map hb,Sem.run_pure]
  rfl
 ·unfold zQd
  have e:(es.toList.zip m).filter (fun p=>!(#[]:Array Nat).contains p.1.born) = es.toList.zip m:=List.filter_eq_self.2 (fun p _=>by simp)
  rw [e,List.map_snd_zip (by rw [zPJ hr]; exact Nat.le_refl _)]
theorem zIo {es:List MapEntry} {m:List (α×β)} (seen:Array Nat) (hn:(es.map (·.born)).Nodup) (hl:es.length = m.length) {e:MapEntry} (he:e ∈ es.filter (fun e=>!seen.contains e.born)) :
  ∃ l1 p l2,(e,p) ∈ es.zip m∧((es.zip m).filter fun p=>!seen.contains p.1.born).map Prod.snd = l1++p::l2∧((es.zip m).filter fun p=>!(seen.push e.born).contains p.1.born).map Prod.snd = l1++l2:=by
 induction es generalizing m with
 | nil=>simp at he
 | cons x es ih=>
  cases m with
  | nil=>simp at hl
  | cons q m=>
   simp only [List.map_cons,List.nodup_cons] at hn
   simp only [List.zip_cons_cons]
   by_cases hx:x = e
   ·subst hx
    have hxs:(!seen.contains x.born) = true:=(List.mem_filter.1 he).2
    refine ⟨[],q,((es.zip m).filter fun p=>!seen.contains p.1.born).map Prod.snd,List.mem_cons_self,?_,?_⟩
    ·simp only [List.filter_cons]; rw [if_pos hxs]; rfl
    ·simp only [List.filter_cons]
     rw [if_neg (by simp)]
     simp only [List.nil_append]
     congr 1
     refine List.filter_congr fun p hp=>?_
     have hpe:p.1.born ≠ x.born:=fun heq=>hn.1 (by rw [← heq]; exact List.mem_map_of_mem (List.of_mem_zip hp).1)
     simp [Array.contains_push,hpe]
   ·have he2:e ∈ es.filter (fun e=>!seen.contains e.born):=by
     have h1:=List.mem_filter.1 he
     rcases List.mem_cons.1 h1.1 with h2 | h2
     ·exact absurd h2.symm hx
     ·exact List.mem_filter.2 ⟨h2,h1.2⟩
    obtain ⟨l1,p,l2,h1,h2,h3⟩:=ih hn.2 (by simpa using hl) he2
    have hxb:x.born ≠ e.born:=fun heq=>hn.1 (by rw [heq]; exact List.mem_map_of_mem (List.mem_filter.1 he2).1)
    by_cases hs:(!seen.contains x.born) = true
    ·refine ⟨q::l1,p,l2,List.mem_cons_of_mem _ h1,?_,?_⟩
     ·simp only [List.filter_cons]
      rw [if_pos hs,List.map_cons,h2]; rfl
     ·simp only [List.filter_cons]
      rw [if_pos (by simp [Array.contains_push,hxb] at hs ⊢; exact hs),List.map_cons,h3]; rfl
    ·refine ⟨l1,p,l2,List.mem_cons_of_mem _ h1,?_,?_⟩
     ·simp only [List.filter_cons]
      rw [if_neg hs,h2]
     ·simp only [List.filter_cons]
      rw [if_neg (by simp [Array.contains_push,hxb] at hs ⊢; exact hs),h3]
theorem zUg {b r:Nat} {m left:List (α×β)} {cur:Option (α×β)} {k:Value→K} (h:Holds B (zBQ enc cV b r m left cur::Γ) w)
  (h0:left = []→∀ w,Holds B (qM enc cV b m::Γ) w→k (.tuple #[.bool false]) w)
  (h1:∀ l1 p l2 w,left = l1++p::l2→p ∈ m→Holds B (zBQ enc cV b r m (l1++l2) (some p)::Γ) w→k (.tuple #[.bool true,enc p.1,cV p.2]) w) :
  Do P (Instr.next (.pointer (some ⟨r,0,none⟩)) false 0) id k w:=by
 have hend:=zBQ.ends h
 obtain ⟨es,c,seen,hp,h⟩:=zBQ.opens h
 have hb:=h.block
 have hr:=h.tail.block
 rcases run_next_at (P:=P) w 0 r b c c seen es c hr hb hp.st.2 (Nat.le_refl _) with ⟨hz,hrun⟩ | ⟨e,he,w1,hw1,hrun⟩
 ·refine ⟨_,w,hrun,h0 ?_ w hend⟩
  rw [hp.lf]
  unfold zQd
  have hnone:es.toList.filter (fun e=>!seen.contains e.born) = []:=by
   have:(leftOf es seen).toList.length = 0:=by simpa using hz
   unfold leftOf at this
   rw [Array.toList_filter] at this
   exact List.length_eq_zero_iff.1 this
  have:(es.toList.zip m).filter (fun p=>!seen.contains p.1.born) = []:=by
   rw [List.filter_eq_nil_iff] at hnone ⊢
   intro p hpz
   exact hnone p.1 (List.of_mem_zip hpz).1
  rw [this]; rfl
 ·have he2:e ∈ es.toList.filter (fun e=>!seen.contains e.born):=by
   unfold leftOf at he
   rw [Array.toList_filter] at he
   exact he
  obtain ⟨l1,p,l2,hz,hl,hl2⟩:=zIo seen hp.st.1 (zPJ hp.rel) he2
  have hkv:=zUf hp.rel _ hz
  simp only at hkv
  refine ⟨_,_,hrun,?_⟩
  show k (.tuple #[.bool true,e.key,e.val]) _
  rw [hkv.1,hkv.2]
  have hw:∃ w',w1 = w'∧Holds B (blk b (.map es c)::blk r (.mapIter (some b) c seen c)::Γ) w':=by
   rcases hw1 with rfl | rfl
   ·exact ⟨_,rfl,h⟩
   ·exact ⟨_,rfl,h.drew _⟩
  obtain ⟨w',rfl,h⟩:=hw
  refine h1 l1 p l2 _ (by rw [hp.lf]; exact hl) (List.of_mem_zip hz).2 (zBQ.shuts (es:=es) (c:=c) (seen:=seen.push e.born) ⟨hp.rel,hp.st,hl2.symm,?_,fun q hq=>?_⟩ ?_)
  ·have h3:=hp.cnt
   have h4:left = l1++p::l2:=by rw [hp.lf]; exact hl
   rw [h4] at h3
   simp only [List.length_append,List.length_cons,Array.size_push] at h3 ⊢
   omega
  ·cases hq
   exact ⟨seen,e,rfl,(List.of_mem_zip hz).1,hkv.1,hkv.2⟩
  ·exact (h.swap.setBlock (o':=.mapIter (some b) c (seen.push e.born) c) rfl).swap
def zKE (r n:Nat) (w:World):Nat:=match w.heap[r]? with
 | some (.mapIter _ _ seen _)=>n - seen.size
 | _=>0
theorem zHv {b r:Nat} {m left:List (α×β)} {cur:Option (α×β)} (h:Holds B (zBQ enc cV b r m left cur::Γ) w):zKE r m.length w = left.length:=by
 obtain ⟨es,c,seen,hp,h⟩:=zBQ.opens h
 have:=hp.cnt
 unfold zKE
 rw [h.tail.block]
 simp only
 omega
theorem zRu {b r:Nat} {m left:List (α×β)} {p:α×β} {k:Value→K} (h:Holds B (zBQ enc cV b r m left (some p)::Γ) w) (hk:k (.tuple #[enc p.1,cV p.2]) w) :
  Do P (Instr.entry (.pointer (some ⟨r,0,none⟩))) id k w:=by
 obtain ⟨es,c,seen,hp,h⟩:=zBQ.opens h
 obtain ⟨seen',e,hs,he,hk1,hk2⟩:=hp.cur p rfl
 subst hs
 refine ⟨_,w,run_entry_at (P:=P) w r b c seen' es c e h.tail.block h.block he hp.st.1,?_⟩
 show k (.tuple #[e.key,e.val]) w
 rw [hk1,hk2]
 exact hk
theorem zMY {zv:Value} {T E:TypeId} {d:TypeDesc} {b:Nat} {m:List (α×β)} {a:α} (hT:zE3 P T d E) (hE:zJa d enc) (hz:zBx P E zv) {es:Array MapEntry} {c:Nat} (hb:w.heap[b]? = some (.map es c)) (hr:zHj enc cV es m) (ok:Bool) :
  (Instr.lookup T (.map (some b)) (enc a) ok).run P w = .ok (if ok then .tuple #[((zO a m).map cV).getD zv,.bool (zO a m).isSome] else ((zO a m).map cV).getD zv) w:=by
 obtain ⟨kt,hT,hd⟩:=hT
 unfold Instr.lookup
 simp only [Sem.run_bind,run_underlying hT,Result.andThen,MapKept.run_getObj_map hb,run_checkKey hd (hE.key a),Sem.run_pure]
 rcases zNo hE hr a with ⟨h1,h2,_⟩ | ⟨j,x,h1,_,_,h2,_⟩
 ·simp only [run_findKey hd h1,Result.andThen,Sem.run_bind,zBI hz,Sem.run_pure,h2]
  cases ok <;> rfl
 ·simp only [run_findKey hd h1,Result.andThen,Sem.run_bind,Sem.run_pure,h2]
  cases ok <;> rfl
end
end
end Go.Sep
namespace Go.Proofs.YtgmbfnboiobeaaaGreat
section
open Go Go.Sep
theorem zDK:zJa .string zAR:=⟨fun _=>trivial,fun a b h=>by
 have h1:bs a = bs b:=by injection h
 have h2:=congrArg (fun x:ByteArray=>x.data.toList) h1
 simpa using h2,fun a=>zO6.bits (bs a)⟩
theorem zKw {l l':List (List UInt8)} (h:l.Perm l'):zCR l = zCR l':=by
 have tr:∀ a b c:List UInt8,decide (a ≤ b) = true→decide (b ≤ c) = true→decide (a ≤ c) = true:=fun a b c h1 h2=>by
  simp only [decide_eq_true_eq] at *
  exact List.le_trans h1 h2
 have tot:∀ a b:List UInt8,(decide (a ≤ b) || decide (b ≤ a)) = true:=fun a b=>by
  simp only [Bool.or_eq_true,decide_eq_true_eq]
  exact List.le_total a b
 refine List.Perm.eq_of_pairwise (le:=fun a b=>decide (a ≤ b) = true) (fun a b _ _ h1 h2=>?_) (List.pairwise_mergeSort tr tot l) (List.pairwise_mergeSort tr tot l') ?_
 ·simp only [decide_eq_true_eq] at h1 h2
  exact List.le_antisymm h1 h2
 ·exact ((List.mergeSort_perm l _).trans h).trans (List.mergeSort_perm l' _).symm
theorem zSi (l:List (List UInt8)):(zCR l).length = l.length:=(List.mergeSort_perm l _).length_eq
theorem zSj {l:List (List UInt8)} {x:List UInt8}:x ∈ zCR l ↔ x ∈ l:=(List.mergeSort_perm l _).mem_iff
abbrev SlS (s:Sl) (ss:List (List UInt8)):zB:=SlC jN 1 s (ss.map zAR)
end
section
open Go Go.Sep
theorem zLo:zE3 Tryz.prog jV .string zBJ:=⟨9,by kernel_rfl,by kernel_rfl⟩
section
variable {B w:World} {Γ:List zB} {β:Type} {cV:β→Value}
theorem zGU {mb t1:Nat} {m:List (List UInt8×β)} {k:Sl→K} (hm:m.length ≤ 1000000) (h:Holds B (blk t1 (.cells #[.map (some mb)] jV (0,0))::qM zAR cV mb m::Γ) w)
  (hk:∀ s ss w,ss.Perm (m.map Prod.fst)→Holds B (SlS s ss::qM zAR cV mb m::Γ) w→k s w):uZ.call (.func (.func 105) #[] #[.pointer (some ⟨t1,0,none⟩)]) k w:=by
 refine zD4 _ _ _ ?_
 unfold uZ
 refine zBl _ _ _ _ ?_
 unfold xV
 refine xE h ?_
 clear h
 intro s2 w h
 try simp only [zR,Nat.zero_add,Nat.reduceAdd]
 refine zOb h rfl (by kernel_rfl) fun D l r w hr1 hr2 h hy=>?_
 refine zHN (zAF (yv l) ⟨t1,0,none⟩ (fun w3=>∃ Δ,Holds B (blk l (.loop r)::Δ) w3∧∀ w,Holds B Δ w→(Ld ⟨s2,0,none⟩ Sl.val fun t12=>zAl D (k t12)) w) w ?_) fun v w h=>h.2
 unfold zx
 refine xQ (x:=(some mb)) h rfl (by first | with_reducible exact M0 | with_reducible exact M1 | with_reducible exact M2 | with_reducible exact M3 | with_reducible exact M4 | with_reducible exact M5 | with_reducible exact M6 | with_reducible exact M7 | with_reducible exact M8 | with_reducible exact M9 | with_reducible exact M10 | with_reducible exact M11 | with_reducible exact M12) ?_ ?_
 ·exact rfl
 replace h:=P3 h
 replace h:=P3 h
 replace h:=P3 h
 replace h:=P3 h
 replace h:=P4 h
 try simp only [N1,N2,N3,N4,N5,N6,N7] at h
 refine zRt zLo h fun r2 w h=>?_
 replace h:=h.del 4 at4
 try simp only [N1,N2,N3,N4,N5,N6,N7] at h
 have h0:=(h.zAv jN 1)
 refine yM.of (fun _ w=>∃ (o:Sl) (ss:List (List UInt8)) (left:List (List UInt8×β)) (cur:Option (List UInt8×β)),(ss++left.map Prod.fst).Perm (m.map Prod.fst) ∧
   Holds B (blk l (.loop r)::blk D (.deferred (some []))::blk s2 (.cells #[o.val] zJF (0,0))::SlS o ss::zBQ zAR cV mb r2 m left cur::Γ) w)
  (fun _ w=>zKE r2 m.length w) ⟨⟨none,0,0⟩,[],m,none,List.Perm.refl _,?_⟩ ?_
 ·replace h:=h0
  replace h:=P1 h
  replace h:=P1 h
  replace h:=P4 h
  replace h:=P4 h
  replace h:=P4 h
  try simp only [N1,N2,N3,N4,N5,N6,N7] at h
  exact h
 clear h h0
 rintro _ w ⟨o,ss,left,cur,hperm,h⟩
 have hcnt:=zHv (h.pick 4 at4)
 have hlen:=hperm.length_eq
 simp only [List.length_append,List.length_map] at hlen
 unfold zx.b1
 replace h:=P3 h
 replace h:=P3 h
 replace h:=P3 h
 replace h:=P3 h
 replace h:=P4 h
 try simp only [N1,N2,N3,N4,N5,N6,N7] at h
 refine zUg h (fun hl0 w h=>?_) (fun l1 p l2 w hl1 hpm h=>?_)
 ·refine ⟨_,false,rfl,rfl,?_⟩
  refine yH rfl ?_
  replace h:=P4 h
  replace h:=P4 h
  replace h:=P4 h
  replace h:=P4 h
  try simp only [N1,N2,N3,N4,N5,N6,N7] at h
  refine ⟨_,h,fun w h=>?_⟩
  refine xQ (x:=o) h rfl (by first | with_reducible exact M0 | with_reducible exact M1 | with_reducible exact M2 | with_reducible exact M3 | with_reducible exact M4 | with_reducible exact M5 | with_reducible exact M6 | with_reducible exact M7 | with_reducible exact M8 | with_reducible exact M9 | with_reducible exact M10 | with_reducible exact M11 | with_reducible exact M12) ?_ ?_
  ·exact rfl
  refine zNB h fun w h=>?_
  replace h:=P2 h
  replace h:=P2 h
  replace h:=D2 h
  try simp only [N1,N2,N3,N4,N5,N6,N7] at h
  rw [hl0] at hperm
  simp only [List.map_nil,List.append_nil] at hperm
  exact hk o ss _ hperm h
 ·refine ⟨_,true,rfl,rfl,?_⟩
  refine qO rfl ?_
  refine zRu h ?_
  refine ⟨_,bs p.1,rfl,rfl,?_⟩
  replace h:=P4 h
  replace h:=P4 h
  replace h:=P4 h
  replace h:=P4 h
  try simp only [N1,N2,N3,N4,N5,N6,N7] at h
  refine zGp (hy (bs p.1) (fun w=>∃ o',Holds B (blk l (.loop r)::blk D (.deferred (some []))::blk s2 (.cells #[Sl.val o'] zJF (0,0))::SlS o' (ss++[p.1])::zBQ zAR cV mb r2 m (l1++l2) (some p)::Γ) w) w _ h fun W h=>?_) fun v w hv=>?_
  ·have hon:ss.length = o.n:=by have:=(h.pick 3 at3).zAm.1; simpa using this
   refine xQ (x:=o) h rfl (by first | with_reducible exact M0 | with_reducible exact M1 | with_reducible exact M2 | with_reducible exact M3 | with_reducible exact M4 | with_reducible exact M5 | with_reducible exact M6 | with_reducible exact M7 | with_reducible exact M8 | with_reducible exact M9 | with_reducible exact M10 | with_reducible exact M11 | with_reducible exact M12) ?_ ?_
   ·exact rfl
   refine xE h ?_
   clear h
   intro t10 w h
   try simp only [zR,Nat.zero_add,Nat.reduceAdd]
   refine zA7 (us:=[zAR p.1]) (h.pick 4 at4) (by kernel_rfl) (by kernel_rfl) (by':=16) (by kernel_rfl) zKZ rfl (RdC.zD2 (E:=jN) (b:=t10) (n:=1) (vs:=[zAR p.1]) (cs:=#[zAR p.1]) h List.mem_cons_self rfl rfl 1) (by simp [qC]) (by simp only; omega) (by decide) fun o' w h _ _=>?_
   try simp only [N1,N2,N3,N4,N5,N6,N7] at h
   first | refine S0 h rfl ?_ rfl ?_ | refine S1 h rfl ?_ rfl ?_ | refine S2 h rfl ?_ rfl ?_ | refine S3 h rfl ?_ rfl ?_ | refine S4 h rfl ?_ rfl ?_ | refine S5 h rfl ?_ rfl ?_ | refine S6 h rfl ?_ rfl ?_ | refine S7 h rfl ?_ rfl ?_ | refine S8 h rfl ?_ rfl ?_
   ·first | exact Nat.lt_of_ble_eq_true rfl | (simp; done) | (simp; omega)
   clear h
   intro w h
   try simp only [N1,N2,N3,N4,N5,N6,N7] at h
   replace h:=P5 h
   replace h:=P1 h
   replace h:=P5 h
   replace h:=P5 h
   replace h:=P5 h
   replace h:=D5 h
   try simp only [N1,N2,N3,N4,N5,N6,N7] at h
   refine zTX h fun w h=>?_
   have e:({ ({ r with state:=.busy }:Loop) with state:=.ready,pending:=none }:Loop) = r:=by
    cases r
    simp only at hr1 hr2
    simp only [hr1,hr2]
   rw [e] at h
   refine ⟨o',?_⟩
   have e2:ss.map zAR++[zAR p.1] = (ss++[p.1]).map zAR:=by simp
   rw [e2] at h
   exact h
  ·obtain ⟨rfl,o',h⟩:=hv
   refine ⟨true,rfl,?_⟩
   refine yH rfl ?_
   have hcnt2:=zHv (h.pick 4 at4)
   refine ⟨⟨o',_,_,_,?_,h⟩,?_⟩
   ·refine List.Perm.trans ?_ hperm
    rw [hl1]
    simp only [List.map_append,List.map_cons,List.append_assoc]
    refine List.Perm.append_left _ ?_
    show (p.1::(l1.map Prod.fst++l2.map Prod.fst)).Perm _
    exact List.perm_middle.symm
   ·rw [hcnt,hcnt2,hl1]
    simp
theorem zIp {mb:Nat} {m:List (List UInt8×β)} {k:Sl→K} (hm:m.length ≤ 1000000) (h:Holds B (qM zAR cV mb m::Γ) w)
  (hk:∀ s w,Holds B (SlS s (zCR (m.map Prod.fst))::qM zAR cV mb m::Γ) w→k s w) :
  yV.call (some mb) (fun t7=>jB.call t7 k) w:=by
 refine zAS _ _ _ ?_
 unfold yV
 refine xE h ?_
 clear h
 intro m1 w h
 try simp only [zR,Nat.zero_add,Nat.reduceAdd]
 refine zEN _ _ _ ?_
 unfold jB
 refine zGU hm h fun s ss w hp h=>?_
 have hl:=hp.length_eq
 rw [List.length_map] at hl
 refine zIn (by omega) h fun w h=>?_
 rw [zKw hp] at h
 exact hk _ _ h
end
end
section
open Go Go.Sep
structure vK where
 data:List UInt8
 last:Nat
structure DkA where
 room:Int
 left:Int
 down:Bool
structure zC where
 a:DkA
 files:List (List UInt8×vK)
structure q9 where
 f:vK
 p:Nat
 s:Sl
abbrev fV (x:q9):Value:=.pointer (some ⟨x.p,0,none⟩)
abbrev fA (f:vK) (s:Sl):Array Value:=#[s.val,.int .i64 (f.last:Int)]
def fB (x:List UInt8×q9):zB:=stars [blk x.2.p (.cells (fA x.2.f x.2.s) zBU (0,0)),Bytes zF x.2.s x.2.f.data]
abbrev dA (a:DkA) (mb:Nat):Array Value:=#[.int .i64 a.room,.map (some mb),.int .i64 a.left,.bool a.down]
abbrev zA3 (fs:List (List UInt8×q9)):List (List UInt8×vK):=fs.map fun p=>(p.1,p.2.f)
def xL (d mb:Nat) (a:DkA) (fs:List (List UInt8×q9)):zB:=stars [blk d (.cells (dA a mb) zAw (0,0)),qM zAR fV mb fs,stars (fs.map fB)]
def zJ (d:Nat) (D:zC):zB:=ex fun mb:Nat=>ex fun fs:List (List UInt8×q9)=>stars [pur (zA3 fs = D.files),xL d mb D.a fs]
section
variable {B w:World} {Γ:List zB}
theorem zJ.opens {d:Nat} {D:zC} (h:Holds B (zJ d D::Γ) w):∃ mb fs,zA3 fs = D.files∧Holds B (xL d mb D.a fs::Γ) w:=by
 obtain ⟨mb,h⟩:=Holds.ex.1 h
 obtain ⟨fs,h⟩:=Holds.ex.1 h
 obtain ⟨hp,h⟩:=Holds.pur.1 (Holds.flat.1 h)
 exact ⟨mb,fs,hp,h⟩
theorem zJ.shuts {d mb:Nat} {D:zC} {a:DkA} {fs:List (List UInt8×q9)} (ha:a = D.a) (hp:zA3 fs = D.files) (h:Holds B (xL d mb a fs::Γ) w):Holds B (zJ d D::Γ) w:=by
 subst ha
 exact Holds.ex.2 ⟨mb,Holds.ex.2 ⟨fs,Holds.flat.2 (Holds.pur.2 ⟨hp,h⟩)⟩⟩
theorem xL.opens {d mb:Nat} {a:DkA} {fs:List (List UInt8×q9)} (h:Holds B (xL d mb a fs::Γ) w):Holds B (blk d (.cells (dA a mb) zAw (0,0))::qM zAR fV mb fs::stars (fs.map fB)::Γ) w:=Holds.flat.1 h
theorem xL.shuts {d mb:Nat} {a:DkA} {fs:List (List UInt8×q9)} (h:Holds B (blk d (.cells (dA a mb) zAw (0,0))::qM zAR fV mb fs::stars (fs.map fB)::Γ) w):Holds B (xL d mb a fs::Γ) w:=Holds.flat.2 h
theorem qw {α β:Type} [DecidableEq α] {k:α} {x:β}:∀ {m:List (α×β)},zO k m = some x→∃ l1 l2,m = l1++(k,x)::l2∧(∀ v,qR k v m = l1++(k,v)::l2)∧vJ k m = l1++l2∧∀ p ∈ l1,p.1 ≠ k
 | [],h=>by cases h
 | p::m,h=>by
  by_cases hk:k = p.1
  ·simp only [zO,if_pos hk,Option.some.injEq] at h
   subst h
   refine ⟨[],m,by rw [hk]; rfl,fun v=>by simp [qR,hk],by simp [vJ,hk],by simp⟩
  ·simp only [zO,if_neg hk] at h
   obtain ⟨l1,l2,h1,h2,h3,h4⟩:=qw h
   refine ⟨p::l1,l2,by rw [h1]; rfl,fun v=>by simp [qR,hk,h2],by simp [vJ,hk,h3],fun q hq=>?_⟩
   rcases List.mem_cons.1 hq with rfl | hq
   ·exact fun e=>hk e.symm
   ·exact h4 q hq
theorem zQe {mb:Nat} {fs fs':List (List UInt8×q9)} (he:fs.map (fun p=>(zAR p.1,fV p.2)) = fs'.map fun p=>(zAR p.1,fV p.2)) (h:Holds B (qM zAR fV mb fs::Γ) w):Holds B (qM zAR fV mb fs'::Γ) w:=by
 obtain ⟨es,c,⟨hr,hst⟩,h⟩:=qM.opens h
 exact qM.shuts ⟨hr.trans he,hst⟩ h
theorem zDB {L M:List zB}:Holds B (stars (L++M)::Γ) w ↔ Holds B (stars L::stars M::Γ) w:=by
 constructor
 ·intro h
  have h1:Holds B ((L++M)++Γ) w:=Holds.flat.1 h
  rw [List.append_assoc] at h1
  have h2:Holds B (M++(L++Γ)) w:=h1.perm (by rw [← List.append_assoc,← List.append_assoc]; exact List.perm_append_comm.append_right Γ)
  have h3:Holds B (stars M::(L++Γ)) w:=Holds.flat.2 h2
  have h4:Holds B (L++(stars M::Γ)) w:=h3.perm List.perm_middle.symm
  exact Holds.flat.2 h4
 ·intro h
  have h1:Holds B (L++(stars M::Γ)) w:=Holds.flat.1 h
  have h2:Holds B (stars M::(L++Γ)) w:=h1.perm List.perm_middle
  have h3:Holds B (M++(L++Γ)) w:=Holds.flat.1 h2
  refine Holds.flat.2 (h3.perm ?_)
  rw [← List.append_assoc]
  exact List.perm_append_comm.append_right Γ
theorem zDL {A:zB} {L:List zB}:Holds B (stars (A::L)::Γ) w ↔ Holds B (A::stars L::Γ) w:=by
 constructor
 ·intro h
  have h1:Holds B (A::(L++Γ)) w:=Holds.flat.1 h
  have h2:Holds B (L++(A::Γ)) w:=h1.perm List.perm_middle.symm
  exact (Holds.flat.2 h2:Holds B (stars L::A::Γ) w).swap
 ·intro h
  have h1:Holds B (L++(A::Γ)) w:=Holds.flat.1 h.swap
  have h2:Holds B (A::(L++Γ)) w:=h1.perm List.perm_middle
  exact Holds.flat.2 h2
theorem zDM {l1 l2:List (List UInt8×q9)} {n:List UInt8} {x:q9} (h:Holds B (stars ((l1++(n,x)::l2).map fB)::Γ) w) :
  Holds B (blk x.p (.cells (fA x.f x.s) zBU (0,0))::Bytes zF x.s x.f.data::stars (l1.map fB)::stars (l2.map fB)::Γ) w:=by
 rw [List.map_append,List.map_cons] at h
 have h1:=(zDB.1 h).swap
 have h2:Holds B (fB (n,x)::stars (l2.map fB)::stars (l1.map fB)::Γ) w:=zDL.1 h1
 have h3:=Holds.flat.1 h2
 simp only [List.cons_append,List.nil_append] at h3
 have h:=h3
 replace h:=P2 h
 replace h:=P3 h
 replace h:=P3 h
 replace h:=P3 h
 try simp only [N1,N2,N3,N4,N5,N6,N7] at h
 exact h
theorem zMZ {l1 l2:List (List UInt8×q9)} {n:List UInt8} {x:q9} (h:Holds B (blk x.p (.cells (fA x.f x.s) zBU (0,0))::Bytes zF x.s x.f.data::stars (l1.map fB)::stars (l2.map fB)::Γ) w) :
  Holds B (stars ((l1++(n,x)::l2).map fB)::Γ) w:=by
 replace h:=P2 h
 replace h:=P3 h
 replace h:=P3 h
 replace h:=P3 h
 try simp only [N1,N2,N3,N4,N5,N6,N7] at h
 have h1:Holds B (fB (n,x)::stars (l2.map fB)::stars (l1.map fB)::Γ) w:=Holds.flat.2 h
 have h2:Holds B (stars (fB (n,x)::l2.map fB)::stars (l1.map fB)::Γ) w:=zDL.2 h1
 rw [List.map_append,List.map_cons]
 exact zDB.2 h2.swap
theorem zMa:zBx Tryz.prog zBJ (.pointer none):=zGN
abbrev zSk (o:Option q9):Option Addr:=o.map fun x=>⟨x.p,0,none⟩
theorem zPK (o:Option q9):(o.map fV).getD (.pointer none) = Value.pointer (zSk o):=by cases o <;> rfl
theorem zRv {mb:Nat} {fs:List (List UInt8×q9)} {n:List UInt8} {k:Option Addr→Bool→K} (i:Nat) (h:Holds B Γ w) (hi:Γ[i]? = some (qM zAR fV mb fs)) (hk:k (zSk (zO n fs)) (zO n fs).isSome w) :
  Rd2 Tryz.prog (Instr.lookup jV (.map (some mb)) (.string (bs n)) true) (fun x y=>.tuple #[Value.pointer x,.bool y]) k w:=by
 obtain ⟨es,c,⟨hr,hst⟩,h⟩:=qM.opens (h.pick i hi)
 have:=zMY (a:=n) zLo zDK zMa h.block hr true
 exact ⟨zSk (zO n fs),_,by rw [zPK] at this; exact this,hk⟩
theorem zWT {mb:Nat} {fs:List (List UInt8×q9)} {n:List UInt8} {k:Option Addr→K} (i:Nat) (h:Holds B Γ w) (hi:Γ[i]? = some (qM zAR fV mb fs)) (hk:k (zSk (zO n fs)) w) :
  Rd Tryz.prog (Instr.lookup jV (.map (some mb)) (.string (bs n)) false) Value.pointer k w:=by
 obtain ⟨es,c,⟨hr,hst⟩,h⟩:=qM.opens (h.pick i hi)
 have:=zMY (a:=n) zLo zDK zMa h.block hr false
 exact ⟨zSk (zO n fs),by rw [zPK] at this; exact this,hk⟩
theorem zG3 {n:List UInt8} {fs:List (List UInt8×q9)}:zO n (zA3 fs) = (zO n fs).map q9.f:=zO8 (fun x:q9=>x.f) n fs
def chg (a:DkA):DkA×Int:=if a.left = 0 then ({ a with down:=true },3) else if 0 < a.left then ({ a with left:=a.left - 1 },0) else (a,0)
def okA (a:DkA):Prop:=-9223372036854775808 < a.left∧a.left ≤ 9223372036854775807
theorem zCl {d mb:Nat} {a:DkA} {fs:List (List UInt8×q9)} {k:Int→K} (ha:okA a) (h:Holds B (xL d mb a fs::Γ) w) (hk:∀ w,Holds B (xL d mb (chg a).1 fs::Γ) w→k (chg a).2 w):qL.call (some ⟨d,0,none⟩) k w:=by
 replace h:=xL.opens h
 obtain ⟨ha1,ha2⟩:=ha
 unfold chg at hk
 refine zGS _ _ _ ?_
 unfold qL
 refine zAZ rfl ?_
 try simp only [zR,Nat.zero_add,Nat.reduceAdd]
 refine xQ (x:=a.left) h rfl (by first | with_reducible exact M0 | with_reducible exact M1 | with_reducible exact M2 | with_reducible exact M3 | with_reducible exact M4 | with_reducible exact M5 | with_reducible exact M6 | with_reducible exact M7 | with_reducible exact M8 | with_reducible exact M9 | with_reducible exact M10 | with_reducible exact M11 | with_reducible exact M12) ?_ ?_
 ·exact rfl
 refine yJ (fun hb=>?_) (fun hb=>?_)
 ·simp only [decide_eq_true_eq] at hb
  rw [if_pos hb] at hk
  first | refine S0 h rfl ?_ rfl ?_ | refine S1 h rfl ?_ rfl ?_ | refine S2 h rfl ?_ rfl ?_ | refine S3 h rfl ?_ rfl ?_ | refine S4 h rfl ?_ rfl ?_ | refine S5 h rfl ?_ rfl ?_ | refine S6 h rfl ?_ rfl ?_ | refine S7 h rfl ?_ rfl ?_ | refine S8 h rfl ?_ rfl ?_
  ·first | exact Nat.lt_of_ble_eq_true rfl | (simp; done) | (simp; omega)
  clear h
  intro w h
  try simp only [N1,N2,N3,N4,N5,N6,N7] at h
  exact hk _ (xL.shuts h)
 simp only [decide_eq_false_iff_not] at hb
 rw [if_neg hb] at hk
 refine xQ (x:=a.left) h rfl (by first | with_reducible exact M0 | with_reducible exact M1 | with_reducible exact M2 | with_reducible exact M3 | with_reducible exact M4 | with_reducible exact M5 | with_reducible exact M6 | with_reducible exact M7 | with_reducible exact M8 | with_reducible exact M9 | with_reducible exact M10 | with_reducible exact M11 | with_reducible exact M12) ?_ ?_
 ·exact rfl
 refine yJ (fun hb2=>?_) (fun hb2=>?_)
 ·simp only [decide_eq_true_eq] at hb2
  rw [if_pos hb2] at hk
  refine xQ (x:=a.left) h rfl (by first | with_reducible exact M0 | with_reducible exact M1 | with_reducible exact M2 | with_reducible exact M3 | with_reducible exact M4 | with_reducible exact M5 | with_reducible exact M6 | with_reducible exact M7 | with_reducible exact M8 | with_reducible exact M9 | with_reducible exact M10 | with_reducible exact M11 | with_reducible exact M12) ?_ ?_
  ·exact rfl
  refine xq (by omega) (by omega) ?_
  first | refine S0 h rfl ?_ rfl ?_ | refine S1 h rfl ?_ rfl ?_ | refine S2 h rfl ?_ rfl ?_ | refine S3 h rfl ?_ rfl ?_ | refine S4 h rfl ?_ rfl ?_ | refine S5 h rfl ?_ rfl ?_ | refine S6 h rfl ?_ rfl ?_ | refine S7 h rfl ?_ rfl ?_ | refine S8 h rfl ?_ rfl ?_
  ·first | exact Nat.lt_of_ble_eq_true rfl | (simp; done) | (simp; omega)
  clear h
  intro w h
  try simp only [N1,N2,N3,N4,N5,N6,N7] at h
  unfold qL.s1
  exact hk _ (xL.shuts h)
 ·simp only [decide_eq_false_iff_not] at hb2
  rw [if_neg hb2] at hk
  unfold qL.s1
  exact hk _ (xL.shuts h)
theorem find_spec {d mb:Nat} {a:DkA} {fs:List (List UInt8×q9)} {n:List UInt8} {k:Option Addr→Int→K} (h:Holds B (xL d mb a fs::Γ) w)
  (hd:a.down = true→∀ w,Holds B (xL d mb a fs::Γ) w→k none 3 w) (hn:a.down = false→zO n fs = none→∀ w,Holds B (xL d mb a fs::Γ) w→k none 60 w)
  (hs:∀ x,a.down = false→zO n fs = some x→∀ w,Holds B (xL d mb a fs::Γ) w→k (some ⟨x.p,0,none⟩) 0 w):ug.call (some ⟨d,0,none⟩) (bs n) k w:=by
 replace h:=xL.opens h
 refine zHn _ _ _ _ ?_
 unfold ug
 refine zAZ rfl ?_
 try simp only [zR,Nat.zero_add,Nat.reduceAdd]
 refine xQ (x:=(some mb)) h rfl (by first | with_reducible exact M0 | with_reducible exact M1 | with_reducible exact M2 | with_reducible exact M3 | with_reducible exact M4 | with_reducible exact M5 | with_reducible exact M6 | with_reducible exact M7 | with_reducible exact M8 | with_reducible exact M9 | with_reducible exact M10 | with_reducible exact M11 | with_reducible exact M12) ?_ ?_
 ·exact rfl
 refine zRv 1 h at1 ?_
 refine xQ (x:=a.down) h rfl (by first | with_reducible exact M0 | with_reducible exact M1 | with_reducible exact M2 | with_reducible exact M3 | with_reducible exact M4 | with_reducible exact M5 | with_reducible exact M6 | with_reducible exact M7 | with_reducible exact M8 | with_reducible exact M9 | with_reducible exact M10 | with_reducible exact M11 | with_reducible exact M12) ?_ ?_
 ·exact rfl
 refine yJ (fun hb=>hd hb _ (xL.shuts h)) (fun hb=>?_)
 cases hm:zO n fs with
 | none=>exact qO rfl (hn hb hm _ (xL.shuts h))
 | some x=>exact yH rfl (hs x hb hm _ (xL.shuts h))
def named (n:List UInt8):Bool:=decide (n ≠ []∧n.length ≤ 16)
theorem zKx {n:List UInt8} {k:Bool→K} (h:Holds B Γ w) (hk:k (named n) w):jY.call (bs n) k w:=by
 refine zLl _ _ _ ?_
 unfold jY
 have e1:(bs n).toList = n:=by rw [show bs n = ByteArray.mk n.toArray from rfl,uT]
 have e2:(⟨#[]⟩:ByteArray).toList = []:=uT []
 have e3:((bs n).size:Int) = (n.length:Int):=by simp [bs,ByteArray.size]
 rw [e1,e2,e3]
 by_cases hn:n = []
 ·refine yH (by simp [hn]) ?_
  unfold jY.s1
  have e:named n = false:=by simp [named,hn]
  rw [e] at hk
  exact hk
 ·refine qO (by simp [hn]) ?_
  unfold jY.s1
  have e:named n = decide ((n.length:Int) ≤ 16):=by
   unfold named
   by_cases h16:n.length ≤ 16
   ·rw [decide_eq_true ⟨hn,h16⟩,decide_eq_true (by omega)]
   ·rw [decide_eq_false (fun hx=>h16 hx.2),decide_eq_false (by omega)]
  rw [e] at hk
  exact hk
def zC.new (room:Int):zC:=⟨⟨room,-1,false⟩,[]⟩
theorem zUh {room:Int} {k:Option Addr→Int→K} (h:Holds B Γ w) (hbad:room < 1∨1048576 < room→k none 1 w) (hok:∀ d w,1 ≤ room→room ≤ 1048576→Holds B (zJ d (.new room)::Γ) w→k (some ⟨d,0,none⟩) 0 w):zAM.call room k w:=by
 refine zPF _ _ _ ?_
 unfold zAM
 have s1:∀ b,(b = true→room < 1∨1048576 < room)→(b = false→1 ≤ room∧room ≤ 1048576)→zAM.s1 k room b w:=fun b h1 h2=>by
  unfold zAM.s1
  refine yJ (fun hb=>hbad (h1 hb)) (fun hb=>?_)
  obtain ⟨h3,h4⟩:=h2 hb
  refine zRi (d:=.string) (E:=zBJ) (enc:=zAR) (cV:=fV) h fun mb w h=>?_
  refine xE h ?_
  clear h
  intro d w h
  try simp only [zR,Nat.zero_add,Nat.reduceAdd]
  exact hok d _ h3 h4 (zJ.shuts (D:=.new room) (mb:=mb) (fs:=[]) rfl rfl (xL.shuts (by
   have h5:=h.zA6
   replace h:=h5
   replace h:=P2 h
   replace h:=P2 h
   try simp only [N1,N2,N3,N4,N5,N6,N7] at h
   exact h)))
 refine yJ (fun hb=>?_) (fun hb=>?_)
 ·simp only [decide_eq_true_eq] at hb
  exact s1 _ (fun _=>.inl hb) (fun h=>by cases h)
 ·simp only [decide_eq_false_iff_not] at hb
  exact s1 _ (fun h=>.inr (by simpa using h)) (fun h=>by simp only [decide_eq_false_iff_not] at h; omega)
end
end
section
open Go Go.Sep
abbrev Files:=List (List UInt8×vK)
def yc:Files→Nat
 | []=>0
 | p::fs=>p.2.data.length + yc fs
theorem zAW (l1 l2:Files):yc (l1++l2) = yc l1 + yc l2:=by
 induction l1 with
 | nil=>simp [yc]
 | cons p l1 ih=>simp only [List.cons_append,yc,ih]; omega
theorem zEQ {fs:Files} {p:List UInt8×vK} (h:p ∈ fs):p.2.data.length ≤ yc fs:=by
 induction fs with
 | nil=>cases h
 | cons q fs ih=>
  rcases List.mem_cons.1 h with rfl | h
  ·simp [yc]
  ·have:=ih h; simp only [yc]; omega
structure OkD (D:zC):Prop where
 room1:1 ≤ D.a.room
 roomN:D.a.room ≤ 1048576
 used:(yc D.files:Int) ≤ D.a.room
 few:D.files.length ≤ 32
 left:okA D.a
 last:∀ p ∈ D.files,p.2.last ≤ p.2.data.length
 nodup:(D.files.map Prod.fst).Nodup
def zC.read (D:zC) (n:List UInt8):List UInt8×Int:=if D.a.down = true then ([],3) else match zO n D.files with
 | none=>([],60)
 | some f=>(f.data,0)
def zC.sync (D:zC) (n:List UInt8):zC×Int:=if D.a.down = true then (D,3) else match zO n D.files with
 | none=>(D,60)
 | some f=>(⟨(chg D.a).1,if (chg D.a).2 = 0 then qR n ⟨f.data,f.data.length⟩ D.files else D.files⟩,(chg D.a).2)
def zC.remove (D:zC) (n:List UInt8):zC×Int:=if D.a.down = true then (D,3) else match zO n D.files with
 | none=>(D,60)
 | some _=>(⟨(chg D.a).1,if (chg D.a).2 = 0 then vJ n D.files else D.files⟩,(chg D.a).2)
def zC.rename (D:zC) (n m:List UInt8):zC×Int:=if D.a.down = true then (D,3) else match zO n D.files with
 | none=>(D,60)
 | some f=>if named m = false then (D,1) else (⟨(chg D.a).1,if (chg D.a).2 = 0 then qR m f (vJ n D.files) else D.files⟩,(chg D.a).2)
def zC.cut (D:zC) (n:List UInt8) (c:Int):zC×Int:=if D.a.down = true then (D,3) else match zO n D.files with
 | none=>(D,60)
 | some f=>if c < 0∨(f.data.length:Int) < c then (D,1) else (⟨(chg D.a).1,if (chg D.a).2 = 0 then qR n ⟨f.data.take c.toNat,min f.last c.toNat⟩ D.files else D.files⟩,(chg D.a).2)
def zC.append (D:zC) (n:List UInt8) (x:List UInt8):zC×Int:=if D.a.down = true then (D,3) else if named n = false then (D,1)
 else if (zO n D.files = none∧32 ≤ D.files.length)∨D.a.room - yc D.files < x.length then (D,2)
 else (⟨(chg D.a).1,qR n ⟨((zO n D.files).getD ⟨[],0⟩).data++x,((zO n D.files).getD ⟨[],0⟩).last⟩ D.files⟩,(chg D.a).2)
theorem zCm (a:DkA):(chg a).1.room = a.room:=by
 unfold chg
 split
 ·rfl
 ·split <;> rfl
theorem zYV {a:DkA} (h:okA a):okA (chg a).1:=by
 obtain ⟨h1,h2⟩:=h
 unfold chg
 split
 ·exact ⟨h1,h2⟩
 ·split
  ·exact ⟨by simp only; omega,by simp only; omega⟩
  ·exact ⟨h1,h2⟩
theorem OkD.chg {D:zC} (h:OkD D):OkD ⟨(chg D.a).1,D.files⟩ :=
 ⟨by rw [zCm]; exact h.room1,by rw [zCm]; exact h.roomN,by rw [zCm]; exact h.used,h.few,zYV h.left,h.last,h.nodup⟩
theorem OkD.set {D:zC} (h:OkD D) {n:List UInt8} {f f':vK} (hm:zO n D.files = some f) (hl:f'.last ≤ f'.data.length) (hu:(yc D.files:Int) - f.data.length + f'.data.length ≤ D.a.room):OkD ⟨D.a,qR n f' D.files⟩:=by
 obtain ⟨l1,l2,h1,h2,_,h4⟩:=qw hm
 have e:=h2 f'
 have hnd:=h.nodup
 have hfew:=h.few
 have hla:=h.last
 rw [h1] at hu hnd hfew hla
 rw [zAW] at hu
 simp only [yc] at hu
 refine ⟨h.room1,h.roomN,?_,?_,h.left,?_,?_⟩
 ·simp only [e,zAW,yc]; omega
 ·simp only [e]; simpa using hfew
 ·simp only [e]
  intro p hp
  rcases List.mem_append.1 hp with hp | hp
  ·exact hla p (List.mem_append_left _ hp)
  ·rcases List.mem_cons.1 hp with rfl | hp
   ·exact hl
   ·exact hla p (List.mem_append_right _ (List.mem_cons_of_mem _ hp))
 ·simp only [e]; simpa using hnd
theorem zAj {α β:Type} [DecidableEq α] {k:α} {m:List (α×β)} (h:zO k m = none):∀ p ∈ m,p.1 ≠ k:=by
 rcases zJJ k m with ⟨_,_,_,h4⟩ | ⟨_,_,_,_,_,h1,_⟩
 ·exact h4
 ·rw [h] at h1; cases h1
theorem OkD.push {D:zC} (h:OkD D) {n:List UInt8} {f:vK} (hm:zO n D.files = none) (hf:D.files.length < 32) (hl:f.last ≤ f.data.length) (hu:(yc D.files:Int) + f.data.length ≤ D.a.room):OkD ⟨D.a,qR n f D.files⟩:=by
 have e:qR n f D.files = D.files++[(n,f)]:=zAV hm
 refine ⟨h.room1,h.roomN,?_,?_,h.left,?_,?_⟩
 ·simp only [e,zAW,yc]; omega
 ·simp only [e,List.length_append,List.length_singleton]; omega
 ·simp only [e]
  intro p hp
  rcases List.mem_append.1 hp with hp | hp
  ·exact h.last p hp
  ·simp only [List.mem_singleton] at hp; subst hp; exact hl
 ·simp only [e,List.map_append,List.map_cons,List.map_nil]
  rw [List.nodup_append]
  refine ⟨h.nodup,by simp,fun x hx y hy=>?_⟩
  simp only [List.mem_singleton] at hy
  subst hy
  obtain ⟨p,hp,rfl⟩:=List.mem_map.1 hx
  exact zAj hm p hp
theorem OkD.del {D:zC} (h:OkD D) {n:List UInt8} {f:vK} (hm:zO n D.files = some f):OkD ⟨D.a,vJ n D.files⟩∧zO n (vJ n D.files) = none∧(vJ n D.files).length + 1 = D.files.length∧yc (vJ n D.files) + f.data.length = yc D.files:=by
 obtain ⟨l1,l2,h1,_,h3,h4⟩:=qw hm
 have hnd:=h.nodup
 have hfew:=h.few
 have hla:=h.last
 have hus:=h.used
 rw [h1] at hnd hfew hla hus
 rw [zAW] at hus
 simp only [yc] at hus
 have hsub:List.Sublist (l1++l2) (l1++(n,f)::l2):=List.Sublist.append (List.Sublist.refl _) (List.sublist_cons_self _ _)
 refine ⟨⟨h.room1,h.roomN,?_,?_,h.left,?_,?_⟩,?_,?_,?_⟩
 ·simp only [h3,zAW]; omega
 ·simp only [h3,List.length_append,List.length_cons] at *; omega
 ·simp only [h3]; exact fun p hp=>hla p (hsub.subset hp)
 ·simp only [h3]; exact hnd.sublist (hsub.map _)
 ·rw [h3]
  cases hx:zO n (l1++l2) with
  | none=>rfl
  | some y=>
   obtain ⟨a1,a2,e1,_⟩:=qw hx
   exfalso
   have hmem:n ∈ (l1++l2).map Prod.fst:=by rw [e1]; simp
   simp only [List.map_append,List.map_cons] at hnd hmem
   rw [List.nodup_append] at hnd
   obtain ⟨g1,g2,g3⟩:=hnd
   rcases List.mem_append.1 hmem with hmem | hmem
   ·exact g3 n hmem n List.mem_cons_self rfl
   ·exact (List.nodup_cons.1 g2).1 hmem
 ·rw [h3,h1]; simp; omega
 ·rw [h3,h1,zAW,zAW]; simp only [yc]; omega
theorem OkD.put {D:zC} (h:OkD D) {n:List UInt8} {f:vK} (hf:D.files.length < 32) (hl:f.last ≤ f.data.length) (hu:(yc D.files:Int) + f.data.length ≤ D.a.room):OkD ⟨D.a,qR n f D.files⟩:=by
 cases hm:zO n D.files with
 | none=>exact h.push hm hf hl hu
 | some g=>exact h.set hm hl (by omega)
section
variable {B w:World} {Γ:List zB}
theorem zG4 {D:zC} {n:List UInt8} {fs:List (List UInt8×q9)} {x:q9} (hp:zA3 fs = D.files) (hx:zO n fs = some x):zO n D.files = some x.f:=by rw [← hp,zG3,hx]; rfl
theorem zEo {D:zC} {n:List UInt8} {fs:List (List UInt8×q9)} (hp:zA3 fs = D.files) (hx:zO n fs = none):zO n D.files = none:=by rw [← hp,zG3,hx]; rfl
theorem zA4 {D:zC} (h:OkD D) {n:List UInt8} {f:vK} (hm:zO n D.files = some f):f.data.length ≤ 1048576∧f.last ≤ f.data.length:=by
 obtain ⟨l1,l2,h1,_⟩:=qw hm
 have hmem:(n,f) ∈ D.files:=by rw [h1]; simp
 have h2:=zEQ hmem
 have h3:=h.used
 have h4:=h.roomN
 exact ⟨by simp only at h2; omega,h.last _ hmem⟩
theorem zBu {d mb:Nat} {a:DkA} {l1 l2:List (List UInt8×q9)} {n:List UInt8} {x:q9} (h:Holds B (xL d mb a (l1++(n,x)::l2)::Γ) w) :
  Holds B (blk x.p (.cells (fA x.f x.s) zBU (0,0))::Bytes zF x.s x.f.data::blk d (.cells (dA a mb) zAw (0,0))::qM zAR fV mb (l1++(n,x)::l2)::stars (l1.map fB)::stars (l2.map fB)::Γ) w:=by
 replace h:=xL.opens h
 replace h:=P1 h
 replace h:=P1 h
 replace h:=P2 h
 try simp only [N1,N2,N3,N4,N5,N6,N7] at h
 replace h:=zDM h
 replace h:=P3 h
 replace h:=P3 h
 replace h:=P5 h
 replace h:=P5 h
 replace h:=P5 h
 replace h:=P5 h
 try simp only [N1,N2,N3,N4,N5,N6,N7] at h
 exact h
theorem zB1 {d mb:Nat} {a:DkA} {l1 l2:List (List UInt8×q9)} {n:List UInt8} {x:q9} {f:vK} {s:Sl} (h:Holds B (blk x.p (.cells (fA f s) zBU (0,0))::Bytes zF s f.data::blk d (.cells (dA a mb) zAw (0,0))::qM zAR fV mb (l1++(n,x)::l2)::stars (l1.map fB)::stars (l2.map fB)::Γ) w) :
  Holds B (xL d mb a (l1++(n,⟨f,x.p,s⟩)::l2)::Γ) w:=by
 replace h:=P3 h
 replace h:=P3 h
 replace h:=P5 h
 replace h:=P5 h
 replace h:=P5 h
 replace h:=P5 h
 try simp only [N1,N2,N3,N4,N5,N6,N7] at h
 have h1:=zMZ (n:=n) (x:=⟨f,x.p,s⟩) h
 clear h
 have h:=h1
 clear h1
 replace h:=P1 h
 replace h:=P2 h
 try simp only [N1,N2,N3,N4,N5,N6,N7] at h
 have h2:=zQe (fs':=l1++(n,⟨f,x.p,s⟩)::l2) (by simp) h
 exact xL.shuts h2.swap
theorem zIq {d:Nat} {D:zC} {n:List UInt8} {k:Sl→Int→K} (hD:OkD D) (h:Holds B (zJ d D::Γ) w) (hk:∀ s w,Holds B (Bytes zF s (D.read n).1::zJ d D::Γ) w→k s (D.read n).2 w):jk.call (some ⟨d,0,none⟩) (bs n) k w:=by
 obtain ⟨mb,fs,hp,h⟩:=zJ.opens h
 refine zHl _ _ _ _ ?_
 unfold jk
 unfold zC.read at hk
 refine find_spec h (fun hd w h=>?_) (fun hd hx w h=>?_) (fun x hd hx w h=>?_)
 ·rw [if_pos hd] at hk
  refine qO rfl ?_
  exact hk _ _ ((zJ.shuts rfl hp h).zAv _ _)
 ·rw [if_neg (by rw [hd]; simp),zEo hp hx] at hk
  refine qO rfl ?_
  exact hk _ _ ((zJ.shuts rfl hp h).zAv _ _)
 ·have hm:=zG4 hp hx
  rw [if_neg (by rw [hd]; simp),hm] at hk
  refine yH rfl ?_
  obtain ⟨l1,l2,e1,_⟩:=qw hx
  rw [e1] at h hp
  replace h:=zBu h
  refine zAZ rfl ?_
  refine xQ (x:=x.s) h rfl (by first | with_reducible exact M0 | with_reducible exact M1 | with_reducible exact M2 | with_reducible exact M3 | with_reducible exact M4 | with_reducible exact M5 | with_reducible exact M6 | with_reducible exact M7 | with_reducible exact M8 | with_reducible exact M9 | with_reducible exact M10 | with_reducible exact M11 | with_reducible exact M12) ?_ ?_
  ·exact rfl
  refine uX h (fun w h=>Bytes.rd h (List.mem_cons_of_mem _ List.mem_cons_self)) (by have:=(zA4 hD hm).1; omega) fun s w h _=>?_
  replace h:=P6 h
  replace h:=P6 h
  replace h:=P6 h
  replace h:=P6 h
  replace h:=P6 h
  replace h:=P6 h
  try simp only [N1,N2,N3,N4,N5,N6,N7] at h
  exact hk s _ (zJ.shuts rfl hp (zB1 h)).swap
theorem zSl {d mb:Nat} {a:DkA} {l1 l2:List (List UInt8×q9)} (h:Holds B (stars (l1.map fB)::stars (l2.map fB)::blk d (.cells (dA a mb) zAw (0,0))::qM zAR fV mb (l1++l2)::Γ) w):Holds B (xL d mb a (l1++l2)::Γ) w:=by
 have h2:=zDB.2 h
 rw [← List.map_append] at h2
 replace h:=h2
 replace h:=P2 h
 replace h:=P2 h
 try simp only [N1,N2,N3,N4,N5,N6,N7] at h
 exact xL.shuts h
theorem zIr {l1 l2:List (List UInt8×q9)} {n:List UInt8} {x:q9} {D:zC} (hp:zA3 (l1++(n,x)::l2) = D.files) (hx:zO n (l1++(n,x)::l2) = some x) (hms:∀ v,qR n v (l1++(n,x)::l2) = l1++(n,v)::l2) (f:vK) (p:Nat) (s:Sl):zA3 (l1++(n,⟨f,p,s⟩)::l2) = qR n f D.files:=by
 rw [← hp,← hms]
 exact (zFc (fun x:q9=>x.f) n (⟨f,p,s⟩:q9) _).symm
theorem zMb {d:Nat} {D:zC} {n:List UInt8} {k:Int→K} (hD:OkD D) (h:Holds B (zJ d D::Γ) w) (hk:∀ w,OkD (D.sync n).1→Holds B (zJ d (D.sync n).1::Γ) w→k (D.sync n).2 w):y8.call (some ⟨d,0,none⟩) (bs n) k w:=by
 obtain ⟨mb,fs,hp,h⟩:=zJ.opens h
 refine zHm _ _ _ _ ?_
 unfold y8
 unfold zC.sync at hk
 refine find_spec h (fun hd w h=>?_) (fun hd hx w h=>?_) (fun x hd hx w h=>?_)
 ·rw [if_pos hd] at hk
  refine yH rfl ?_
  unfold y8.s1 y8.s2
  exact yH rfl (hk _ hD (zJ.shuts rfl hp h))
 ·rw [if_neg (by rw [hd]; simp),zEo hp hx] at hk
  refine yH rfl ?_
  unfold y8.s1 y8.s2
  exact yH rfl (hk _ hD (zJ.shuts rfl hp h))
 ·have hm:=zG4 hp hx
  rw [if_neg (by rw [hd]; simp),hm] at hk
  simp only at hk
  refine qO rfl ?_
  refine zCl hD.left h fun w h=>?_
  unfold y8.s1 y8.s2
  refine yJ (fun hb=>?_) (fun hb=>?_)
  ·simp only [decide_eq_true_eq] at hb
   rw [if_pos hb] at hk
   obtain ⟨l1,l2,e1,hms,_⟩:=qw hx
   rw [e1] at h hp hx hms
   replace h:=zBu h
   refine zAZ rfl ?_
   refine xQ (x:=x.s) h rfl (by first | with_reducible exact M0 | with_reducible exact M1 | with_reducible exact M2 | with_reducible exact M3 | with_reducible exact M4 | with_reducible exact M5 | with_reducible exact M6 | with_reducible exact M7 | with_reducible exact M8 | with_reducible exact M9 | with_reducible exact M10 | with_reducible exact M11 | with_reducible exact M12) ?_ ?_
   ·exact rfl
   have hsn:=Bytes.len h.tail
   try simp only [zR,Nat.zero_add,Nat.reduceAdd]
   first | refine S0 h rfl ?_ rfl ?_ | refine S1 h rfl ?_ rfl ?_ | refine S2 h rfl ?_ rfl ?_ | refine S3 h rfl ?_ rfl ?_ | refine S4 h rfl ?_ rfl ?_ | refine S5 h rfl ?_ rfl ?_ | refine S6 h rfl ?_ rfl ?_ | refine S7 h rfl ?_ rfl ?_ | refine S8 h rfl ?_ rfl ?_
   ·first | exact Nat.lt_of_ble_eq_true rfl | (simp; done) | (simp; omega)
   clear h
   intro w h
   try simp only [N1,N2,N3,N4,N5,N6,N7] at h
   rw [← hsn] at h
   have hdl:=zA4 hD hm
   refine hk _ ((hD.set (f':=⟨x.f.data,x.f.data.length⟩) hm (Nat.le_refl _) (by have:=hD.used; simp only; omega)).chg) (zJ.shuts rfl ?_ (zB1 (f:=⟨x.f.data,x.f.data.length⟩) h))
   exact zIr hp hx hms _ _ _
  ·simp only [decide_eq_false_iff_not] at hb
   rw [if_neg hb] at hk
   exact hk _ hD.chg (zJ.shuts rfl hp h)
theorem zJM {d:Nat} {D:zC} {n:List UInt8} {k:Int→K} (hD:OkD D) (h:Holds B (zJ d D::Γ) w) (hk:∀ w,OkD (D.remove n).1→Holds B (zJ d (D.remove n).1::Γ) w→k (D.remove n).2 w):yY.call (some ⟨d,0,none⟩) (bs n) k w:=by
 obtain ⟨mb,fs,hp,h⟩:=zJ.opens h
 refine zGP _ _ _ _ ?_
 unfold yY
 unfold zC.remove at hk
 refine find_spec h (fun hd w h=>?_) (fun hd hx w h=>?_) (fun x hd hx w h=>?_)
 ·rw [if_pos hd] at hk
  refine yH rfl ?_
  unfold yY.s1 yY.s2
  exact yH rfl (hk _ hD (zJ.shuts rfl hp h))
 ·rw [if_neg (by rw [hd]; simp),zEo hp hx] at hk
  refine yH rfl ?_
  unfold yY.s1 yY.s2
  exact yH rfl (hk _ hD (zJ.shuts rfl hp h))
 ·have hm:=zG4 hp hx
  rw [if_neg (by rw [hd]; simp),hm] at hk
  simp only at hk
  refine qO rfl ?_
  refine zCl hD.left h fun w h=>?_
  unfold yY.s1 yY.s2
  refine yJ (fun hb=>?_) (fun hb=>?_)
  ·simp only [decide_eq_true_eq] at hb
   rw [if_pos hb] at hk
   obtain ⟨l1,l2,e1,hms,hmd,_⟩:=qw hx
   replace h:=xL.opens h
   refine zAZ rfl ?_
   try simp only [zR,Nat.zero_add,Nat.reduceAdd]
   refine xQ (x:=(some mb)) h rfl (by first | with_reducible exact M0 | with_reducible exact M1 | with_reducible exact M2 | with_reducible exact M3 | with_reducible exact M4 | with_reducible exact M5 | with_reducible exact M6 | with_reducible exact M7 | with_reducible exact M8 | with_reducible exact M9 | with_reducible exact M10 | with_reducible exact M11 | with_reducible exact M12) ?_ ?_
   ·exact rfl
   replace h:=P2 h
   replace h:=P1 h
   replace h:=P2 h
   try simp only [N1,N2,N3,N4,N5,N6,N7] at h
   refine zMR (enc:=zAR) (cV:=fV) (a:=n) zLo zDK h fun w h=>?_
   rw [e1] at h hp hx hms hmd
   rw [hmd] at h
   replace h:=P1 h
   replace h:=P2 h
   try simp only [N1,N2,N3,N4,N5,N6,N7] at h
   replace h:=zDM h
   replace h:=(h.del 0 at0).del 0 at0
   try simp only [N1,N2,N3,N4,N5,N6,N7] at h
   refine hk _ (hD.del hm).1.chg (zJ.shuts (mb:=mb) (fs:=l1++l2) rfl ?_ (zSl h))
   show zA3 (l1++l2) = vJ n D.files
   rw [← hp,← hmd]
   exact (zKi (fun x:q9=>x.f) n _).symm
  ·simp only [decide_eq_false_iff_not] at hb
   rw [if_neg hb] at hk
   exact hk _ hD.chg (zJ.shuts rfl hp h)
end
end
section
open Go Go.Sep
section
variable {B w:World} {Γ:List zB}
theorem zIs {fs:List (List UInt8×q9)} {n:List UInt8} {x:q9} (h:Holds B (blk x.p (.cells (fA x.f x.s) zBU (0,0))::Bytes zF x.s x.f.data::stars (fs.map fB)::Γ) w) :
  Holds B (stars ((qR n x fs).map fB)::Γ) w:=by
 cases hm:zO n fs with
 | none=>
  rw [zAV hm]
  replace h:=P1 h
  replace h:=P1 h
  replace h:=P2 h
  try simp only [N1,N2,N3,N4,N5,N6,N7] at h
  have h1:Holds B (stars (fs.map fB)::stars [fB (n,x)]::Γ) w:=by
   refine Holds.swap (zDL.2 ?_)
   have h2:Holds B (fB (n,x)::stars (fs.map fB)::Γ) w:=Holds.flat.2 (by
    replace h:=P2 h
    replace h:=P2 h
    try simp only [N1,N2,N3,N4,N5,N6,N7] at h
    exact h)
   have h3:=h2.zA6
   exact h3.swap
  rw [List.map_append,List.map_cons,List.map_nil]
  exact zDB.2 h1
 | some y=>
  obtain ⟨l1,l2,e1,h2,_⟩:=qw hm
  rw [h2]
  rw [e1] at h
  replace h:=P1 h
  replace h:=P1 h
  replace h:=P2 h
  try simp only [N1,N2,N3,N4,N5,N6,N7] at h
  replace h:=zDM h
  replace h:=(h.del 0 at0).del 0 at0
  try simp only [N1,N2,N3,N4,N5,N6,N7] at h
  replace h:=P1 h
  replace h:=P1 h
  replace h:=P3 h
  replace h:=P3 h
  try simp only [N1,N2,N3,N4,N5,N6,N7] at h
  exact zMZ h
theorem zQf {A A':zB} {l1 l2:List (List UInt8×q9)} (h:Holds B (A::A'::stars (l1.map fB)::stars (l2.map fB)::Γ) w):Holds B (A::A'::stars ((l1++l2).map fB)::Γ) w:=by
 replace h:=P1 h
 replace h:=P1 h
 replace h:=P3 h
 replace h:=P3 h
 try simp only [N1,N2,N3,N4,N5,N6,N7] at h
 have h2:=zDB.2 h
 rw [← List.map_append] at h2
 replace h:=h2
 replace h:=P2 h
 replace h:=P2 h
 try simp only [N1,N2,N3,N4,N5,N6,N7] at h
 exact h
theorem zUi {d:Nat} {D:zC} {n:List UInt8} {c:Int} {k:Int→K} (hD:OkD D) (h:Holds B (zJ d D::Γ) w) (hk:∀ w,OkD (D.cut n c).1→Holds B (zJ d (D.cut n c).1::Γ) w→k (D.cut n c).2 w):zh.call (some ⟨d,0,none⟩) (bs n) c k w:=by
 obtain ⟨mb,fs,hp,h⟩:=zJ.opens h
 refine zIg _ _ _ _ _ ?_
 unfold zh
 unfold zC.cut at hk
 refine find_spec h (fun hd w h=>?_) (fun hd hx w h=>?_) (fun x hd hx w h=>?_)
 ·rw [if_pos hd] at hk
  refine yH rfl ?_
  unfold zh.s4 zh.s1 zh.s2 zh.s3
  exact yH rfl (yH rfl (yH rfl (hk _ hD (zJ.shuts rfl hp h))))
 ·rw [if_neg (by rw [hd]; simp),zEo hp hx] at hk
  refine yH rfl ?_
  unfold zh.s4 zh.s1 zh.s2 zh.s3
  exact yH rfl (yH rfl (yH rfl (hk _ hD (zJ.shuts rfl hp h))))
 ·have hm:=zG4 hp hx
  rw [if_neg (by rw [hd]; simp),hm] at hk
  simp only at hk
  obtain ⟨l1,l2,e1,hms,hmd,_⟩:=qw hx
  rw [e1] at h hp hx hms
  have hdl:=zA4 hD hm
  refine qO rfl ?_
  have bad:(c < 0∨(x.f.data.length:Int) < c)→∀ w,Holds B (xL d mb D.a (l1++(n,x)::l2)::Γ) w→∀ p,zh.s4 k (some ⟨d,0,none⟩) c p 0 true w:=fun hc w h p=>by
   rw [if_pos hc] at hk
   unfold zh.s4 zh.s1 zh.s2 zh.s3
   exact qO rfl (yH rfl (yH rfl (hk _ hD (zJ.shuts rfl hp h))))
  refine yJ (fun hb=>?_) (fun hb=>?_)
  ·simp only [decide_eq_true_eq] at hb
   exact bad (.inl hb) _ h _
  simp only [decide_eq_false_iff_not] at hb
  replace h:=zBu h
  have hsn:=Bytes.len h.tail
  refine zAZ rfl ?_
  refine xQ (x:=x.s) h rfl (by first | with_reducible exact M0 | with_reducible exact M1 | with_reducible exact M2 | with_reducible exact M3 | with_reducible exact M4 | with_reducible exact M5 | with_reducible exact M6 | with_reducible exact M7 | with_reducible exact M8 | with_reducible exact M9 | with_reducible exact M10 | with_reducible exact M11 | with_reducible exact M12) ?_ ?_
  ·exact rfl
  by_cases hc2:(x.f.data.length:Int) < c
  ·rw [decide_eq_true (by omega)]
   exact bad (.inr hc2) _ (zB1 h) _
  rw [decide_eq_false (by omega)]
  rw [if_neg (by omega)] at hk
  obtain ⟨c',hc'⟩:=Int.eq_ofNat_of_zero_le (show 0 ≤ c by omega)
  subst hc'
  simp only [Int.toNat_natCast] at hk
  unfold zh.s4 zh.s1
  refine yH rfl (qO rfl ?_)
  refine zCl hD.left (zB1 h) fun w h=>?_
  unfold zh.s2 zh.s3
  refine yJ (fun hb2=>?_) (fun hb2=>?_)
  ·simp only [decide_eq_true_eq] at hb2
   rw [if_pos hb2] at hk
   replace h:=zBu h
   simp only at h
   have hsc:=h.tail.zAm
   refine zB8 h ?_
   clear h
   intro w h
   refine zAZ rfl ?_
   try simp only [zR,Nat.zero_add,Nat.reduceAdd]
   refine xQ (x:=x.s) h rfl (by first | with_reducible exact M0 | with_reducible exact M1 | with_reducible exact M2 | with_reducible exact M3 | with_reducible exact M4 | with_reducible exact M5 | with_reducible exact M6 | with_reducible exact M7 | with_reducible exact M8 | with_reducible exact M9 | with_reducible exact M10 | with_reducible exact M11 | with_reducible exact M12) ?_ ?_
   ·exact rfl
   refine ⟨_,by omega,by omega,by omega,by omega,rfl,?_⟩
   simp only [Int.toNat_natCast,show (0:Int).toNat = 0 from rfl,zKc hsc.2.2.1,Nat.sub_zero]
   refine xQ (x:=(x.f.last:Int)) h rfl (by first | with_reducible exact M0 | with_reducible exact M1 | with_reducible exact M2 | with_reducible exact M3 | with_reducible exact M4 | with_reducible exact M5 | with_reducible exact M6 | with_reducible exact M7 | with_reducible exact M8 | with_reducible exact M9 | with_reducible exact M10 | with_reducible exact M11 | with_reducible exact M12) ?_ ?_
   ·exact rfl
   refine qP (e':=((min x.f.last c':Nat):Int)) (by split <;> omega) ?_
   first | refine S0 h rfl ?_ rfl ?_ | refine S1 h rfl ?_ rfl ?_ | refine S2 h rfl ?_ rfl ?_ | refine S3 h rfl ?_ rfl ?_ | refine S4 h rfl ?_ rfl ?_ | refine S5 h rfl ?_ rfl ?_ | refine S6 h rfl ?_ rfl ?_ | refine S7 h rfl ?_ rfl ?_ | refine S8 h rfl ?_ rfl ?_
   ·first | exact Nat.lt_of_ble_eq_true rfl | (simp; done) | (simp; omega)
   clear h
   intro w h
   try simp only [N1,N2,N3,N4,N5,N6,N7] at h
   first | refine S0 h rfl ?_ rfl ?_ | refine S1 h rfl ?_ rfl ?_ | refine S2 h rfl ?_ rfl ?_ | refine S3 h rfl ?_ rfl ?_ | refine S4 h rfl ?_ rfl ?_ | refine S5 h rfl ?_ rfl ?_ | refine S6 h rfl ?_ rfl ?_ | refine S7 h rfl ?_ rfl ?_ | refine S8 h rfl ?_ rfl ?_
   ·first | exact Nat.lt_of_ble_eq_true rfl | (simp; done) | (simp; omega)
   clear h
   intro w h
   try simp only [N1,N2,N3,N4,N5,N6,N7] at h
   replace h:=P5 h
   replace h:=P5 h
   replace h:=P5 h
   replace h:=P5 h
   replace h:=P4 h
   replace h:=P5 h
   try simp only [N1,N2,N3,N4,N5,N6,N7] at h
   replace h:=(h.imp (SlC.cut (m:=c') (by omega))).swap
   rw [Nat.mul_one,← List.map_take] at h
   have hu:=hD.used
   refine hk _ ((hD.set (f':=⟨x.f.data.take c',min x.f.last c'⟩) hm (by simp; omega) (by simp; omega)).chg) (zJ.shuts rfl ?_ (zB1 (f:=⟨x.f.data.take c',min x.f.last c'⟩) (s:=⟨x.s.a,c',c'⟩) (x:=⟨x.f,x.p,x.s⟩) h))
   exact zIr hp hx hms _ _ _
  ·simp only [decide_eq_false_iff_not] at hb2
   rw [if_neg hb2] at hk
   exact hk _ hD.chg (zJ.shuts rfl hp h)
end
end
section
open Go Go.Sep
def zDN:List (List UInt8×q9)→Nat
 | []=>0
 | p::fs=>p.2.f.data.length + zDN fs
theorem zMc (l1 l2:List (List UInt8×q9)):zDN (l1++l2) = zDN l1 + zDN l2:=by
 induction l1 with
 | nil=>simp [zDN]
 | cons p l1 ih=>simp only [List.cons_append,zDN,ih]; omega
theorem zPL (fs:List (List UInt8×q9)):zDN fs = yc (zA3 fs):=by
 induction fs with
 | nil=>rfl
 | cons p fs ih=>simp only [zDN,zA3,List.map_cons,yc,ih]
section
variable {B w:World} {Γ:List zB}
theorem zWU {fs:List (List UInt8×q9)} {p:List UInt8×q9} (i:Nat) (h:Holds B Γ w) (hi:Γ[i]? = some (stars (fs.map fB))) (hp:p ∈ fs) :
  w.cell? ⟨p.2.p,0,none⟩ = some p.2.s.val∧w.cell? ⟨p.2.p,1,none⟩ = some (.int .i64 (p.2.f.last:Int))∧p.2.f.data.length = p.2.s.n∧RdB w p.2.s p.2.f.data∧p.2.s.n ≤ p.2.s.c∧(∀ a,p.2.s.a = some a→a.spot = none):=by
 obtain ⟨l1,l2,rfl⟩:=List.append_of_mem hp
 have h1:=zDM (n:=p.1) (x:=p.2) (h.pick i hi)
 have hb:=h1.block
 have hl:=Bytes.len h1.tail
 have hsc:=h1.tail.zAm
 exact ⟨uz hb rfl,uz hb rfl,hl,Bytes.rd h1 (List.mem_cons_of_mem _ List.mem_cons_self),hsc.2.1,hsc.2.2.1⟩
theorem zSm {d mb:Nat} {a:DkA} {fs:List (List UInt8×q9)} {k:Int→K} (hu:zDN fs ≤ 100000000) (h:Holds B (xL d mb a fs::Γ) w) (hk:∀ w,Holds B (xL d mb a fs::Γ) w→k (zDN fs:Int) w):uh.call (some ⟨d,0,none⟩) k w:=by
 replace h:=xL.opens h
 refine zHo _ _ _ ?_
 unfold uh
 refine zAZ rfl ?_
 try simp only [zR,Nat.zero_add,Nat.reduceAdd]
 refine xQ (x:=(some mb)) h rfl (by first | with_reducible exact M0 | with_reducible exact M1 | with_reducible exact M2 | with_reducible exact M3 | with_reducible exact M4 | with_reducible exact M5 | with_reducible exact M6 | with_reducible exact M7 | with_reducible exact M8 | with_reducible exact M9 | with_reducible exact M10 | with_reducible exact M11 | with_reducible exact M12) ?_ ?_
 ·exact rfl
 replace h:=P2 h
 replace h:=P1 h
 replace h:=P2 h
 try simp only [N1,N2,N3,N4,N5,N6,N7] at h
 refine zRt zLo h fun r w h=>?_
 refine yM.of (fun t w=>∃ (n:Nat) (left:List (List UInt8×q9)) (cur:Option (List UInt8×q9)),t = (n:Int)∧n + zDN left = zDN fs∧Holds B (zBQ zAR fV mb r fs left cur::blk d (.cells (dA a mb) zAw (0,0))::stars (fs.map fB)::Γ) w) (fun _ w=>zKE r fs.length w) ⟨0,fs,none,rfl,by omega,h⟩ ?_
 clear h
 rintro t w ⟨n,left,cur,rfl,hn,h⟩
 have hcnt:=zHv h
 unfold uh.b1
 refine zUg h (fun hl0 w h=>?_) (fun l1 p l2 w hl1 hpm h=>?_)
 ·refine ⟨_,false,rfl,rfl,?_⟩
  refine yH rfl ?_
  rw [hl0] at hn
  simp only [zDN,Nat.add_zero] at hn
  rw [hn]
  replace h:=P2 h
  replace h:=P1 h
  replace h:=P2 h
  try simp only [N1,N2,N3,N4,N5,N6,N7] at h
  exact hk _ (xL.shuts h)
 ·refine ⟨_,true,rfl,rfl,?_⟩
  refine qO rfl ?_
  refine zRu h ?_
  refine ⟨_,some ⟨p.2.p,0,none⟩,rfl,rfl,?_⟩
  refine zAZ rfl ?_
  obtain ⟨g1,_,g3,_⟩:=zWU 2 h at2 hpm
  refine zCb (x:=p.2.s) g1 ?_
  rw [hl1,zMc] at hn
  simp only [zDN] at hn
  refine qP (e':=((n + p.2.f.data.length:Nat):Int)) (by rw [wrap64 (by omega) (by omega)]; omega) ?_
  refine ⟨⟨n + p.2.f.data.length,l1++l2,some p,rfl,by rw [zMc]; omega,h⟩,?_⟩
  rw [hcnt,zHv h,hl1]
  simp
theorem zYW {α β:Type} [DecidableEq α] {enc:α→Value} {cV:β→Value} {T E t mb:Nat} {d:TypeDesc} {m:List (α×β)} {k:Int→K} (i:Nat) (hT:zE3 Tryz.prog T d E) (h:Holds B Γ w) (hi:Γ[i]? = some (qM enc cV mb m)) (hk:k (m.length:Int) w):Rd Tryz.prog (Builtin.len_ #[T] t #[.map (some mb)]) (Value.int .i64) k w:=by
 obtain ⟨kt,hT,hd⟩:=hT
 obtain ⟨es,c,⟨hr,hst⟩,h⟩:=qM.opens (h.pick i hi)
 have hlen:es.size = m.length:=by have:=congrArg List.length hr; simpa using this
 refine ⟨(m.length:Int),?_,hk⟩
 have e0:#[T][0]? = some T:=rfl
 have e1:#[Value.map (some mb)][0]? = some (.map (some mb)):=rfl
 unfold Builtin.len_
 simp only [e0,e1,Sem.run_bind,run_underlying hT,Result.andThen,MapKept.run_getObj_map h.block,Sem.run_pure,hlen,goInt]
theorem zMd {d mb:Nat} {D:zC} {n x:List UInt8} {data:Sl} {fs:List (List UInt8×q9)} {y:q9} {k:Int→K} (hD:OkD D) (ha:okA D.a)
  (hy:zO n fs = some y) (hp:zA3 fs = qR n y.f D.files) (hsm:y.f.data.length + x.length ≤ 1048576) (hr:∀ w,Holds B Γ w→RdB w data x)
  (h:Holds B (xL d mb D.a fs::Γ) w) (hk:∀ w,Holds B (zJ d ⟨(chg D.a).1,qR n ⟨y.f.data++x,y.f.last⟩ D.files⟩::Γ) w→k (chg D.a).2 w):yK.s1 k ⟨d,0,none⟩ data (some ⟨y.p,0,none⟩) w:=by
 obtain ⟨l1,l2,e1,hms,_⟩:=qw hy
 rw [e1] at h hy hms
 unfold yK.s1
 replace h:=zBu h
 refine zAZ rfl ?_
 refine xQ (x:=y.s) h rfl (by first | with_reducible exact M0 | with_reducible exact M1 | with_reducible exact M2 | with_reducible exact M3 | with_reducible exact M4 | with_reducible exact M5 | with_reducible exact M6 | with_reducible exact M7 | with_reducible exact M8 | with_reducible exact M9 | with_reducible exact M10 | with_reducible exact M11 | with_reducible exact M12) ?_ ?_
 ·exact rfl
 replace h:=P5 h
 replace h:=P5 h
 replace h:=P5 h
 replace h:=P5 h
 replace h:=P4 h
 replace h:=P5 h
 try simp only [N1,N2,N3,N4,N5,N6,N7] at h
 refine zA2 h (hr _ h.tail.tail.tail.tail.tail.tail) (by omega) fun s' w h _ _=>?_
 replace h:=P5 h
 replace h:=P5 h
 replace h:=P5 h
 replace h:=P5 h
 replace h:=P4 h
 replace h:=P5 h
 try simp only [N1,N2,N3,N4,N5,N6,N7] at h
 first | refine S0 h rfl ?_ rfl ?_ | refine S1 h rfl ?_ rfl ?_ | refine S2 h rfl ?_ rfl ?_ | refine S3 h rfl ?_ rfl ?_ | refine S4 h rfl ?_ rfl ?_ | refine S5 h rfl ?_ rfl ?_ | refine S6 h rfl ?_ rfl ?_ | refine S7 h rfl ?_ rfl ?_ | refine S8 h rfl ?_ rfl ?_
 ·first | exact Nat.lt_of_ble_eq_true rfl | (simp; done) | (simp; omega)
 clear h
 intro w h
 try simp only [N1,N2,N3,N4,N5,N6,N7] at h
 have h2:=zB1 (f:=⟨y.f.data++x,y.f.last⟩) (s:=s') h
 refine zCl ha h2 fun w h=>?_
 refine hk _ (zJ.shuts rfl ?_ h)
 have e2:∀ v,qR n v (qR n y.f D.files) = qR n v D.files:=fun v=>by
  cases hm:zO n D.files with
  | none=>
   have:=zAV (v:=y.f) hm
   rw [this,zAV (v:=v) hm]
   have key:∀ (m:List (List UInt8×vK)),zO n m = none→qR n v (m++[(n,y.f)]) = m++[(n,v)]:=by
    intro m
    induction m with
    | nil=>intro _; simp [qR]
    | cons p m ih=>
     intro hm
     simp only [zO] at hm
     split at hm
     ·cases hm
     ·rename_i hne
      simp only [List.cons_append,qR,if_neg hne,ih hm]
   exact key _ hm
  | some g=>
   obtain ⟨a1,a2,g1,g2,_,g4⟩:=qw hm
   rw [g2,g2]
   have key:∀ (a1:List (List UInt8×vK)),(∀ p ∈ a1,p.1 ≠ n)→qR n v (a1++(n,y.f)::a2) = a1++(n,v)::a2:=by
    intro a1
    induction a1 with
    | nil=>intro _; simp [qR]
    | cons p a1 ih=>
     intro hne
     have:n ≠ p.1:=fun e=>hne p List.mem_cons_self e.symm
     simp only [List.cons_append,qR,if_neg this,ih (fun q hq=>hne q (List.mem_cons_of_mem _ hq))]
   exact key a1 g4
 show zA3 (l1++(n,(⟨⟨y.f.data++x,y.f.last⟩,y.p,s'⟩:q9))::l2) = qR n ⟨y.f.data++x,y.f.last⟩ D.files
 have e3:=zIr (D:=⟨D.a,qR n y.f D.files⟩) (by rw [← e1]; exact hp) hy hms ⟨y.f.data++x,y.f.last⟩ y.p s'
 rw [e3]
 exact e2 _
theorem zJN {d:Nat} {D:zC} {n x:List UInt8} {data:Sl} {k:Int→K} (hD:OkD D) (hxl:x.length ≤ 100000000) (h:Holds B (zJ d D::Γ) w) (hr:∀ w,Holds B Γ w→RdB w data x)
  (hk:∀ w,OkD (D.append n x).1→Holds B (zJ d (D.append n x).1::Γ) w→k (D.append n x).2 w):yK.call (some ⟨d,0,none⟩) (bs n) data k w:=by
 have hdn:x.length = data.n:=by have:=(hr w h.tail).len; simpa using this
 obtain ⟨mb,fs,hp,h⟩:=zJ.opens h
 have hus:=hD.used
 have hro:=hD.roomN
 have hux:zDN fs = yc D.files:=by rw [zPL,hp]
 have hfl:fs.length = D.files.length:=by rw [← hp]; simp
 refine zGQ _ _ _ _ _ ?_
 unfold yK
 unfold zC.append at hk
 replace h:=xL.opens h
 refine zAZ rfl ?_
 try simp only [zR,Nat.zero_add,Nat.reduceAdd]
 refine xQ (x:=(some mb)) h rfl (by first | with_reducible exact M0 | with_reducible exact M1 | with_reducible exact M2 | with_reducible exact M3 | with_reducible exact M4 | with_reducible exact M5 | with_reducible exact M6 | with_reducible exact M7 | with_reducible exact M8 | with_reducible exact M9 | with_reducible exact M10 | with_reducible exact M11 | with_reducible exact M12) ?_ ?_
 ·exact rfl
 refine zRv 1 h at1 ?_
 refine xQ (x:=D.a.down) h rfl (by first | with_reducible exact M0 | with_reducible exact M1 | with_reducible exact M2 | with_reducible exact M3 | with_reducible exact M4 | with_reducible exact M5 | with_reducible exact M6 | with_reducible exact M7 | with_reducible exact M8 | with_reducible exact M9 | with_reducible exact M10 | with_reducible exact M11 | with_reducible exact M12) ?_ ?_
 ·exact rfl
 refine yJ (fun hb=>?_) (fun hb=>?_)
 ·rw [if_pos hb] at hk
  exact hk _ hD (zJ.shuts rfl hp (xL.shuts h))
 rw [if_neg (by rw [hb]; simp)] at hk
 refine zKx h ?_
 cases hnm:named n with
 | false=>
  rw [if_pos hnm] at hk
  exact qO rfl (hk _ hD (zJ.shuts rfl hp (xL.shuts h)))
 | true=>
  rw [if_neg (by rw [hnm]; simp)] at hk
  refine yH rfl ?_
  have main:∀ (t:Bool) w,(t = true→zO n D.files = none∧32 ≤ D.files.length)→(t = false→¬ (zO n D.files = none∧32 ≤ D.files.length))→Holds B (xL d mb D.a fs::Γ) w→yK.s3 k ⟨d,0,none⟩ (bs n) data (zSk (zO n fs)) (zO n fs).isSome t w:=by
   intro t w ht1 ht2 h
   unfold yK.s3
   have full:((zO n D.files = none∧32 ≤ D.files.length)∨D.a.room - yc D.files < x.length)→∀ w,Holds B (xL d mb D.a fs::Γ) w→k 2 w:=fun hc w h=>by
    rw [if_pos hc] at hk
    exact hk _ hD (zJ.shuts rfl hp h)
   refine yJ (fun hb2=>?_) (fun hb2=>?_)
   ·unfold yK.s2
    rw [hb2]
    exact qO rfl (full (.inl (ht1 hb2)) _ h)
   replace h:=xL.opens h
   refine zB8 h ?_
   clear h
   intro w h
   refine zBq h ?_
   refine zCf (x:=D.a.room) rfl (by first | with_reducible exact M0 | with_reducible exact M1 | with_reducible exact M2 | with_reducible exact M3 | with_reducible exact M4 | with_reducible exact M5 | with_reducible exact M6 | with_reducible exact M7 | with_reducible exact M8 | with_reducible exact M9 | with_reducible exact M10 | with_reducible exact M11 | with_reducible exact M12) ?_ ?_
   ·exact rfl
   refine zSm (by omega) (xL.shuts h) fun w h=>?_
   refine zFS (xL.opens h) ?_
   rw [hux]
   refine qP (e':=D.a.room - yc D.files) (wrap64 (by have:=hD.room1; omega) (by omega)) ?_
   unfold yK.s2
   refine yJ (fun hb3=>?_) (fun hb3=>?_)
   ·simp only [decide_eq_true_eq] at hb3
    exact full (.inr (by omega)) _ h
   simp only [decide_eq_false_iff_not] at hb3
   have hnf:¬ ((zO n D.files = none∧32 ≤ D.files.length)∨D.a.room - yc D.files < x.length):=by
    rintro (hc | hc)
    ·exact ht2 hb2 hc
    ·omega
   rw [if_neg hnf] at hk
   simp only at hk
   cases hm:zO n fs with
   | some y=>
    have hmD:=zG4 hp hm
    have hdl:=zA4 hD hmD
    rw [hmD] at hk
    simp only [Option.getD_some] at hk
    have hul:y.f.data.length ≤ yc D.files:=by
     obtain ⟨l1,l2,h1,_⟩:=qw hmD
     have:=zEQ (show (n,y.f) ∈ D.files by rw [h1]; simp)
     exact this
    have hsame:qR n y.f D.files = D.files:=by
     obtain ⟨l1,l2,h1,h2,_⟩:=qw hmD
     rw [h2]; exact h1.symm
    refine yH rfl ?_
    refine zMd hD hD.left hm (by rw [hsame]; exact hp) (by omega) hr h fun w h=>hk _ ?_ h
    exact (hD.set (f':=⟨y.f.data++x,y.f.last⟩) hmD (by simp; omega) (by simp; omega)).chg
   | none=>
    have hmD:=zEo hp hm
    rw [hmD] at hk
    simp only [Option.getD_none,List.nil_append] at hk
    refine qO rfl ?_
    refine xE h ?_
    clear h
    intro t52 w h
    try simp only [zR,Nat.zero_add,Nat.reduceAdd]
    have h1:=(h.zAv zF 1)
    replace h:=h1
    replace h:=P1 h
    replace h:=P2 h
    try simp only [N1,N2,N3,N4,N5,N6,N7] at h
    replace h:=xL.opens h
    try simp only [zR,Nat.zero_add,Nat.reduceAdd]
    refine xQ (x:=(some mb)) h rfl (by first | with_reducible exact M0 | with_reducible exact M1 | with_reducible exact M2 | with_reducible exact M3 | with_reducible exact M4 | with_reducible exact M5 | with_reducible exact M6 | with_reducible exact M7 | with_reducible exact M8 | with_reducible exact M9 | with_reducible exact M10 | with_reducible exact M11 | with_reducible exact M12) ?_ ?_
    ·exact rfl
    replace h:=P4 h
    replace h:=P4 h
    replace h:=P4 h
    replace h:=P3 h
    replace h:=P4 h
    try simp only [N1,N2,N3,N4,N5,N6,N7] at h
    refine zRj (enc:=zAR) (cV:=fV) (a:=n) (v:=(⟨⟨[],0⟩,t52,⟨none,0,0⟩⟩:q9)) zLo zDK h fun w h=>?_
    replace h:=P1 h
    replace h:=P2 h
    replace h:=P4 h
    replace h:=P4 h
    try simp only [N1,N2,N3,N4,N5,N6,N7] at h
    replace h:=zIs (n:=n) (x:=(⟨⟨[],0⟩,t52,⟨none,0,0⟩⟩:q9)) h
    replace h:=P2 h
    replace h:=P2 h
    try simp only [N1,N2,N3,N4,N5,N6,N7] at h
    have hpl:zA3 (qR n (⟨⟨[],0⟩,t52,⟨none,0,0⟩⟩:q9) fs) = qR n ⟨[],0⟩ D.files:=by
     rw [← hp]
     exact (zFc (fun x:q9=>x.f) n (⟨⟨[],0⟩,t52,⟨none,0,0⟩⟩:q9) fs).symm
    have hgm:zO n (qR n (⟨⟨[],0⟩,t52,⟨none,0,0⟩⟩:q9) fs) = some ⟨⟨[],0⟩,t52,⟨none,0,0⟩⟩:=by
     rw [zAV hm]
     have key:∀ (m:List (List UInt8×q9)),zO n m = none→∀ v,zO n (m++[(n,v)]) = some v:=by
      intro m
      induction m with
      | nil=>intro _ v; simp [zO]
      | cons p m ih=>
       intro hm v
       simp only [zO] at hm
       split at hm
       ·cases hm
       ·rename_i hne
        simp only [List.cons_append,zO,if_neg hne,ih hm]
     exact key _ hm _
    refine zMd (y:=(⟨⟨[],0⟩,t52,⟨none,0,0⟩⟩:q9)) hD hD.left hgm hpl (by simp; omega) hr (xL.shuts h) fun w h=>hk _ ?_ (by simpa using h)
    have hfew:D.files.length < 32:=by
     have:=ht2 hb2
     by_cases h32:32 ≤ D.files.length
     ·exact absurd ⟨hmD,h32⟩ this
     ·omega
    exact (hD.push (f:=⟨x,0⟩) hmD hfew (Nat.zero_le _) (by simp only; omega)).chg
  cases hm:zO n fs with
  | none=>
   refine qO rfl ?_
   refine xQ (x:=(some mb)) h rfl (by first | with_reducible exact M0 | with_reducible exact M1 | with_reducible exact M2 | with_reducible exact M3 | with_reducible exact M4 | with_reducible exact M5 | with_reducible exact M6 | with_reducible exact M7 | with_reducible exact M8 | with_reducible exact M9 | with_reducible exact M10 | with_reducible exact M11 | with_reducible exact M12) ?_ ?_
   ·exact rfl
   refine zYW 1 zLo h at1 ?_
   have:=main (decide ((32:Int) ≤ (fs.length:Int))) w (fun ht=>⟨zEo hp hm,by simp only [decide_eq_true_eq] at ht; omega⟩) (fun ht=>by simp only [decide_eq_false_iff_not] at ht; omega) (xL.shuts h)
   rw [hm] at this
   exact this
  | some y=>
   refine yH rfl ?_
   have:=main false w (fun ht=>by cases ht) (fun _ hc=>by rw [zG4 hp hm] at hc; cases hc.1) (xL.shuts h)
   rw [hm] at this
   exact this
end
end
section
open Go Go.Sep
def zC.names (D:zC):List (List UInt8):=zCR (D.files.map Prod.fst)
def zC.file (D:zC) (n:List UInt8):vK:=(zO n D.files).getD ⟨[],0⟩
def kinds (f:vK):Nat:=f.data.length - f.last + 1
def zAG (keeps:List Int) (i:Nat) (f:vK):Nat:=match keeps[i]? with
 | none=>0
 | some k=>((k.tmod (kinds f) + kinds f).tmod (kinds f)).toNat
theorem zER (keeps:List Int) (i:Nat) (f:vK):zAG keeps i f ≤ f.data.length - f.last:=by
 unfold zAG
 split
 ·exact Nat.zero_le _
 ·rename_i k _
  have hk:(0:Int) < kinds f:=by unfold kinds; omega
  have:=Int.tmod_lt_of_pos (k.tmod (kinds f) + kinds f) hk
  unfold kinds at *
  omega
def jU (keeps:List Int) (i:Nat) (f:vK):vK:=⟨f.data.take (f.last + zAG keeps i f),f.last + zAG keeps i f⟩
def jc (keeps:List Int) (g:List UInt8→vK) (ns:List (List UInt8)):Files:=ns.zipIdx.map fun p=>(p.1,jU keeps p.2 (g p.1))
def zC.crash (D:zC) (keeps:List Int):zC:=⟨⟨D.a.room,-1,false⟩,jc keeps D.file D.names⟩
theorem zDO (keeps:List Int) (g:List UInt8→vK) (ns:List (List UInt8)):(jc keeps g ns).map Prod.fst = ns:=by
 unfold jc
 rw [List.map_map]
 have:(Prod.fst ∘ fun p:List UInt8×Nat=>(p.1,jU keeps p.2 (g p.1))) = Prod.fst:=rfl
 rw [this,List.zipIdx_map_fst]
theorem zQg (keeps:List Int) (g:List UInt8→vK) (ns:List (List UInt8)):(jc keeps g ns).length = ns.length:=by simp [jc]
theorem zPM (keeps:List Int) (g:List UInt8→vK) (ns:List (List UInt8)) (n:List UInt8):jc keeps g (ns++[n]) = jc keeps g ns++[(n,jU keeps ns.length (g n))]:=by
 unfold jc
 rw [List.zipIdx_append,List.map_append]
 simp
theorem zA9 {α β:Type} [DecidableEq α] {k:α} {x:β} {m:List (α×β)} (h:zO k m = some x):(k,x) ∈ m:=by
 obtain ⟨l1,l2,h1,_⟩:=qw h
 rw [h1]; simp
theorem zB2 {α β:Type} [DecidableEq α] {p:α×β}:∀ {m:List (α×β)},(m.map Prod.fst).Nodup→p ∈ m→zO p.1 m = some p.2
 | [],_,h=>by cases h
 | q::m,hn,h=>by
  simp only [List.map_cons,List.nodup_cons] at hn
  rcases List.mem_cons.1 h with rfl | h
  ·simp [zO]
  ·have:p.1 ≠ q.1:=fun e=>hn.1 (by rw [← e]; exact List.mem_map_of_mem h)
   simp only [zO,if_neg this]
   exact zB2 hn.2 h
theorem zES {α β:Type} [DecidableEq α] {k:α} {m:List (α×β)} (h:k ∈ m.map Prod.fst):∃ x,zO k m = some x:=by
 cases hm:zO k m with
 | some x=>exact ⟨x,rfl⟩
 | none=>
  obtain ⟨p,hp,rfl⟩:=List.mem_map.1 h
  exact absurd rfl (zAj hm p hp)
theorem zGC {D:zC} {n:List UInt8}:n ∈ D.names ↔ n ∈ D.files.map Prod.fst:=zSj
theorem zIt (D:zC):D.names.length = D.files.length:=by unfold zC.names; rw [zSi]; simp
theorem zFi {D:zC} (h:OkD D):D.names.Nodup:=(List.mergeSort_perm _ _).nodup_iff.2 h.nodup
def zJh (g:List UInt8→vK):List (List UInt8)→Nat
 | []=>0
 | n::ns=>(g n).data.length + zJh g ns
theorem zMe {g:List UInt8→vK} {a b:List (List UInt8)} (h:a.Perm b):zJh g a = zJh g b:=by
 induction h with
 | nil=>rfl
 | cons x _ ih=>simp only [zJh,ih]
 | swap x y l=>simp only [zJh]; omega
 | trans _ _ ih1 ih2=>rw [ih1,ih2]
theorem zKy {D:zC} (h:OkD D):zJh D.file (D.files.map Prod.fst) = yc D.files:=by
 have key:∀ fs:Files,(∀ p ∈ fs,D.file p.1 = p.2)→zJh D.file (fs.map Prod.fst) = yc fs:=by
  intro fs
  induction fs with
  | nil=>intro _; rfl
  | cons p fs ih=>
   intro hp
   simp only [List.map_cons,zJh,yc,hp p List.mem_cons_self,ih (fun q hq=>hp q (List.mem_cons_of_mem _ hq))]
 refine key _ fun p hp=>?_
 unfold zC.file
 rw [zB2 h.nodup hp]; rfl
theorem zFj (keeps:List Int) (g:List UInt8→vK):∀ (ns:List (List UInt8)) (i:Nat),yc ((ns.zipIdx i).map fun p=>(p.1,jU keeps p.2 (g p.1))) ≤ zJh g ns
 | [],_=>Nat.le_refl _
 | n::ns,i=>by
  have:=zFj keeps g ns (i + 1)
  simp only [List.zipIdx_cons,List.map_cons,yc,zJh,jU,List.length_take] at this ⊢
  omega
theorem zSn {D:zC} (h:OkD D) (n:List UInt8):(D.file n).last ≤ (D.file n).data.length:=by
 unfold zC.file
 cases hm:zO n D.files with
 | none=>simp
 | some f=>exact (zA4 h hm).2
theorem OkD.crash {D:zC} (h:OkD D) (keeps:List Int):OkD (D.crash keeps):=by
 have hnd:=zFi h
 refine ⟨h.room1,h.roomN,?_,?_,⟨show (-9223372036854775808:Int) < -1 by decide,show (-1:Int) ≤ 9223372036854775807 by decide⟩,?_,?_⟩
 ·have h1:=zFj keeps D.file D.names 0
  have h2:zJh D.file D.names = yc D.files:=(zMe (List.mergeSort_perm _ _)).trans (zKy h)
  have h3:=h.used
  simp only [zC.crash,jc]
  omega
 ·simp only [zC.crash,zQg,zIt]; exact h.few
 ·intro p hp
  simp only [zC.crash,jc] at hp
  obtain ⟨q,_,rfl⟩:=List.mem_map.1 hp
  have h1:=zER keeps q.2 (D.file q.1)
  have h2:=zSn h q.1
  simp only [jU,List.length_take]
  omega
 ·simp only [zC.crash,zDO]; exact hnd
section
variable {B w:World} {Γ:List zB}
theorem zKz {d:Nat} {D:zC} {k:Sl→K} (hD:OkD D) (h:Holds B (zJ d D::Γ) w) (hk:∀ s w,Holds B (SlS s D.names::zJ d D::Γ) w→k s w):j4.call (some ⟨d,0,none⟩) k w:=by
 obtain ⟨mb,fs,hp,h⟩:=zJ.opens h
 have hfl:fs.length = D.files.length:=by rw [← hp]; simp
 have hfew:=hD.few
 refine zGz _ _ _ ?_
 unfold j4
 replace h:=xL.opens h
 refine zAZ rfl ?_
 try simp only [zR,Nat.zero_add,Nat.reduceAdd]
 refine xQ (x:=(some mb)) h rfl (by first | with_reducible exact M0 | with_reducible exact M1 | with_reducible exact M2 | with_reducible exact M3 | with_reducible exact M4 | with_reducible exact M5 | with_reducible exact M6 | with_reducible exact M7 | with_reducible exact M8 | with_reducible exact M9 | with_reducible exact M10 | with_reducible exact M11 | with_reducible exact M12) ?_ ?_
 ·exact rfl
 replace h:=P2 h
 replace h:=P1 h
 replace h:=P2 h
 try simp only [N1,N2,N3,N4,N5,N6,N7] at h
 refine zIp (by omega) h fun s w h=>?_
 have e:fs.map Prod.fst = D.files.map Prod.fst:=by rw [← hp]; simp [zA3]
 rw [e] at h
 replace h:=P3 h
 replace h:=P2 h
 replace h:=P3 h
 try simp only [N1,N2,N3,N4,N5,N6,N7] at h
 exact hk s _ (zJ.shuts rfl hp (xL.shuts h)).swap
theorem zQh {d:Nat} {D:zC} {keeps:Sl} {ks:List Int} {k:Option Addr→K} (hD:OkD D) (h:Holds B (zJ d D::Γ) w) (hr:∀ w,Holds B Γ w→RdC w keeps 1 (ks.map (Value.int .i64)))
  (hk:∀ o w,Holds B (zJ o (D.crash ks)::zJ d D::Γ) w→k (some ⟨o,0,none⟩) w):qF.call (some ⟨d,0,none⟩) keeps k w:=by
 have hkn:ks.length = keeps.n:=by have:=(hr w h.tail).len; simpa using this
 obtain ⟨mb,fs,hp,h⟩:=zJ.opens h
 refine zGy _ _ _ _ ?_
 unfold qF
 replace h:=xL.opens h
 refine zAZ rfl ?_
 refine xQ (x:=D.a.room) h rfl (by first | with_reducible exact M0 | with_reducible exact M1 | with_reducible exact M2 | with_reducible exact M3 | with_reducible exact M4 | with_reducible exact M5 | with_reducible exact M6 | with_reducible exact M7 | with_reducible exact M8 | with_reducible exact M9 | with_reducible exact M10 | with_reducible exact M11 | with_reducible exact M12) ?_ ?_
 ·exact rfl
 refine zRi (d:=.string) (E:=zBJ) (enc:=zAR) (cV:=fV) h fun mo w h=>?_
 refine xE h ?_
 clear h
 intro out w h
 try simp only [zR,Nat.zero_add,Nat.reduceAdd]
 replace h:=P1 h
 replace h:=P1 h
 replace h:=P4 h
 replace h:=P4 h
 replace h:=P4 h
 try simp only [N1,N2,N3,N4,N5,N6,N7] at h
 have h1:=zJ.shuts (D:=D) rfl hp (xL.shuts h)
 refine zKz hD h1 fun t20 w h=>?_
 clear h1
 have hnl:=zIt D
 have hfew:=hD.few
 have hnd:=zFi hD
 have hO:Holds B (zJ out ⟨⟨D.a.room,-1,false⟩,jc ks D.file (D.names.take 0)⟩::SlS t20 D.names::zJ d D::Γ) w:=by
  have h5:=h.zA6
  replace h:=h5
  replace h:=P2 h
  replace h:=P2 h
  replace h:=P2 h
  replace h:=P4 h
  replace h:=P4 h
  try simp only [N1,N2,N3,N4,N5,N6,N7] at h
  exact zJ.shuts (D:=⟨⟨D.a.room,-1,false⟩,_⟩) (mb:=mo) (fs:=[]) rfl rfl (xL.shuts h)
 clear h
 have hsn:D.names.length = t20.n:=by have:=(hO.pick 1 at1).zAm.1; simpa using this
 refine yM.of (fun t w=>∃ i:Nat,t = (i:Int)∧i ≤ D.names.length∧Holds B (zJ out ⟨⟨D.a.room,-1,false⟩,jc ks D.file (D.names.take i)⟩::SlS t20 D.names::zJ d D::Γ) w) (fun t _=>((t20.n:Int) - t).toNat) ⟨0,rfl,by omega,hO⟩ ?_
 clear hO hp
 rintro t w ⟨i,rfl,hi,h⟩
 unfold qF.b1
 refine yJ (fun hb=>?_) (fun hb=>?_)
 ·simp only [decide_eq_true_eq] at hb
  have hx:D.names[i]? = some D.names[i]:=List.getElem?_eq_getElem (by omega)
  generalize hN:D.names[i] = n at hx
  have hnm:n ∈ D.files.map Prod.fst:=zGC.1 (List.mem_of_getElem? hx)
  have hrd:RdC w t20 1 ((D.names.map bs).map Value.string):=by
   have:=h.rdC (E:=jN) (esz:=1) (s:=t20) (vs:=D.names.map zAR) (List.mem_cons_of_mem _ List.mem_cons_self)
   rw [List.map_map]
   exact this
  refine zFZ hrd (x:=bs n) (by rw [List.getElem?_map,hx]; rfl) ?_
  replace h:=P1 h
  replace h:=P1 h
  replace h:=P2 h
  try simp only [N1,N2,N3,N4,N5,N6,N7] at h
  obtain ⟨mb,fs,hp,h⟩:=zJ.opens h
  replace h:=xL.opens h
  try simp only [zR,Nat.zero_add,Nat.reduceAdd]
  refine xQ (x:=(some mb)) h rfl (by first | with_reducible exact M0 | with_reducible exact M1 | with_reducible exact M2 | with_reducible exact M3 | with_reducible exact M4 | with_reducible exact M5 | with_reducible exact M6 | with_reducible exact M7 | with_reducible exact M8 | with_reducible exact M9 | with_reducible exact M10 | with_reducible exact M11 | with_reducible exact M12) ?_ ?_
  ·exact rfl
  refine zWT 1 h at1 ?_
  obtain ⟨f,hf⟩:=zES hnm
  have hfx:∃ x,zO n fs = some x∧x.f = f:=by
   rw [← hp,zG3] at hf
   cases hm:zO n fs with
   | none=>rw [hm] at hf; cases hf
   | some x=>rw [hm] at hf; simp only [Option.map_some,Option.some.injEq] at hf; exact ⟨x,rfl,hf⟩
  obtain ⟨x,hx2,rfl⟩:=hfx
  have hDf:D.file n = x.f:=by unfold zC.file; rw [hf]; rfl
  have hdl:=zA4 hD hf
  rw [hx2]
  have hkl:=zER ks i x.f
  have main:∀ w,Holds B (xL d mb D.a fs::zJ out ⟨⟨D.a.room,-1,false⟩,jc ks D.file (D.names.take i)⟩::SlS t20 D.names::Γ) w →
    qF.s2 k (fun t w'=>(∃ i:Nat,t = (i:Int)∧i ≤ D.names.length∧Holds B (zJ out ⟨⟨D.a.room,-1,false⟩,jc ks D.file (D.names.take i)⟩::SlS t20 D.names::zJ d D::Γ) w')∧((t20.n:Int) - t).toNat < ((t20.n:Int) - (i:Int)).toNat) ⟨d,0,none⟩ keeps ⟨out,0,none⟩ (bs n) (some ⟨x.p,0,none⟩) (zAG ks i x.f:Int) t20 (t20.n:Int) (i:Int) w:=by
   intro w h
   unfold qF.s2
   refine zAZ rfl ?_
   obtain ⟨l1,l2,e1,hms,_⟩:=qw hx2
   rw [e1] at h hp
   replace h:=zBu h
   try simp only [zR,Nat.zero_add,Nat.reduceAdd]
   refine xQ (x:=(x.f.last:Int)) h rfl (by first | with_reducible exact M0 | with_reducible exact M1 | with_reducible exact M2 | with_reducible exact M3 | with_reducible exact M4 | with_reducible exact M5 | with_reducible exact M6 | with_reducible exact M7 | with_reducible exact M8 | with_reducible exact M9 | with_reducible exact M10 | with_reducible exact M11 | with_reducible exact M12) ?_ ?_
   ·exact rfl
   refine qP (e':=((x.f.last + zAG ks i x.f:Nat):Int)) (by rw [wrap64 (by omega) (by omega)]; omega) ?_
   replace h:=P7 h
   replace h:=P6 h
   replace h:=P6 h
   replace h:=P6 h
   replace h:=P6 h
   replace h:=P6 h
   replace h:=P6 h
   replace h:=P7 h
   try simp only [N1,N2,N3,N4,N5,N6,N7] at h
   obtain ⟨mo,fo,hpo,h⟩:=zJ.opens h
   replace h:=xL.opens h
   have hxs:=Bytes.len (h.pick 4 at4)
   have hsc:=(h.pick 4 at4).zAm
   refine zB8 h ?_
   clear h
   intro w h
   refine zBq h ?_
   try simp only [zR,Nat.zero_add,Nat.reduceAdd]
   refine zCf (x:=(some mo)) rfl (by first | with_reducible exact M0 | with_reducible exact M1 | with_reducible exact M2 | with_reducible exact M3 | with_reducible exact M4 | with_reducible exact M5 | with_reducible exact M6 | with_reducible exact M7 | with_reducible exact M8 | with_reducible exact M9 | with_reducible exact M10 | with_reducible exact M11 | with_reducible exact M12) ?_ ?_
   ·exact rfl
   refine zCf (x:=x.s) rfl (by first | with_reducible exact M0 | with_reducible exact M1 | with_reducible exact M2 | with_reducible exact M3 | with_reducible exact M4 | with_reducible exact M5 | with_reducible exact M6 | with_reducible exact M7 | with_reducible exact M8 | with_reducible exact M9 | with_reducible exact M10 | with_reducible exact M11 | with_reducible exact M12) ?_ ?_
   ·exact rfl
   refine ⟨_,by omega,by omega,by omega,by omega,rfl,?_⟩
   simp only [Int.toNat_natCast,show (0:Int).toNat = 0 from rfl,zKc hsc.2.2.1,Nat.sub_zero]
   have htl:(x.f.data.take (x.f.last + zAG ks i x.f)).length ≤ 1000000000:=by simp; omega
   refine uX (xs:=x.f.data.take (x.f.last + zAG ks i x.f)) h (fun w h=>zKq (Bytes.rd (s:=x.s) (xs:=x.f.data) h (by first | with_reducible exact M0 | with_reducible exact M1 | with_reducible exact M2 | with_reducible exact M3 | with_reducible exact M4 | with_reducible exact M5 | with_reducible exact M6 | with_reducible exact M7 | with_reducible exact M8 | with_reducible exact M9 | with_reducible exact M10 | with_reducible exact M11 | with_reducible exact M12)) (by omega)) htl fun t75 w h _=>?_
   refine zFS h.tail ?_
   refine xE h ?_
   clear h
   intro t78 w h
   try simp only [zR,Nat.zero_add,Nat.reduceAdd]
   refine zFS h.tail.tail ?_
   replace h:=P10 h
   replace h:=P10 h
   replace h:=P10 h
   replace h:=P10 h
   replace h:=P10 h
   replace h:=P10 h
   replace h:=P10 h
   replace h:=P9 h
   replace h:=P9 h
   replace h:=P9 h
   replace h:=P10 h
   try simp only [N1,N2,N3,N4,N5,N6,N7] at h
   refine zRj (enc:=zAR) (cV:=fV) (a:=n) (v:=(⟨jU ks i x.f,t78,t75⟩:q9)) zLo zDK h fun w h=>?_
   replace h:=P10 h
   replace h:=P10 h
   replace h:=P10 h
   replace h:=P10 h
   replace h:=P10 h
   replace h:=P10 h
   replace h:=P6 h
   replace h:=P9 h
   replace h:=P10 h
   replace h:=P10 h
   replace h:=P10 h
   try simp only [N1,N2,N3,N4,N5,N6,N7] at h
   replace h:=zIs (n:=n) (x:=(⟨jU ks i x.f,t78,t75⟩:q9)) h
   replace h:=P8 h
   replace h:=P8 h
   replace h:=P8 h
   replace h:=P8 h
   replace h:=P8 h
   replace h:=P8 h
   replace h:=P6 h
   replace h:=P8 h
   replace h:=P8 h
   try simp only [N1,N2,N3,N4,N5,N6,N7] at h
   have hout:=zJ.shuts (D:=⟨⟨D.a.room,-1,false⟩,jc ks D.file (D.names.take (i + 1))⟩) (a:=⟨D.a.room,-1,false⟩) (mb:=mo) (fs:=qR n (⟨jU ks i x.f,t78,t75⟩:q9) fo) rfl (by
    show zA3 (qR n (⟨jU ks i x.f,t78,t75⟩:q9) fo) = jc ks D.file (D.names.take (i + 1))
    have e2:=(zFc (fun x:q9=>x.f) n (⟨jU ks i x.f,t78,t75⟩:q9) fo).symm
    have e3:zA3 (qR n (⟨jU ks i x.f,t78,t75⟩:q9) fo) = qR n (jU ks i x.f) (zA3 fo):=e2
    rw [e3,hpo]
    have hlt:i < D.names.length:=by omega
    have e4:D.names.take (i + 1) = D.names.take i++[n]:=by rw [List.take_succ_eq_append_getElem hlt,hN]
    rw [e4,zPM,List.length_take,Nat.min_eq_left (by omega),hDf]
    refine zAV ?_
    cases hm:zO n (jc ks D.file (D.names.take i)) with
    | none=>rfl
    | some y=>
     exfalso
     have h1:=List.mem_map_of_mem (f:=Prod.fst) (zA9 hm)
     rw [zDO] at h1
     rw [← List.take_append_drop i D.names,List.nodup_append] at hnd
     have h2:n ∈ D.names.drop i:=by
      rw [← hN]
      exact List.mem_of_getElem? (i:=0) (by rw [List.getElem?_drop]; simp [List.getElem?_eq_getElem hlt])
     exact hnd.2.2 n h1 n h2 rfl) (xL.shuts h)
   refine xq (by omega) (by omega) ?_
   refine ⟨⟨i + 1,by omega,by omega,?_⟩,by omega⟩
   replace h:=hout
   replace h:=P7 h
   replace h:=P1 h
   replace h:=P7 h
   replace h:=P7 h
   replace h:=P7 h
   replace h:=P7 h
   replace h:=P7 h
   replace h:=P7 h
   try simp only [N1,N2,N3,N4,N5,N6,N7] at h
   have h6:=zJ.shuts (D:=D) rfl hp (zB1 h)
   replace h:=h6
   replace h:=P2 h
   replace h:=P2 h
   try simp only [N1,N2,N3,N4,N5,N6,N7] at h
   exact h
  refine yJ (fun hb2=>?_) (fun hb2=>?_)
  ·simp only [decide_eq_true_eq] at hb2
   have hkx:ks[i]? = some ks[i]:=List.getElem?_eq_getElem (by omega)
   generalize ks[i] = kv at hkx
   refine zB8 h ?_
   clear h
   intro w h
   refine zAZ rfl ?_
   obtain ⟨l1,l2,e1,hms,_⟩:=qw hx2
   rw [e1] at h hp
   replace h:=zBu (xL.shuts h)
   have hxs:=Bytes.len h.tail
   try simp only [zR,Nat.zero_add,Nat.reduceAdd]
   refine xQ (x:=x.s) h rfl (by first | with_reducible exact M0 | with_reducible exact M1 | with_reducible exact M2 | with_reducible exact M3 | with_reducible exact M4 | with_reducible exact M5 | with_reducible exact M6 | with_reducible exact M7 | with_reducible exact M8 | with_reducible exact M9 | with_reducible exact M10 | with_reducible exact M11 | with_reducible exact M12) ?_ ?_
   ·exact rfl
   refine xQ (x:=(x.f.last:Int)) h rfl (by first | with_reducible exact M0 | with_reducible exact M1 | with_reducible exact M2 | with_reducible exact M3 | with_reducible exact M4 | with_reducible exact M5 | with_reducible exact M6 | with_reducible exact M7 | with_reducible exact M8 | with_reducible exact M9 | with_reducible exact M10 | with_reducible exact M11 | with_reducible exact M12) ?_ ?_
   ·exact rfl
   have hki:(kinds x.f:Int) = x.f.data.length - x.f.last + 1:=by unfold kinds; omega
   refine qP (e':=(x.f.data.length:Int) - x.f.last) (by rw [wrap64 (by omega) (by omega)]; omega) ?_
   refine qP (e':=(kinds x.f:Int)) (by rw [wrap64 (by omega) (by omega)]; omega) ?_
   have hrk:=hr _ h.tail.tail.tail.tail.tail.tail.tail.tail
   refine zFZ hrk hkx ?_
   have hkp:(0:Int) < kinds x.f:=by omega
   have hb1:=Int.tmod_lt_of_pos kv hkp
   have hb2:-(kinds x.f:Int) < kv.tmod (kinds x.f):=by
    have:=Int.tmod_lt_of_pos (-kv) hkp
    rw [Int.neg_tmod] at this
    omega
   refine zDz (by omega) ?_
   refine qP rfl ?_
   refine qP (e':=kv.tmod (kinds x.f) + kinds x.f) (wrap64 (by omega) (by omega)) ?_
   refine zDz (by omega) ?_
   have hnn:=Int.tmod_nonneg (kinds x.f:Int) (show 0 ≤ kv.tmod (kinds x.f) + kinds x.f by omega)
   refine qP (e':=(zAG ks i x.f:Int)) (by unfold zAG; rw [hkx]; simp only; omega) ?_
   have h7:=zB1 h
   rw [← e1] at h7
   exact main _ h7
  ·simp only [decide_eq_false_iff_not] at hb2
   have hk0:zAG ks i x.f = 0:=by unfold zAG; rw [List.getElem?_eq_none (by omega)]
   rw [hk0] at main
   exact main _ (xL.shuts h)
 ·simp only [decide_eq_false_iff_not] at hb
  have hti:D.names.take i = D.names:=List.take_of_length_le (by omega)
  rw [hti] at h
  exact hk out _ (h.del 1 at1)
theorem zYX {s:Sl} {ns:List (List UInt8)} {j:Nat} {n:List UInt8} {k:ByteArray→K} (hr:RdC w s 1 (ns.map zAR)) (hx:ns[j]? = some n) (hk:k (bs n) w):Idx s (j:Int) 1 (fun t=>Ld t Value.string k) w:=by
 have hr2:RdC w s 1 ((ns.map bs).map Value.string):=by rw [List.map_map]; exact hr
 exact zFZ hr2 (by rw [List.getElem?_map,hx]; rfl) hk
theorem zRw (l:List UInt8):((bs l).size:Int) = (l.length:Int):=by simp [bs,ByteArray.size]
end
end
section
open Go Go.Sep
section
variable {B w:World} {Γ:List zB}
theorem zQi {d:Nat} {D:zC} {c:Int} {k:K} (h:Holds B (zJ d D::Γ) w) (hk:∀ w,Holds B (zJ d { D with a:={ D.a with left:=if -1 > c then -1 else c } }::Γ) w→k w):jP.call (some ⟨d,0,none⟩) c k w:=by
 obtain ⟨mb,fs,hp,h⟩:=zJ.opens h
 replace h:=xL.opens h
 refine zGx _ _ _ _ ?_
 unfold jP
 refine qP rfl ?_
 refine zAZ rfl ?_
 try simp only [zR,Nat.zero_add,Nat.reduceAdd]
 first | refine S0 h rfl ?_ rfl ?_ | refine S1 h rfl ?_ rfl ?_ | refine S2 h rfl ?_ rfl ?_ | refine S3 h rfl ?_ rfl ?_ | refine S4 h rfl ?_ rfl ?_ | refine S5 h rfl ?_ rfl ?_ | refine S6 h rfl ?_ rfl ?_ | refine S7 h rfl ?_ rfl ?_ | refine S8 h rfl ?_ rfl ?_
 ·first | exact Nat.lt_of_ble_eq_true rfl | (simp; done) | (simp; omega)
 clear h
 intro w h
 try simp only [N1,N2,N3,N4,N5,N6,N7] at h
 refine hk _ (zJ.shuts (a:={ D.a with left:=if -1 > c then -1 else c }) (mb:=mb) (fs:=fs) rfl hp (xL.shuts h))
theorem zPN {d:Nat} {D:zC} {n m:List UInt8} {k:Int→K} (hD:OkD D) (h:Holds B (zJ d D::Γ) w) (hk:∀ w,OkD (D.rename n m).1→Holds B (zJ d (D.rename n m).1::Γ) w→k (D.rename n m).2 w):zW.call (some ⟨d,0,none⟩) (bs n) (bs m) k w:=by
 obtain ⟨mb,fs,hp,h⟩:=zJ.opens h
 refine zGR _ _ _ _ _ ?_
 unfold zW
 unfold zC.rename at hk
 refine find_spec h (fun hd w h=>?_) (fun hd hx w h=>?_) (fun x hd hx w h=>?_)
 ·rw [if_pos hd] at hk
  refine yH rfl ?_
  unfold zW.s4 zW.s1 zW.s2 zW.s3
  exact yH rfl (yH rfl (yH rfl (hk _ hD (zJ.shuts rfl hp h))))
 ·rw [if_neg (by rw [hd]; simp),zEo hp hx] at hk
  refine yH rfl ?_
  unfold zW.s4 zW.s1 zW.s2 zW.s3
  exact yH rfl (yH rfl (yH rfl (hk _ hD (zJ.shuts rfl hp h))))
 ·have hm:=zG4 hp hx
  rw [if_neg (by rw [hd]; simp),hm] at hk
  simp only at hk
  refine qO rfl ?_
  refine zKx h ?_
  unfold zW.s4 zW.s1
  cases hnm:named m with
  | false=>
   rw [if_pos hnm] at hk
   refine qO rfl (yH rfl ?_)
   unfold zW.s2 zW.s3
   exact yH rfl (hk _ hD (zJ.shuts rfl hp h))
  | true=>
   rw [if_neg (by rw [hnm]; simp)] at hk
   refine yH rfl (qO rfl ?_)
   refine zCl hD.left h fun w h=>?_
   unfold zW.s2 zW.s3
   refine yJ (fun hb=>?_) (fun hb=>?_)
   ·simp only [decide_eq_true_eq] at hb
    rw [if_pos hb] at hk
    obtain ⟨l1,l2,e1,hms,hmd,_⟩:=qw hx
    replace h:=xL.opens h
    refine zAZ rfl ?_
    try simp only [zR,Nat.zero_add,Nat.reduceAdd]
    refine xQ (x:=(some mb)) h rfl (by first | with_reducible exact M0 | with_reducible exact M1 | with_reducible exact M2 | with_reducible exact M3 | with_reducible exact M4 | with_reducible exact M5 | with_reducible exact M6 | with_reducible exact M7 | with_reducible exact M8 | with_reducible exact M9 | with_reducible exact M10 | with_reducible exact M11 | with_reducible exact M12) ?_ ?_
    ·exact rfl
    replace h:=P2 h
    replace h:=P1 h
    replace h:=P2 h
    try simp only [N1,N2,N3,N4,N5,N6,N7] at h
    refine zMR (enc:=zAR) (cV:=fV) (a:=n) zLo zDK h fun w h=>?_
    rw [e1] at h hp hx hms hmd
    rw [hmd] at h
    try simp only [zR,Nat.zero_add,Nat.reduceAdd]
    refine xQ (x:=(some mb)) h rfl (by first | with_reducible exact M0 | with_reducible exact M1 | with_reducible exact M2 | with_reducible exact M3 | with_reducible exact M4 | with_reducible exact M5 | with_reducible exact M6 | with_reducible exact M7 | with_reducible exact M8 | with_reducible exact M9 | with_reducible exact M10 | with_reducible exact M11 | with_reducible exact M12) ?_ ?_
    ·exact rfl
    refine zRj (enc:=zAR) (cV:=fV) (a:=m) (v:=x) zLo zDK h fun w h=>?_
    replace h:=P1 h
    replace h:=P2 h
    try simp only [N1,N2,N3,N4,N5,N6,N7] at h
    replace h:=zDM h
    replace h:=zIs (n:=m) (zQf h)
    replace h:=P2 h
    replace h:=P2 h
    try simp only [N1,N2,N3,N4,N5,N6,N7] at h
    obtain ⟨g1,g2,g3,g4⟩:=hD.del hm
    have hfew:=hD.few
    have hus:=hD.used
    refine hk _ (g1.put (n:=m) (f:=x.f) (by simp only; omega) (zA4 hD hm).2 (by simp only; omega)).chg (zJ.shuts (mb:=mb) (fs:=qR m x (l1++l2)) rfl ?_ (xL.shuts h))
    show zA3 (qR m x (l1++l2)) = qR m x.f (vJ n D.files)
    rw [← hp,← hmd]
    have e2:=zKi (fun x:q9=>x.f) n (l1++(n,x)::l2)
    have e3:=zFc (fun x:q9=>x.f) m x (vJ n (l1++(n,x)::l2))
    exact e3.symm.trans (by rw [← e2])
   ·simp only [decide_eq_false_iff_not] at hb
    rw [if_neg hb] at hk
    exact hk _ hD.chg (zJ.shuts rfl hp h)
end
end
section
open Go Go.Sep
def zm (n:List UInt8):List UInt8:=n++[126]
def zPO (D:zC) (n:List UInt8):zC×Int:=D.rename (zm n) n
def zK0 (D:zC) (n:List UInt8):zC×Int:=if (D.sync (zm n)).2 ≠ 0 then D.sync (zm n) else zPO (D.sync (zm n)).1 n
def zJO (D:zC) (n x:List UInt8):zC×Int:=if (D.append (zm n) (yj x)).2 ≠ 0 then D.append (zm n) (yj x) else zK0 (D.append (zm n) (yj x)).1 n
def zC.save (D:zC) (n x:List UInt8):zC×Int:=if n = []∨15 < n.length then (D,1) else
 if (D.remove (zm n)).2 ≠ 0∧(D.remove (zm n)).2 ≠ 60 then D.remove (zm n) else zJO (D.remove (zm n)).1 n x
theorem zK1 (a b:List UInt8):bs a++bs b = bs (a++b):=by
 apply ByteArray.ext
 rw [ByteArray.data_append]
 simp [bs]
theorem zC5:∀ (n:Nat) (b:List UInt8),b.length = n→(vQ b).length = b.length + 6 * ((b.length + 1023) / 1024):=by
 intro n
 induction n using Nat.strongRecOn with
 | _ n ih=>
  intro b hb
  by_cases h:b = []
  ·subst h; rw [zAg]; rfl
  ·have hp:0 < b.length:=List.length_pos_iff.2 h
   rw [uy h,List.length_append,qV]
   have:=ih (b.drop 1024).length (by simp; omega) _ rfl
   simp only [List.length_drop,List.length_take] at this ⊢
   omega
theorem pk {x:List UInt8} (h:x.length ≤ 5000):(yj x).length ≤ 5040:=by
 have h2:=zC5 _ x rfl
 have h3:=xO 2 x.length (by omega)
 unfold yj
 rw [List.length_append,qV]
 omega
theorem okN {room:Int} (h1:1 ≤ room) (h2:room ≤ 1048576):OkD (.new room):=⟨h1,h2,by show ((0:Nat):Int) ≤ room; omega,by simp [zC.new],⟨show (-9223372036854775808:Int) < -1 by decide,show (-1:Int) ≤ 9223372036854775807 by decide⟩,by simp [zC.new],by simp [zC.new]⟩
section
variable {B w:World} {Γ:List zB} {d:Nat} {D:zC} {n x:List UInt8}
theorem zK2 {body:Sl} {k:Int→K} (hD:OkD D) (hx:x.length ≤ 10000) (hcap:body.n ≤ body.c) (h:Holds B (zJ d D::Γ) w) (hr:∀ w,Holds B Γ w→RdB w body x)
  (hk:∀ w,OkD (D.save n x).1→Holds B (zJ d (D.save n x).1::Γ) w→k (D.save n x).2 w):vR.call (some ⟨d,0,none⟩) (bs n) body k w:=by
 refine zNs _ _ _ _ _ ?_
 unfold vR
 have hsz:((bs n).size:Int) = n.length:=by simp [bs,ByteArray.size]
 have hpl:=zDo (b:=x) (by omega)
 rw [uT]
 have e0:(⟨#[]⟩:ByteArray).toList = []:=uT []
 rw [e0]
 unfold zC.save at hk
 have s1:∀ t,t = decide (n = []∨15 < n.length)→vR.s1 k (some ⟨d,0,none⟩) (bs n) body t w:=by
  rintro t rfl
  unfold vR.s1
  refine yJ (fun ht=>?_) (fun ht=>?_)
  ·rw [if_pos (by simpa using ht)] at hk
   exact hk _ hD h
  ·simp only [decide_eq_false_iff_not] at ht
   rw [if_neg ht] at hk
   refine ⟨bs (zm n),?_,(zK1 n [126]).symm,?_⟩
   ·have h1:(ByteArray.mk #[126]).size = 1:=rfl
    rw [h1]
    omega
   refine zJM (n:=zm n) hD h fun w hD h=>?_
   have s2:∀ t,t = decide ((D.remove (zm n)).2 ≠ 0∧(D.remove (zm n)).2 ≠ 60)→vR.s2 k (some ⟨d,0,none⟩) (bs n) body (bs (zm n)) (D.remove (zm n)).2 t w:=by
    rintro t rfl
    unfold vR.s2
    refine yJ (fun hq=>?_) (fun hq=>?_)
    ·rw [if_pos (by simpa using hq)] at hk
     exact hk _ hD h
    ·rw [if_neg (by simpa only [decide_eq_false_iff_not] using hq)] at hk
     refine zFh (xs:=x) (by omega) hcap h (fun w h=>hr w h.tail) fun f w h=>?_
     refine zJN (n:=zm n) (x:=yj x) hD (by omega) h.swap (fun w h=>Bytes.rd h List.mem_cons_self) fun w hD h=>?_
     unfold zJO at hk
     refine yJ (fun hq=>?_) (fun hq=>?_)
     ·rw [if_pos (by simpa using hq)] at hk
      exact hk _ hD (h.del 1 at1)
     ·rw [if_neg (by simpa using hq)] at hk
      refine zMb (n:=zm n) hD h fun w hD h=>?_
      unfold zK0 at hk
      refine yJ (fun hq=>?_) (fun hq=>?_)
      ·rw [if_pos (by simpa using hq)] at hk
       exact hk _ hD (h.del 1 at1)
      ·rw [if_neg (by simpa using hq)] at hk
       exact zPN (n:=zm n) (m:=n) hD h fun w hD h=>hk _ hD (h.del 1 at1)
   refine yJ (fun hq=>?_) (fun hq=>?_)
   ·simp only [decide_eq_true_eq] at hq
    exact s2 _ (by simp [hq])
   ·simp only [decide_eq_false_iff_not,Decidable.not_not] at hq
    exact s2 _ (by simp [hq])
 refine yJ (fun hq=>?_) (fun hq=>?_)
 ·have:n = []:=by simpa using hq
  exact s1 _ (by simp [this])
 ·have:n ≠ []:=by simpa using hq
  refine s1 _ ?_
  rw [hsz]
  by_cases h15:15 < n.length
  ·rw [decide_eq_true (by omega),decide_eq_true (.inr h15)]
  ·rw [decide_eq_false (by omega),decide_eq_false (by simp [this,h15])]
theorem zDP {k:Sl→Int→K} (hD:OkD D) (hl:(D.read n).1.length ≤ 100000) (h:Holds B (zJ d D::Γ) w)
  (herr:(D.read n).2 ≠ 0→∀ w,Holds B (zJ d D::Γ) w→k (Sl.mk none 0 0) (D.read n).2 w)
  (hok:∀ b f w,(D.read n).2 = 0→yj b = (D.read n).1→Holds B (Bytes zF f b::zJ d D::Γ) w→k f 0 w)
  (hno:(D.read n).2 = 0→(∀ b,yj b ≠ (D.read n).1)→∀ w,Holds B (zJ d D::Γ) w→k (Sl.mk none 0 0) 61 w):zBA.call (some ⟨d,0,none⟩) (bs n) k w:=by
 refine zNt _ _ _ _ ?_
 unfold zBA
 refine zIq (n:=n) hD h fun s w h=>?_
 refine yJ (fun hq=>?_) (fun hq=>?_)
 ·exact herr (by simpa using hq) _ h.tail
 ·have hz:(D.read n).2 = 0:=by simpa using hq
  have hsc:=h.zAm
  refine zIm (d:=(D.read n).1) hl hsc.2.1 h (fun w h=>Bytes.rd h List.mem_cons_self) (fun b g w hb h=>?_) (fun hn w h=>?_)
  ·exact hok b g w hz hb (h.del 1 at1)
  ·exact hno hz hn w h.tail
theorem zHw {a:DkA} (h:a.left = -1):chg a = (a,0):=by
 unfold chg
 rw [if_neg (by omega),if_neg (by omega)]
theorem zIu {α β:Type} [DecidableEq α] {k:α} {m:List (α×β)} (hm:zO k m = none):vJ k m = m:=by
 rcases zJJ k m with ⟨_,_,h,_⟩ | ⟨j,x,_,_,_,h2,_⟩
 ·exact h
 ·rw [h2] at hm; cases hm
theorem zMf {α β:Type} [DecidableEq α] {k:α} {v:β}:∀ {m:List (α×β)},zO k m = none→vJ k (m++[(k,v)]) = m
 | [],_=>if_pos rfl
 | p::m,hm=>by
  unfold zO at hm
  split at hm
  ·cases hm
  ·rename_i hne
   show (if k = p.1 then _ else _) = _
   rw [if_neg hne]
   exact congrArg (p::·) (zMf hm)
theorem zIv {α β:Type} [DecidableEq α] {k:α} {v:β}:∀ {m:List (α×β)},zO k m = none→zO k (m++[(k,v)]) = some v
 | [],_=>if_pos rfl
 | p::m,hm=>by
  unfold zO at hm
  split at hm
  ·cases hm
  ·rename_i hne
   show (if k = p.1 then _ else _) = _
   rw [if_neg hne]
   exact zIv hm
theorem zMg {α β:Type} [DecidableEq α] {k:α} {v v':β}:∀ {m:List (α×β)},zO k m = none→qR k v' (m++[(k,v)]) = m++[(k,v')]
 | [],_=>if_pos rfl
 | p::m,hm=>by
  unfold zO at hm
  split at hm
  ·cases hm
  ·rename_i hne
   show (if k = p.1 then _ else _) = _
   rw [if_neg hne]
   exact congrArg (p::·) (zMg hm)
theorem zSo (hD:OkD D) (ha:D.a.left = -1) (hd:D.a.down = false) (hn:n ≠ []) (hl:n.length ≤ 15) (hf:(vJ (zm n) D.files).length < 32) (hu:(yc (vJ (zm n) D.files):Int) + (yj x).length ≤ D.a.room) :
  D.save n x = (⟨D.a,qR n ⟨yj x,(yj x).length⟩ (vJ (zm n) D.files)⟩,0):=by
 have hrm:∃ e,(e = 0∨e = 60)∧D.remove (zm n) = (⟨D.a,vJ (zm n) D.files⟩,e)∧zO (zm n) (vJ (zm n) D.files) = none:=by
  unfold zC.remove
  rw [if_neg (by rw [hd]; decide)]
  cases hm:zO (zm n) D.files with
  | none=>exact ⟨60,.inr rfl,by rw [zIu hm],by rw [zIu hm,hm]⟩
  | some f=>
   have h1:=(hD.del hm).2.1
   simp only [zHw ha,if_true]
   exact ⟨0,.inl rfl,rfl,h1⟩
 obtain ⟨e,he,hrm,hnone⟩:=hrm
 unfold zC.save
 have hbad:¬ (n = []∨15 < n.length):=by
  rintro (h | h)
  ·exact hn h
  ·omega
 rw [if_neg hbad,hrm]
 have hbad2:¬ (e ≠ 0∧e ≠ 60):=by omega
 simp only
 rw [if_neg hbad2]
 have hnx:named (zm n) = true:=by
  unfold named zm
  simp
  omega
 have hap:(⟨D.a,vJ (zm n) D.files⟩:zC).append (zm n) (yj x) = (⟨D.a,vJ (zm n) D.files++[(zm n,⟨yj x,0⟩)]⟩,0):=by
  unfold zC.append
  simp only
  rw [if_neg (by rw [hd]; decide),if_neg (by rw [hnx]; decide),if_neg,zHw ha,hnone,zAV hnone]
  ·rfl
  ·rintro (h | h)
   ·omega
   ·omega
 unfold zJO
 rw [hap]
 simp only
 rw [if_neg (by simp)]
 have hsy:(⟨D.a,vJ (zm n) D.files++[(zm n,⟨yj x,0⟩)]⟩:zC).sync (zm n) = (⟨D.a,vJ (zm n) D.files++[(zm n,⟨yj x,(yj x).length⟩)]⟩,0):=by
  unfold zC.sync
  simp only
  rw [if_neg (by rw [hd]; decide),zIv hnone]
  simp only [zHw ha,if_true,zMg hnone]
 unfold zK0
 rw [hsy]
 simp only
 rw [if_neg (by simp)]
 unfold zPO zC.rename
 simp only
 rw [if_neg (by rw [hd]; decide),zIv hnone]
 have hnn:named n = true:=by
  unfold named
  simp [hn]
  omega
 simp only [zHw ha,if_true,zMf hnone]
 rw [if_neg (by rw [hnn]; decide)]
end
end
section
open Go Go.Sep
structure q8 where
 name:List UInt8
 size:Int
 part:Nat
 used:Nat
 dirty:Bool
 recs:List (List UInt8)
abbrev wA (d:Nat) (W:q8) (s:Sl):Array Value:=#[.pointer (some ⟨d,0,none⟩),zAR W.name,.int .i64 W.size,.int .i64 (W.part:Int),.int .i64 (W.used:Int),.bool W.dirty,s.val]
abbrev zFG:=List (Sl×List UInt8)
abbrev uM (p:Sl×List UInt8):Value:=p.1.val
abbrev vk (p:Sl×List UInt8):zB:=Bytes zF p.1 p.2
def zM (n:List UInt8) (k:Nat):List UInt8:=n++[u8 (48 + k)]
theorem zRx (a b:List UInt8):bs a++bs b = bs (a++b):=by
 apply ByteArray.ext
 rw [ByteArray.data_append]
 simp [bs]
def qB (d:List UInt8):List (List UInt8)×Nat :=
 if h:d = []∨(zP d).2.2 ≠ 0 then ([],0)
 else ((zP d).1::(qB (d.drop (zP d).2.1)).1,(zP d).2.1 + (qB (d.drop (zP d).2.1)).2)
termination_by d.length
decreasing_by
 all_goals
  have h1:d ≠ []:=fun e=>h (.inl e)
  have h2:(zP d).2.2 = 0:=by
   by_cases he:(zP d).2.2 = 0
   ·exact he
   ·exact absurd (.inr he) h
  have h3:=((zJg d).ok h2).1
  have h4:0 < d.length:=List.length_pos_iff.2 h1
  simp
  omega
theorem zET:qB [] = ([],0):=by rw [qB,dif_pos (.inl rfl)]
theorem zEU {d:List UInt8} (h:(zP d).2.2 ≠ 0):qB d = ([],0):=by rw [qB,dif_pos (.inr h)]
theorem zFk {d:List UInt8} (hd:d ≠ []) (h:(zP d).2.2 = 0):qB d = ((zP d).1::(qB (d.drop (zP d).2.1)).1,(zP d).2.1 + (qB (d.drop (zP d).2.1)).2):=by
 rw [qB,dif_neg]
 rintro (h1 | h1)
 ·exact hd h1
 ·exact h1 h
section
variable {B w:World} {Γ:List zB} {l d:Nat} {W:q8} {s:Sl} {rs:zFG} {D:zC}
theorem zQj {c:Nat} {k:ByteArray→K} (hc:c < 128) (hk:k (bs [u8 c]) w):Rd Tryz.prog (convert zOt jN (.int .i32 (c:Int))) Value.string k w:=by
 refine ⟨_,?_,hk⟩
 have h1:Tryz.prog.underlying zOt = some (.int .i32):=by kernel_rfl
 have h2:Tryz.prog.underlying jN = some .string:=by kernel_rfl
 have h3:Utf8.encode (c:Int) = bs [u8 c]:=by
  unfold Utf8.encode
  have hv:Utf8.valid (c:Int) = true:=by simp [Utf8.valid]; omega
  simp only [hv,if_true,Int.toNat_natCast]
  rw [if_pos (by omega)]
  rfl
 simp [convert,run_underlying h1,run_underlying h2,Conv.intToString,h3]
theorem zBm {p:Nat} {k:ByteArray→K} (hp:p ≤ 9) (hn:W.name.length ≤ 1000) (h:Holds B (blk l (.cells (wA d W s) vo (0,0))::SlC zL 1 s (List.map uM rs)::stars (List.map vk rs)::Γ) w) (hk:k (bs (zM W.name p)) w):jg.call (some ⟨l,0,none⟩) (p:Int) k w:=by
 refine zJf _ _ _ _ ?_
 unfold jg
 refine zAZ rfl ?_
 try simp only [zR,Nat.zero_add,Nat.reduceAdd]
 refine xQ (x:=(bs W.name)) h rfl (by first | with_reducible exact M0 | with_reducible exact M1 | with_reducible exact M2 | with_reducible exact M3 | with_reducible exact M4 | with_reducible exact M5 | with_reducible exact M6 | with_reducible exact M7 | with_reducible exact M8 | with_reducible exact M9 | with_reducible exact M10 | with_reducible exact M11 | with_reducible exact M12) ?_ ?_
 ·exact rfl
 refine qP (e':=((48 + p:Nat):Int)) (by rw [wrap64 (by omega) (by omega)]; omega) ?_
 refine qP (e':=((48 + p:Nat):Int)) (by unfold IntKind.wrap; simp only [IntKind.bits,IntKind.signed,Bool.true_and,decide_eq_true_eq,Nat.reduceSub,Int.reducePow,ge_iff_le]; split <;> omega) ?_
 refine zQj (by omega) ?_
 refine ⟨bs (zM W.name p),?_,(zRx W.name [u8 (48 + p)]).symm,hk⟩
 have e1:(bs W.name).size = W.name.length:=by simp [bs,ByteArray.size]
 have e2:(bs [u8 (48 + p)]).size = 1:=rfl
 rw [e1,e2]
 omega
end
end
section
open Go Go.Sep
def uU (l d:Nat) (W:q8):zB:=ex fun s:Sl=>ex fun rs:zFG=>stars [pur (rs.map Prod.snd = W.recs),stars (blk l (.cells (wA d W s) vo (0,0))::SlC zL 1 s (List.map uM rs)::stars (List.map vk rs)::(List.nil:List zB))]
def zUj (s:Sl) (recs:List (List UInt8)):zB:=ex fun rs:zFG=>stars [pur (rs.map Prod.snd = recs),SlC zL 1 s (rs.map uM),stars (rs.map vk)]
structure OkW (W:q8):Prop where
 name:1 ≤ W.name.length∧W.name.length ≤ 8
 size:16 ≤ W.size∧W.size ≤ 65536
 part:W.part ≤ 9
 used:W.used ≤ 10000000
 few:W.recs.length ≤ 10000000
def q8.vV (W:q8) (D:zC):zC×q8×Int:=if W.dirty = false then (D,W,0) else ((D.sync (zM W.name W.part)).1,{ W with dirty:=decide ((D.sync (zM W.name W.part)).2 ≠ 0) },(D.sync (zM W.name W.part)).2)
def q8.put (W:q8) (D:zC) (part used:Nat) (r:List UInt8):zC×q8×Int :=
 if (D.append (zM W.name part) (yP r)).2 ≠ 0 then ((D.append (zM W.name part) (yP r)).1,W,(D.append (zM W.name part) (yP r)).2)
 else ((D.append (zM W.name part) (yP r)).1,{ W with part:=part,used:=used + (yP r).length,dirty:=true,recs:=W.recs++[r] },0)
def q8.app (W:q8) (D:zC) (r:List UInt8):zC×q8×Int :=
 if 0 < W.used∧W.size < (W.used + (yP r).length:Nat) then
  if W.part = 9 then (D,W,2) else if (W.vV D).2.2 ≠ 0 then W.vV D else (W.vV D).2.1.put (W.vV D).1 (W.part + 1) 0 r
 else W.put D W.part W.used r
section
variable {B w:World} {Γ:List zB} {l d:Nat} {W:q8} {s:Sl} {rs:zFG} {D:zC}
theorem uU.opens (h:Holds B (uU l d W::Γ) w):∃ s rs,rs.map Prod.snd = W.recs∧Holds B (blk l (.cells (wA d W s) vo (0,0))::SlC zL 1 s (List.map uM rs)::stars (List.map vk rs)::Γ) w:=by
 obtain ⟨s,h⟩:=Holds.ex.1 h
 obtain ⟨rs,h⟩:=Holds.ex.1 h
 obtain ⟨h2,h4⟩:=Holds.pur.1 (Holds.flat.1 h)
 exact ⟨s,rs,h2,Holds.flat.1 h4⟩
theorem uU.shuts (hp:rs.map Prod.snd = W.recs) (h:Holds B (blk l (.cells (wA d W s) vo (0,0))::SlC zL 1 s (List.map uM rs)::stars (List.map vk rs)::Γ) w):Holds B (uU l d W::Γ) w :=
 Holds.ex.2 ⟨s,Holds.ex.2 ⟨rs,Holds.flat.2 (Holds.pur.2 ⟨hp,Holds.flat.2 h⟩)⟩⟩
theorem zUk (h:Holds B (SlC zL 1 s (rs.map uM)::Γ) w):rs.length = s.n:=by
 have:=h.zAm.1
 simpa using this
theorem zUl (rs:zFG):∀ v ∈ rs.map uM,qC v = true:=fun v hv=>by
 obtain ⟨p,_,rfl⟩:=List.mem_map.1 hv
 rfl
theorem zRy {f:Sl} {b:List UInt8} {k:Sl→K} (hl:rs.length ≤ 100000000) (h:Holds B (SlC zL 1 s (rs.map uM)::stars (rs.map vk)::Bytes zF f b::Γ) w)
  (hk:∀ s' w,Holds B (SlC zL 1 s' ((rs++[(f,b)]).map uM)::stars ((rs++[(f,b)]).map vk)::Γ) w→k s' w) :
  New zL #[f.val] (fun t=>Do Tryz.prog (Builtin.append_ #[zEh,zEh] zEh #[(Sl.val s),(Sl.val (Sl.mk (some t) 1 1))]) Sl.val k) w:=by
 have hn:=zUk h
 refine xE h ?_
 clear h
 intro t w h
 try simp only [zR,Nat.zero_add,Nat.reduceAdd]
 have hx:=RdC.zD2 (n:=1) (esz:=1) h List.mem_cons_self (vs:=[f.val]) rfl rfl 1
 refine zA7 (h.pick 1 at1) (by kernel_rfl) (by kernel_rfl) (by':=24) (by kernel_rfl) zE2 rfl hx (fun v hv=>by simp only [List.mem_singleton] at hv; subst hv; rfl) (by simp only; omega) (by decide) fun s' w h _ _=>?_
 try simp only [N1,N2,N3,N4,N5,N6,N7] at h
 have e1:rs.map uM++[f.val] = (rs++[(f,b)]).map uM:=by simp
 rw [e1] at h
 replace h:=P3 h
 replace h:=P3 h
 replace h:=D3 h
 try simp only [N1,N2,N3,N4,N5,N6,N7] at h
 have h2:Holds B (stars ((rs++[(f,b)]).map vk)::SlC zL 1 s' ((rs++[(f,b)]).map uM)::Γ) w:=zMM (f:=vk) (x:=(f,b)) h
 exact hk _ _ h2.swap
theorem zK3 {data:Sl} {dat:List UInt8} {k:Int→K} (hl:dat.length ≤ 2000000) (hrl:rs.length ≤ 10000000) (h:Holds B (blk l (.cells (wA d W s) vo (0,0))::SlC zL 1 s (List.map uM rs)::stars (List.map vk rs)::Γ) w) (hr:∀ w,Holds B Γ w→RdB w data dat) (hcap:data.n ≤ data.c) (hsp:∀ a,data.a = some a→a.spot = none)
  (hk:∀ s' rs' w,rs'.map Prod.snd = rs.map Prod.snd++(qB dat).1→Holds B (blk l (.cells (wA d W s') vo (0,0))::SlC zL 1 s' (List.map uM rs')::stars (List.map vk rs')::Γ) w→k ((qB dat).2:Int) w):xY.call (some ⟨l,0,none⟩) data k w:=by
 have hdn:dat.length = data.n:=by have:=(hr w h.tail.tail.tail).len; simpa using this
 refine zIh _ _ _ _ ?_
 unfold xY
 refine yM.of (fun t w=>∃ (g:Nat) (done:List (List UInt8)) (s':Sl) (rs':zFG),t = (g:Int)∧g ≤ dat.length∧rs'.map Prod.snd = rs.map Prod.snd++done∧qB dat = (done++(qB (dat.drop g)).1,g + (qB (dat.drop g)).2)∧rs'.length ≤ rs.length + g∧Holds B (blk l (.cells (wA d W s') vo (0,0))::SlC zL 1 s' (List.map uM rs')::stars (List.map vk rs')::Γ) w) (fun t _=>((data.n:Int) - t).toNat) ⟨0,[],s,rs,rfl,by omega,by simp,by simp,by omega,h⟩ ?_
 clear h
 rintro t w ⟨g,done,s',rs',rfl,hg,hrs,hpp,hcnt,h⟩
 unfold xY.b2 xY.s1
 refine yJ (fun hb=>?_) (fun hb=>?_)
 ·simp only [decide_eq_true_eq] at hb
  have hdr:dat.drop g ≠ []:=fun e=>by
   have:=congrArg List.length e
   simp at this
   omega
  have hF:=zJg (dat.drop g)
  refine ⟨_,by omega,by omega,by omega,by omega,rfl,?_⟩
  simp only [Int.toNat_natCast]
  refine zCC (d:=dat.drop g) (by simp; omega) h (fun w h=>zFg (hr w h.tail.tail.tail) (by omega) hcap hsp) (by simp only; omega) fun f w h=>?_
  refine yJ (fun he=>?_) (fun he=>?_)
  ·have he':(zP (dat.drop g)).2.2 ≠ 0:=by simp only [decide_eq_true_eq] at he; omega
   rw [zEU he'] at hpp
   simp only [List.append_nil,Nat.add_zero] at hpp
   have h3:=hk s' rs' w (by rw [hpp]; exact hrs) h.tail
   rw [hpp] at h3
   exact h3
  ·have he':(zP (dat.drop g)).2.2 = 0:=by simp only [decide_eq_false_iff_not] at he; omega
   rw [zFk hdr he',List.drop_drop] at hpp
   simp only at hpp
   obtain ⟨q1,q2,_⟩:=hF.ok he'
   have q3:=hF.le
   rw [List.length_drop] at q3
   refine zAZ rfl ?_
   try simp only [zR,Nat.zero_add,Nat.reduceAdd]
   refine xQ (x:=s') h rfl (by first | with_reducible exact M0 | with_reducible exact M1 | with_reducible exact M2 | with_reducible exact M3 | with_reducible exact M4 | with_reducible exact M5 | with_reducible exact M6 | with_reducible exact M7 | with_reducible exact M8 | with_reducible exact M9 | with_reducible exact M10 | with_reducible exact M11 | with_reducible exact M12) ?_ ?_
   ·exact rfl
   replace h:=P1 h
   replace h:=P1 h
   replace h:=P3 h
   replace h:=P3 h
   try simp only [N1,N2,N3,N4,N5,N6,N7] at h
   refine zRy (by omega) h fun s2 w h=>?_
   replace h:=P1 h
   replace h:=P1 h
   replace h:=P2 h
   try simp only [N1,N2,N3,N4,N5,N6,N7] at h
   first | refine S0 h rfl ?_ rfl ?_ | refine S1 h rfl ?_ rfl ?_ | refine S2 h rfl ?_ rfl ?_ | refine S3 h rfl ?_ rfl ?_ | refine S4 h rfl ?_ rfl ?_ | refine S5 h rfl ?_ rfl ?_ | refine S6 h rfl ?_ rfl ?_ | refine S7 h rfl ?_ rfl ?_ | refine S8 h rfl ?_ rfl ?_
   ·first | exact Nat.lt_of_ble_eq_true rfl | (simp; done) | (simp; omega)
   clear h
   intro w h
   try simp only [N1,N2,N3,N4,N5,N6,N7] at h
   refine qP (e':=((g + (zP (dat.drop g)).2.1:Nat):Int)) (by rw [wrap64 (by omega) (by omega)]; omega) ?_
   refine ⟨⟨g + (zP (dat.drop g)).2.1,done++[(zP (dat.drop g)).1],s2,_,rfl,by omega,?_,?_,?_,h⟩,by omega⟩
   ·rw [List.map_append,hrs,List.append_assoc]; rfl
   ·rw [hpp,List.append_assoc]
    exact Prod.ext rfl (by simp only; omega)
   ·rw [List.length_append,List.length_singleton]; omega
 ·simp only [decide_eq_false_iff_not] at hb
  have hz:dat.drop g = []:=List.drop_eq_nil_of_le (by omega)
  rw [hz,zET] at hpp
  simp only [List.append_nil,Nat.add_zero] at hpp
  have h3:=hk s' rs' w (by rw [hpp]; exact hrs) h
  rw [hpp] at h3
  exact h3
theorem zEV {k:Sl→K} (hW:OkW W) (hlen:∀ r ∈ W.recs,r.length ≤ 1000000) (h:Holds B (uU l d W::Γ) w) (hk:∀ s w,Holds B (zUj s W.recs::uU l d W::Γ) w→k s w):uE.call (some ⟨l,0,none⟩) k w:=by
 obtain ⟨s,rs,hp,h⟩:=uU.opens h
 have hrl:rs.length = W.recs.length:=by rw [← hp]; simp
 have hfew:=hW.few
 have hn:=zUk h.tail
 refine zG0 _ _ _ ?_
 unfold uE
 refine zAZ rfl ?_
 try simp only [zR,Nat.zero_add,Nat.reduceAdd]
 refine xQ (x:=s) h rfl (by first | with_reducible exact M0 | with_reducible exact M1 | with_reducible exact M2 | with_reducible exact M3 | with_reducible exact M4 | with_reducible exact M5 | with_reducible exact M6 | with_reducible exact M7 | with_reducible exact M8 | with_reducible exact M9 | with_reducible exact M10 | with_reducible exact M11 | with_reducible exact M12) ?_ ?_
 ·exact rfl
 have h0:=(h.zA6).zAv zL 1
 refine yM.of (fun t w=>∃ (j:Nat) (os:zFG),t.2 = (j:Int)∧j ≤ rs.length∧os.length = j∧os.map Prod.snd = (rs.take j).map Prod.snd∧Holds B (SlC zL 1 t.1 (os.map uM)::stars (os.map vk)::(blk l (.cells (wA d W s) vo (0,0))::SlC zL 1 s (List.map uM rs)::stars (List.map vk rs)::Γ)) w) (fun t _=>((s.n:Int) - t.2).toNat) ⟨0,[],rfl,by omega,rfl,rfl,h0⟩ ?_
 clear h h0
 rintro ⟨o,t⟩ w ⟨j,os,h1,hj,hol,hos,h⟩
 simp only at h1 h
 subst h1
 unfold uE.b1
 refine yJ (fun hb=>?_) (fun hb=>?_)
 ·simp only [decide_eq_true_eq] at hb
  have hjl:j < rs.length:=by omega
  have hx:rs[j]? = some rs[j]:=List.getElem?_eq_getElem hjl
  have htk:rs.take (j + 1) = rs.take j++[rs[j]]:=List.take_succ_eq_append_getElem hjl
  generalize rs[j] = x at hx htk
  have hxl:x.2.length ≤ 1000000:=hlen x.2 (by rw [← hp]; exact List.mem_map_of_mem (List.mem_of_getElem? hx))
  have hrd:RdC w s 1 ((rs.map Prod.fst).map Sl.val):=by
   have h9:RdC w s 1 (rs.map uM):=h.rdC (E:=zL) (by first | with_reducible exact M0 | with_reducible exact M1 | with_reducible exact M2 | with_reducible exact M3 | with_reducible exact M4 | with_reducible exact M5 | with_reducible exact M6 | with_reducible exact M7 | with_reducible exact M8 | with_reducible exact M9 | with_reducible exact M10 | with_reducible exact M11 | with_reducible exact M12)
   rw [List.map_map]
   exact h9
  refine zFZ (c:=Sl.val) (L:=rs.map Prod.fst) hrd (x:=x.1) (by rw [List.getElem?_map,hx]; rfl) ?_
  refine uX (b:=x.1) (xs:=x.2) h (fun w h=>zOw (f:=vk) (x:=x) 4 h at4 (List.mem_of_getElem? hx) rfl) (by omega) fun c w h _=>?_
  replace h:=P5 h
  replace h:=P5 h
  replace h:=P5 h
  replace h:=P3 h
  replace h:=P5 h
  replace h:=P5 h
  try simp only [N1,N2,N3,N4,N5,N6,N7] at h
  refine zRy (by omega) h fun s2 w h=>?_
  refine xq (by omega) (by omega) ?_
  exact ⟨⟨j + 1,_,by simp,by omega,by simp; omega,by rw [List.map_append,hos,htk,List.map_append]; rfl,h⟩,by omega⟩
 ·simp only [decide_eq_false_iff_not] at hb
  have:j = rs.length:=by omega
  subst this
  rw [List.take_length,hp] at hos
  have h2:Holds B (zUj o W.recs::(blk l (.cells (wA d W s) vo (0,0))::SlC zL 1 s (List.map uM rs)::stars (List.map vk rs)::Γ)) w:=Holds.ex.2 ⟨os,Holds.flat.2 (Holds.pur.2 ⟨hos,h⟩)⟩
  replace h:=h2
  replace h:=P3 h
  replace h:=P3 h
  replace h:=P3 h
  try simp only [N1,N2,N3,N4,N5,N6,N7] at h
  exact hk _ _ (uU.shuts hp h).swap
theorem zGg {k:Int→K} (hD:OkD D) (hW:OkW W) (h:Holds B (uU l d W::zJ d D::Γ) w) (hk:∀ w,OkD (W.vV D).1→Holds B (uU l d (W.vV D).2.1::zJ d (W.vV D).1::Γ) w→k (W.vV D).2.2 w):zAy.call (some ⟨l,0,none⟩) k w:=by
 obtain ⟨s,rs,hp,h⟩:=uU.opens h
 have hnm:=hW.name
 have hpt:=hW.part
 refine zJd _ _ _ ?_
 unfold zAy
 unfold q8.vV at hk
 refine zAZ rfl ?_
 try simp only [zR,Nat.zero_add,Nat.reduceAdd]
 refine xQ (x:=W.dirty) h rfl (by first | with_reducible exact M0 | with_reducible exact M1 | with_reducible exact M2 | with_reducible exact M3 | with_reducible exact M4 | with_reducible exact M5 | with_reducible exact M6 | with_reducible exact M7 | with_reducible exact M8 | with_reducible exact M9 | with_reducible exact M10 | with_reducible exact M11 | with_reducible exact M12) ?_ ?_
 ·exact rfl
 refine yJ (fun hb=>?_) (fun hb=>?_)
 ·have hb':W.dirty = false:=by simpa using hb
  rw [if_pos hb'] at hk
  exact hk _ hD (uU.shuts hp h)
 ·have hb':¬ W.dirty = false:=by simpa using hb
  rw [if_neg hb'] at hk
  have hS:Holds B (blk l (.cells (wA d W s) vo (0,0))::SlC zL 1 s (List.map uM rs)::stars (List.map vk rs)::Γ) w:=h.del 3 at3
  refine zB8 h ?_
  clear h
  intro w h
  have hS:Holds B (blk l (.cells (wA d W s) vo (0,0))::SlC zL 1 s (List.map uM rs)::stars (List.map vk rs)::Γ) w:=h.del 3 at3
  refine zBq hS ?_
  refine zCf (x:=(some ⟨d,0,none⟩)) rfl (by first | with_reducible exact M0 | with_reducible exact M1 | with_reducible exact M2 | with_reducible exact M3 | with_reducible exact M4 | with_reducible exact M5 | with_reducible exact M6 | with_reducible exact M7 | with_reducible exact M8 | with_reducible exact M9 | with_reducible exact M10 | with_reducible exact M11 | with_reducible exact M12) ?_ ?_
  ·exact rfl
  refine zCf (x:=(W.part:Int)) rfl (by first | with_reducible exact M0 | with_reducible exact M1 | with_reducible exact M2 | with_reducible exact M3 | with_reducible exact M4 | with_reducible exact M5 | with_reducible exact M6 | with_reducible exact M7 | with_reducible exact M8 | with_reducible exact M9 | with_reducible exact M10 | with_reducible exact M11 | with_reducible exact M12) ?_ ?_
  ·exact rfl
  refine zBm (by omega) (by omega) h ?_
  refine zFS hS ?_
  replace h:=P2 h
  replace h:=P2 h
  replace h:=P2 h
  replace h:=P3 h
  try simp only [N1,N2,N3,N4,N5,N6,N7] at h
  refine zMb (n:=zM W.name W.part) hD h fun w hD' h=>?_
  replace h:=P3 h
  replace h:=P3 h
  replace h:=P3 h
  try simp only [N1,N2,N3,N4,N5,N6,N7] at h
  first | refine S0 h rfl ?_ rfl ?_ | refine S1 h rfl ?_ rfl ?_ | refine S2 h rfl ?_ rfl ?_ | refine S3 h rfl ?_ rfl ?_ | refine S4 h rfl ?_ rfl ?_ | refine S5 h rfl ?_ rfl ?_ | refine S6 h rfl ?_ rfl ?_ | refine S7 h rfl ?_ rfl ?_ | refine S8 h rfl ?_ rfl ?_
  ·first | exact Nat.lt_of_ble_eq_true rfl | (simp; done) | (simp; omega)
  clear h
  intro w h
  try simp only [N1,N2,N3,N4,N5,N6,N7] at h
  exact hk _ hD' (uU.shuts (W:={ W with dirty:=decide ((D.sync (zM W.name W.part)).2 ≠ 0) }) hp h)
end
end
section
open Go Go.Sep
section
variable {B w:World} {Γ:List zB} {l d:Nat} {W:q8} {s:Sl} {rs:zFG} {D:zC}
theorem zHx {rec f:Sl} {r:List UInt8} {part used:Nat} {k:Int→K} (hD:OkD D) (hW:OkW W) (hpt:part ≤ 9) (hus:used ≤ 10000000) (hl:r.length ≤ 4096) (hr:∀ w,Holds B Γ w→RdB w rec r)
  (h:Holds B (Bytes zF f (yP r)::uU l d W::zJ d D::Γ) w)
  (hk:∀ w,OkD (W.put D part used r).1→Holds B (uU l d (W.put D part used r).2.1::zJ d (W.put D part used r).1::Γ) w→k (W.put D part used r).2.2 w) :
  qJ.s1 k ⟨l,0,none⟩ rec f (part:Int) (used:Int) w:=by
 have hnm:=hW.name
 have hfew:=hW.few
 have hfl:=Bytes.len h
 have hfL:=qV r
 obtain ⟨s,rs,hp,h⟩:=uU.opens h.swap
 have hrl:rs.length = W.recs.length:=by rw [← hp]; simp
 unfold qJ.s1
 unfold q8.put at hk
 refine zB8 h ?_
 clear h
 intro w h
 have hS:Holds B (blk l (.cells (wA d W s) vo (0,0))::SlC zL 1 s (List.map uM rs)::stars (List.map vk rs)::Γ) w:=(h.del 3 at3).del 3 at3
 refine zBq hS ?_
 try simp only [zR,Nat.zero_add,Nat.reduceAdd]
 refine zCf (x:=(some ⟨d,0,none⟩)) rfl (by first | with_reducible exact M0 | with_reducible exact M1 | with_reducible exact M2 | with_reducible exact M3 | with_reducible exact M4 | with_reducible exact M5 | with_reducible exact M6 | with_reducible exact M7 | with_reducible exact M8 | with_reducible exact M9 | with_reducible exact M10 | with_reducible exact M11 | with_reducible exact M12) ?_ ?_
 ·exact rfl
 refine zBm (by omega) (by omega) h ?_
 refine zFS hS ?_
 replace h:=P2 h
 replace h:=P2 h
 replace h:=P2 h
 replace h:=P3 h
 replace h:=P4 h
 try simp only [N1,N2,N3,N4,N5,N6,N7] at h
 refine zJN (n:=zM W.name part) (x:=yP r) hD (by omega) h (fun w h=>Bytes.rd h List.mem_cons_self) fun w hD' h=>?_
 refine yJ (fun hq=>?_) (fun hq=>?_)
 ·have hq':(D.append (zM W.name part) (yP r)).2 ≠ 0:=by simpa using hq
  rw [if_pos hq'] at hk
  replace h:=P4 h
  replace h:=P4 h
  replace h:=P4 h
  replace h:=D4 h
  try simp only [N1,N2,N3,N4,N5,N6,N7] at h
  exact hk _ hD' (uU.shuts hp h)
 ·have hq':¬ (D.append (zM W.name part) (yP r)).2 ≠ 0:=by simpa using hq
  rw [if_neg hq'] at hk
  refine qP (e':=((used + (yP r).length:Nat):Int)) (by rw [wrap64 (by omega) (by omega)]; omega) ?_
  replace h:=P4 h
  replace h:=P4 h
  replace h:=P4 h
  replace h:=D4 h
  try simp only [N1,N2,N3,N4,N5,N6,N7] at h
  first | refine S0 h rfl ?_ rfl ?_ | refine S1 h rfl ?_ rfl ?_ | refine S2 h rfl ?_ rfl ?_ | refine S3 h rfl ?_ rfl ?_ | refine S4 h rfl ?_ rfl ?_ | refine S5 h rfl ?_ rfl ?_ | refine S6 h rfl ?_ rfl ?_ | refine S7 h rfl ?_ rfl ?_ | refine S8 h rfl ?_ rfl ?_
  ·first | exact Nat.lt_of_ble_eq_true rfl | (simp; done) | (simp; omega)
  clear h
  intro w h
  try simp only [N1,N2,N3,N4,N5,N6,N7] at h
  first | refine S0 h rfl ?_ rfl ?_ | refine S1 h rfl ?_ rfl ?_ | refine S2 h rfl ?_ rfl ?_ | refine S3 h rfl ?_ rfl ?_ | refine S4 h rfl ?_ rfl ?_ | refine S5 h rfl ?_ rfl ?_ | refine S6 h rfl ?_ rfl ?_ | refine S7 h rfl ?_ rfl ?_ | refine S8 h rfl ?_ rfl ?_
  ·first | exact Nat.lt_of_ble_eq_true rfl | (simp; done) | (simp; omega)
  clear h
  intro w h
  try simp only [N1,N2,N3,N4,N5,N6,N7] at h
  first | refine S0 h rfl ?_ rfl ?_ | refine S1 h rfl ?_ rfl ?_ | refine S2 h rfl ?_ rfl ?_ | refine S3 h rfl ?_ rfl ?_ | refine S4 h rfl ?_ rfl ?_ | refine S5 h rfl ?_ rfl ?_ | refine S6 h rfl ?_ rfl ?_ | refine S7 h rfl ?_ rfl ?_ | refine S8 h rfl ?_ rfl ?_
  ·first | exact Nat.lt_of_ble_eq_true rfl | (simp; done) | (simp; omega)
  clear h
  intro w h
  try simp only [N1,N2,N3,N4,N5,N6,N7] at h
  have hS:Holds B (blk l (.cells (wA d ({ W with part:=part,used:=used + (yP r).length,dirty:=true }:q8) s) vo (0,0))::SlC zL 1 s (List.map uM rs)::stars (List.map vk rs)::Γ) w:=h.del 3 at3
  refine zB8 h ?_
  clear h
  intro w h
  have hS:Holds B (blk l (.cells (wA d ({ W with part:=part,used:=used + (yP r).length,dirty:=true }:q8) s) vo (0,0))::SlC zL 1 s (List.map uM rs)::stars (List.map vk rs)::Γ) w:=h.del 3 at3
  refine zBq hS ?_
  refine zCf (x:=s) rfl M0 rfl ?_
  refine uX (b:=rec) (xs:=r) h (fun w h=>hr w h.tail.tail.tail.tail) (by omega) fun c w h _=>?_
  refine zFS (h.tail.del 3 at3) ?_
  refine xE h ?_
  clear h
  intro t w h
  try simp only [zR,Nat.zero_add,Nat.reduceAdd]
  refine zFS (h.tail.tail.del 3 at3) ?_
  have hn:=zUk (h.pick 3 at3)
  have hx:=RdC.zD2 (n:=1) (esz:=1) h List.mem_cons_self (vs:=[c.val]) rfl rfl 1
  refine zA7 (h.pick 3 at3) (by kernel_rfl) (by kernel_rfl) (by':=24) (by kernel_rfl) zE2 rfl hx (fun v hv=>by simp only [List.mem_singleton] at hv; subst hv; rfl) (by simp only; omega) (by decide) fun s' w h _ _=>?_
  try simp only [N1,N2,N3,N4,N5,N6,N7] at h
  have e1:rs.map uM++[c.val] = (rs++[(c,r)]).map uM:=by simp
  rw [e1] at h
  first | refine S0 h rfl ?_ rfl ?_ | refine S1 h rfl ?_ rfl ?_ | refine S2 h rfl ?_ rfl ?_ | refine S3 h rfl ?_ rfl ?_ | refine S4 h rfl ?_ rfl ?_ | refine S5 h rfl ?_ rfl ?_ | refine S6 h rfl ?_ rfl ?_ | refine S7 h rfl ?_ rfl ?_ | refine S8 h rfl ?_ rfl ?_
  ·first | exact Nat.lt_of_ble_eq_true rfl | (simp; done) | (simp; omega)
  clear h
  intro w h
  try simp only [N1,N2,N3,N4,N5,N6,N7] at h
  replace h:=P5 h
  replace h:=P1 h
  replace h:=P4 h
  replace h:=P4 h
  replace h:=P5 h
  replace h:=D5 h
  try simp only [N1,N2,N3,N4,N5,N6,N7] at h
  have h2:Holds B (stars ((rs++[(c,r)]).map vk)::blk l _::SlC zL 1 s' ((rs++[(c,r)]).map uM)::zJ d _::Γ) w:=zMM (f:=vk) (x:=(c,r)) h
  replace h:=h2
  replace h:=P3 h
  replace h:=P1 h
  replace h:=P3 h
  replace h:=P3 h
  try simp only [N1,N2,N3,N4,N5,N6,N7] at h
  exact hk _ hD' (uU.shuts (W:={ W with part:=part,used:=used + (yP r).length,dirty:=true,recs:=W.recs++[r] }) (by rw [List.map_append,hp]; rfl) h)
theorem zUm {W:q8} (hW:OkW W):OkW (W.vV D).2.1∧(W.vV D).2.1.name = W.name:=by
 unfold q8.vV
 split
 ·exact ⟨hW,rfl⟩
 ·exact ⟨⟨hW.name,hW.size,hW.part,hW.used,hW.few⟩,rfl⟩
theorem zJi {rec:Sl} {r:List UInt8} {k:Int→K} (hD:OkD D) (hW:OkW W) (hl:r.length ≤ 4096) (hr:∀ w,Holds B Γ w→RdB w rec r) (h:Holds B (uU l d W::zJ d D::Γ) w)
  (hk:∀ w,OkD (W.app D r).1→Holds B (uU l d (W.app D r).2.1::zJ d (W.app D r).1::Γ) w→k (W.app D r).2.2 w):qJ.call (some ⟨l,0,none⟩) rec k w:=by
 have hpt:=hW.part
 have hus:=hW.used
 have hsz:=hW.size
 refine zHp _ _ _ _ ?_
 unfold qJ
 unfold q8.app at hk
 refine zBr (b:=r) hl h (fun w h=>hr w h.tail.tail) fun f w h=>?_
 refine yH rfl ?_
 refine zB8 h ?_
 clear h
 intro w h
 have hfl:=Bytes.len h
 have hfL:=qV r
 obtain ⟨s,rs,hp,h⟩:=uU.opens h.swap
 refine zAZ rfl ?_
 try simp only [zR,Nat.zero_add,Nat.reduceAdd]
 refine xQ (x:=(W.part:Int)) h rfl (by first | with_reducible exact M0 | with_reducible exact M1 | with_reducible exact M2 | with_reducible exact M3 | with_reducible exact M4 | with_reducible exact M5 | with_reducible exact M6 | with_reducible exact M7 | with_reducible exact M8 | with_reducible exact M9 | with_reducible exact M10 | with_reducible exact M11 | with_reducible exact M12) ?_ ?_
 ·exact rfl
 refine xQ (x:=(W.used:Int)) h rfl (by first | with_reducible exact M0 | with_reducible exact M1 | with_reducible exact M2 | with_reducible exact M3 | with_reducible exact M4 | with_reducible exact M5 | with_reducible exact M6 | with_reducible exact M7 | with_reducible exact M8 | with_reducible exact M9 | with_reducible exact M10 | with_reducible exact M11 | with_reducible exact M12) ?_ ?_
 ·exact rfl
 have shut:Holds B (Bytes zF f (yP r)::uU l d W::zJ d D::Γ) w:=by
  have h1:=uU.shuts hp h
  exact h1.swap
 have no:¬ (0 < W.used∧W.size < (W.used + (yP r).length:Nat))→qJ.s2 k ⟨l,0,none⟩ rec f (W.part:Int) (W.used:Int) false w:=fun hn=>by
  rw [if_neg hn] at hk
  unfold qJ.s2
  refine yH rfl ?_
  exact zHx hD hW (by omega) (by omega) hl hr shut hk
 refine yJ (fun hq=>?_) (fun hq=>?_)
 ·simp only [decide_eq_true_eq] at hq
  refine qP (e':=((W.used + (yP r).length:Nat):Int)) (by rw [wrap64 (by omega) (by omega)]; omega) ?_
  refine xQ (x:=W.size) h rfl (by first | with_reducible exact M0 | with_reducible exact M1 | with_reducible exact M2 | with_reducible exact M3 | with_reducible exact M4 | with_reducible exact M5 | with_reducible exact M6 | with_reducible exact M7 | with_reducible exact M8 | with_reducible exact M9 | with_reducible exact M10 | with_reducible exact M11 | with_reducible exact M12) ?_ ?_
  ·exact rfl
  by_cases hc:W.size < ((W.used + (yP r).length:Nat):Int)
  ·rw [decide_eq_true hc]
   rw [if_pos ⟨by omega,hc⟩] at hk
   unfold qJ.s2
   refine qO rfl ?_
   refine qP (e':=((W.part + 1:Nat):Int)) (by rw [wrap64 (by omega) (by omega)]; omega) ?_
   refine yJ (fun h9=>?_) (fun h9=>?_)
   ·simp only [decide_eq_true_eq] at h9
    rw [if_pos (by omega)] at hk
    exact hk _ hD shut.tail
   ·simp only [decide_eq_false_iff_not] at h9
    rw [if_neg (by omega)] at hk
    have h2:=(shut.pick 1 at1).pick 2 at2
    replace h:=shut
    replace h:=P2 h
    replace h:=P2 h
    try simp only [N1,N2,N3,N4,N5,N6,N7] at h
    refine zGg hD hW h fun w hD' h=>?_
    refine yJ (fun hz=>?_) (fun hz=>?_)
    ·have hz':(W.vV D).2.2 ≠ 0:=by simpa using hz
     rw [if_pos hz'] at hk
     exact hk _ hD' (h.del 2 at2)
    ·have hz':¬ (W.vV D).2.2 ≠ 0:=by simpa using hz
     rw [if_neg hz'] at hk
     replace h:=P1 h
     replace h:=P1 h
     replace h:=P2 h
     try simp only [N1,N2,N3,N4,N5,N6,N7] at h
     exact zHx (part:=W.part + 1) (used:=0) hD' (zUm hW).1 (by omega) (by omega) hl hr h hk
  ·rw [decide_eq_false hc]
   exact no fun hh=>hc hh.2
 ·simp only [decide_eq_false_iff_not] at hq
  exact no fun hh=>hq (by omega)
end
end
section
open Go Go.Sep
theorem zHy:∀ (n:Nat) (d:List UInt8),d.length = n→(qB d).1.length ≤ d.length∧(qB d).2 ≤ d.length:=by
 intro n
 induction n using Nat.strongRecOn with
 | _ n ih=>
  intro d hd
  by_cases h1:d = []
  ·subst h1; rw [zET]; exact ⟨Nat.le_refl _,Nat.le_refl _⟩
  by_cases h2:(zP d).2.2 = 0
  ·have hF:=zJg d
   obtain ⟨q1,q2,_⟩:=hF.ok h2
   have q3:=hF.le
   have hl:0 < d.length:=List.length_pos_iff.2 h1
   have:=ih (d.drop (zP d).2.1).length (by simp; omega) _ rfl
   rw [zFk h1 h2]
   simp only [List.length_cons,List.length_drop] at this ⊢
   omega
  ·rw [zEU h2]; exact ⟨by simp,by simp⟩
theorem zNw:∀ (n:Nat) (d:List UInt8),d.length = n→∀ r ∈ (qB d).1,r.length ≤ 4096:=by
 intro n
 induction n using Nat.strongRecOn with
 | _ n ih=>
  intro d hd
  by_cases h1:d = []
  ·subst h1; rw [zET]; intro r hr; cases hr
  by_cases h2:(zP d).2.2 = 0
  ·have hF:=zJg d
   obtain ⟨q1,q2,_⟩:=hF.ok h2
   have hl:0 < d.length:=List.length_pos_iff.2 h1
   have:=ih (d.drop (zP d).2.1).length (by simp; omega) _ rfl
   rw [zFk h1 h2]
   intro r hr
   rcases List.mem_cons.1 hr with rfl | hr
   ·exact hF.small
   ·exact this r hr
  ·rw [zEU h2]; intro r hr; cases hr
def jG (name:List UInt8):Nat→Nat→zC→q8→zC×q8×Nat×Int
 | 0,part,D,W=>(D,W,part,0)
 | f + 1,part,D,W=>
  if (D.read (zM name part)).2 = 60 then (D,W,part,0)
  else if (D.read (zM name part)).2 ≠ 0 then (D,W,part,(D.read (zM name part)).2)
  else if (qB (D.read (zM name part)).1).2 = (D.read (zM name part)).1.length then
   jG name f (part + 1) D { W with recs:=W.recs++(qB (D.read (zM name part)).1).1,part:=part,used:=(qB (D.read (zM name part)).1).2 }
  else if (D.cut (zM name part) ((qB (D.read (zM name part)).1).2:Int)).2 ≠ 0 then
   ((D.cut (zM name part) ((qB (D.read (zM name part)).1).2:Int)).1,{ W with recs:=W.recs++(qB (D.read (zM name part)).1).1,part:=part,used:=(qB (D.read (zM name part)).1).2 },part,(D.cut (zM name part) ((qB (D.read (zM name part)).1).2:Int)).2)
  else ((D.cut (zM name part) ((qB (D.read (zM name part)).1).2:Int)).1,{ W with recs:=W.recs++(qB (D.read (zM name part)).1).1,part:=part,used:=(qB (D.read (zM name part)).1).2 },part + 1,0)
def zBn (name:List UInt8):Nat→Nat→zC→zC×Int
 | 0,_,D=>(D,0)
 | f + 1,part,D=>if (D.remove (zM name (part + f))).2 ≠ 0∧(D.remove (zM name (part + f))).2 ≠ 60 then D.remove (zM name (part + f)) else zBn name f part (D.remove (zM name (part + f))).1
def q8.load (W:q8) (D:zC):zC×q8×Int :=
 if (jG W.name 10 0 D W).2.2.2 ≠ 0 then ((jG W.name 10 0 D W).1,(jG W.name 10 0 D W).2.1,(jG W.name 10 0 D W).2.2.2)
 else ((zBn W.name (10 - (jG W.name 10 0 D W).2.2.1) (jG W.name 10 0 D W).2.2.1 (jG W.name 10 0 D W).1).1,(jG W.name 10 0 D W).2.1,(zBn W.name (10 - (jG W.name 10 0 D W).2.2.1) (jG W.name 10 0 D W).2.2.1 (jG W.name 10 0 D W).1).2)
section
variable {B w:World} {Γ:List zB} {l d:Nat} {W:q8} {s:Sl} {rs:zFG} {D:zC}
theorem zMh {D:zC} (hD:OkD D) (n:List UInt8):(D.read n).1.length ≤ 1048576:=by
 unfold zC.read
 split
 ·simp
 cases hm:zO n D.files with
 | none=>simp
 | some f=>have:=zA4 hD hm; exact this.1
theorem zHz {name:List UInt8} {k:Int→K} {part:Nat} (hp:part ≤ 10) (hD:OkD D) (hn:W.name = name) (hnl:name.length ≤ 8) (h:Holds B (uU l d W::zJ d D::Γ) w)
  (hk:∀ w,OkD (zBn name (10 - part) part D).1→Holds B (uU l d W::zJ d (zBn name (10 - part) part D).1::Γ) w→k (zBn name (10 - part) part D).2 w):yD.s1 k (some ⟨l,0,none⟩) (part:Int) w:=by
 unfold yD.s1
 refine yM.of (fun t w=>∃ (f:Nat) (D':zC),t = (part:Int) + f - 1∧part + f ≤ 10∧zBn name (10 - part) part D = zBn name f part D'∧OkD D'∧Holds B (uU l d W::zJ d D'::Γ) w) (fun t _=>(t + 1).toNat) ⟨10 - part,D,by omega,by omega,rfl,hD,h⟩ ?_
 clear h
 rintro t w ⟨f,D',rfl,hf,he,hD',h⟩
 rw [he] at hk
 unfold yD.b2
 refine yJ (fun hb=>?_) (fun hb=>?_)
 ·simp only [decide_eq_true_eq] at hb
  obtain ⟨g,rfl⟩:∃ g,f = g + 1:=⟨f - 1,by omega⟩
  obtain ⟨s,rs,hrs,h⟩:=uU.opens h
  have hi:(part:Int) + ((g + 1:Nat):Int) - 1 = ((part + g:Nat):Int):=by omega
  rw [hi]
  refine zB8 h ?_
  clear h
  intro w h
  have hS:Holds B (blk l (.cells (wA d W s) vo (0,0))::SlC zL 1 s (List.map uM rs)::stars (List.map vk rs)::Γ) w:=h.del 3 at3
  refine zBq hS ?_
  refine zAZ rfl ?_
  refine zCf (x:=some ⟨d,0,none⟩) rfl M0 rfl ?_
  refine zBm (by omega) (by rw [hn]; omega) h ?_
  rw [hn]
  refine zFS hS ?_
  replace h:=P2 h
  replace h:=P2 h
  replace h:=P2 h
  replace h:=P3 h
  try simp only [N1,N2,N3,N4,N5,N6,N7] at h
  refine zJM (n:=zM name (part + g)) hD' h fun w hD2 h=>?_
  replace h:=P3 h
  replace h:=P3 h
  replace h:=P3 h
  try simp only [N1,N2,N3,N4,N5,N6,N7] at h
  replace h:=uU.shuts (W:=W) hrs h
  unfold zBn at hk
  have s3:∀ t,t = decide ((D'.remove (zM name (part + g))).2 ≠ 0∧(D'.remove (zM name (part + g))).2 ≠ 60)→yD.s3 k (fun t w'=>(∃ (f:Nat) (D':zC),t = (part:Int) + f - 1∧part + f ≤ 10∧zBn name (10 - part) part D = zBn name f part D'∧OkD D'∧Holds B (uU l d W::zJ d D'::Γ) w')∧(t + 1).toNat < (((part + g:Nat):Int) + 1).toNat) ⟨l,0,none⟩ (part:Int) ((part + g:Nat):Int) (D'.remove (zM name (part + g))).2 t w:=by
   rintro t rfl
   unfold yD.s3
   refine yJ (fun hq=>?_) (fun hq=>?_)
   ·rw [if_pos (by simpa using hq)] at hk
    exact hk _ hD2 h
   ·have hq':=of_decide_eq_false hq
    refine qP (e':=(part:Int) + g - 1) (by rw [wrap64 (by omega) (by omega)]; omega) ?_
    refine ⟨⟨g,_,rfl,by omega,?_,hD2,h⟩,by omega⟩
    rw [he,zBn,if_neg hq']
  refine yJ (fun hq=>?_) (fun hq=>?_)
  ·simp only [decide_eq_true_eq] at hq
   exact s3 _ (by simp [hq])
  ·simp only [decide_eq_false_iff_not,Decidable.not_not] at hq
   exact s3 _ (by simp [hq])
 ·simp only [decide_eq_false_iff_not] at hb
  have:f = 0:=by omega
  subst this
  exact hk _ hD' h
theorem zLp {k:Int→K} (hD:OkD D) (hnl:W.name.length ≤ 8) (hr0:W.recs = []) (h:Holds B (uU l d W::zJ d D::Γ) w)
  (hk:∀ w,OkD (W.load D).1→Holds B (uU l d (W.load D).2.1::zJ d (W.load D).1::Γ) w→k (W.load D).2.2 w):yD.call (some ⟨l,0,none⟩) k w:=by
 unfold q8.load at hk
 generalize hLF:jG W.name 10 0 D W = LF at hk
 refine zJe _ _ _ ?_
 unfold yD
 refine yM.of (fun t w=>∃ (part:Nat) (D':zC) (W':q8),t.2 = (part:Int)∧part ≤ 10∧OkD D'∧W'.name = W.name∧W'.recs.length ≤ part * 1048576 ∧
   (t.1 = true→LF = jG W.name (10 - part) part D' W')∧(t.1 = false→LF = (D',W',part,0))∧Holds B (uU l d W'::zJ d D'::Γ) w) (fun t _=>(10 - t.2).toNat) ⟨0,D,W,rfl,by omega,hD,rfl,by rw [hr0]; simp,(fun _=>hLF.symm),(fun hf=>by cases hf),h⟩ ?_
 clear h
 rintro ⟨wh,t⟩ w ⟨part,D',W',h1,hpt,hD',hnm,hcnt,hT,hF,h⟩
 simp only at h1 hT hF
 subst h1
 unfold yD.b4
 have out:LF = (D',W',part,0)→Holds B (uU l d W'::zJ d D'::Γ) w→yD.s1 k (some ⟨l,0,none⟩) (part:Int) w:=fun he h=>by
  rw [he,if_neg (by simp)] at hk
  exact zHz hpt hD' hnm hnl h hk
 refine yJ (fun hwh=>?_) (fun hwh=>?_)
 ·have hT':=hT hwh
  unfold yD.s5
  refine yJ (fun hb=>?_) (fun hb=>?_)
  ·simp only [decide_eq_true_eq] at hb
   obtain ⟨f,hf⟩:∃ f,10 - part = f + 1:=⟨9 - part,by omega⟩
   rw [hf] at hT'
   obtain ⟨s,rs,hrs,h⟩:=uU.opens h
   have hrl:rs.length = W'.recs.length:=by rw [← hrs]; simp
   refine zB8 h ?_
   clear h
   intro w h
   have hS:Holds B (blk l (.cells (wA d W' s) vo (0,0))::SlC zL 1 s (List.map uM rs)::stars (List.map vk rs)::Γ) w:=h.del 3 at3
   refine zBq hS ?_
   refine zAZ rfl ?_
   refine zCf (x:=some ⟨d,0,none⟩) rfl M0 rfl ?_
   refine zBm (by omega) (by rw [hnm]; omega) h ?_
   rw [hnm]
   refine zFS hS ?_
   replace h:=P2 h
   replace h:=P2 h
   replace h:=P2 h
   replace h:=P3 h
   try simp only [N1,N2,N3,N4,N5,N6,N7] at h
   have hRl:=zMh hD' (zM W.name part)
   refine zIq (n:=zM W.name part) hD' h fun sd w h=>?_
   have hdc:=h.zAm
   rw [jG] at hT'
   generalize hR:D'.read (zM W.name part) = R at hT' h hRl
   obtain ⟨x,e⟩:=R
   simp only at hT' h hRl ⊢
   refine yJ (fun he60=>?_) (fun he60=>?_)
   ·simp only [decide_eq_true_eq] at he60
    rw [if_pos he60] at hT'
    replace h:=P1 h
    replace h:=P4 h
    replace h:=P4 h
    replace h:=P4 h
    replace h:=D4 h
    try simp only [N1,N2,N3,N4,N5,N6,N7] at h
    have h6:=uU.shuts (W:=W') hrs h
    rw [hT',if_neg (by simp)] at hk
    exact zHz hpt hD' hnm hnl h6 hk
   ·have he60':¬ e = 60:=by simpa using he60
    rw [if_neg he60'] at hT'
    refine yJ (fun he0=>?_) (fun he0=>?_)
    ·have he0':e ≠ 0:=by simpa using he0
     rw [if_pos he0'] at hT'
     replace h:=P1 h
     replace h:=P4 h
     replace h:=P4 h
     replace h:=P4 h
     replace h:=D4 h
     try simp only [N1,N2,N3,N4,N5,N6,N7] at h
     have h6:=uU.shuts (W:=W') hrs h
     rw [hT',if_pos he0'] at hk
     exact hk _ hD' h6
    ·have he0':¬ e ≠ 0:=by simpa using he0
     rw [if_neg he0'] at hT'
     have hPl:=zHy _ x rfl
     have hxn:x.length = sd.n:=by have:=hdc.1; rw [hR] at this; simpa using this
     replace h:=P1 h
     replace h:=P1 h
     replace h:=P4 h
     replace h:=P4 h
     replace h:=P4 h
     try simp only [N1,N2,N3,N4,N5,N6,N7] at h
     refine zK3 (dat:=x) (by omega) (by omega) h (fun w h=>Bytes.rd h List.mem_cons_self) hdc.2.1 hdc.2.2.1 fun s' rs' w hrs' h=>?_
     generalize qB x = P at hT' hPl hrs' h
     obtain ⟨nr,g⟩:=P
     simp only at hT' hPl hrs' h ⊢
     first | refine S0 h rfl ?_ rfl ?_ | refine S1 h rfl ?_ rfl ?_ | refine S2 h rfl ?_ rfl ?_ | refine S3 h rfl ?_ rfl ?_ | refine S4 h rfl ?_ rfl ?_ | refine S5 h rfl ?_ rfl ?_ | refine S6 h rfl ?_ rfl ?_ | refine S7 h rfl ?_ rfl ?_ | refine S8 h rfl ?_ rfl ?_
     ·first | exact Nat.lt_of_ble_eq_true rfl | (simp; done) | (simp; omega)
     clear h
     intro w h
     try simp only [N1,N2,N3,N4,N5,N6,N7] at h
     first | refine S0 h rfl ?_ rfl ?_ | refine S1 h rfl ?_ rfl ?_ | refine S2 h rfl ?_ rfl ?_ | refine S3 h rfl ?_ rfl ?_ | refine S4 h rfl ?_ rfl ?_ | refine S5 h rfl ?_ rfl ?_ | refine S6 h rfl ?_ rfl ?_ | refine S7 h rfl ?_ rfl ?_ | refine S8 h rfl ?_ rfl ?_
     ·first | exact Nat.lt_of_ble_eq_true rfl | (simp; done) | (simp; omega)
     clear h
     intro w h
     try simp only [N1,N2,N3,N4,N5,N6,N7] at h
     have hrs2:rs'.map Prod.snd = ({ W' with recs:=W'.recs++nr,part:=part,used:=g }:q8).recs:=by rw [hrs',hrs]
     have hc2:(W'.recs++nr).length ≤ (part + 1) * 1048576:=by rw [List.length_append]; omega
     have s6:∀ (D2:zC) (wh:Bool) w,OkD D2→(wh = true→LF = jG W.name (10 - (part + 1)) (part + 1) D2 { W' with recs:=W'.recs++nr,part:=part,used:=g })→(wh = false→LF = (D2,{ W' with recs:=W'.recs++nr,part:=part,used:=g },part + 1,0)) →
       Holds B (uU l d { W' with recs:=W'.recs++nr,part:=part,used:=g }::zJ d D2::Γ) w→yD.s6 k (fun a1 a2 w'=>(∃ (part:Nat) (D':zC) (W':q8),a2 = (part:Int)∧part ≤ 10∧OkD D'∧W'.name = W.name∧W'.recs.length ≤ part * 1048576 ∧
   (a1 = true→LF = jG W.name (10 - part) part D' W')∧(a1 = false→LF = (D',W',part,0))∧Holds B (uU l d W'::zJ d D'::Γ) w')∧(10 - a2).toNat < (10 - (part:Int)).toNat) (some ⟨l,0,none⟩) wh (part:Int) w:=by
      intro D2 wh w hD2 q1 q2 h
      unfold yD.s6
      refine xq (by omega) (by omega) ?_
      exact ⟨⟨part + 1,D2,{ W' with recs:=W'.recs++nr,part:=part,used:=g },by omega,by omega,hD2,hnm,hc2,q1,q2,h⟩,by omega⟩
     by_cases hg:g = x.length
     ·rw [if_pos hg] at hT'
      rw [decide_eq_true (show (g:Int) = (sd.n:Int) by omega)]
      refine yH rfl ?_
      replace h:=P4 h
      replace h:=P3 h
      replace h:=P3 h
      replace h:=P3 h
      replace h:=D4 h
      try simp only [N1,N2,N3,N4,N5,N6,N7] at h
      have h6:=uU.shuts (W:={ W' with recs:=W'.recs++nr,part:=part,used:=g }) hrs2 h
      refine s6 D' true w hD' (fun _=>?_) (fun hf=>by cases hf) h6
      rw [hT',show 10 - (part + 1) = f by omega]
     ·rw [if_neg hg] at hT'
      rw [decide_eq_false (show ¬ (g:Int) = (sd.n:Int) by omega)]
      refine qO rfl ?_
      replace h:=P4 h
      replace h:=P3 h
      replace h:=P3 h
      replace h:=P3 h
      replace h:=D4 h
      try simp only [N1,N2,N3,N4,N5,N6,N7] at h
      refine zB8 h ?_
      clear h
      intro w h
      have hS:Holds B (blk l (.cells (wA d ({ W' with part:=part,used:=g }:q8) s') vo (0,0))::SlC zL 1 s' (List.map uM rs')::stars (List.map vk rs')::Γ) w:=h.del 3 at3
      refine zBq hS ?_
      refine zCf (x:=some ⟨d,0,none⟩) rfl M0 rfl ?_
      refine zBm (W:={ W' with part:=part,used:=g }) (by omega) (by simp only; rw [hnm]; omega) h ?_
      rw [show zM ({ W' with part:=part,used:=g }:q8).name part = zM W.name part by show zM W'.name part = _; rw [hnm]]
      refine zFS hS ?_
      replace h:=P2 h
      replace h:=P2 h
      replace h:=P2 h
      replace h:=P3 h
      try simp only [N1,N2,N3,N4,N5,N6,N7] at h
      refine zUi (n:=zM W.name part) (c:=(g:Int)) hD' h fun w hD2 h=>?_
      replace h:=P3 h
      replace h:=P3 h
      replace h:=P3 h
      try simp only [N1,N2,N3,N4,N5,N6,N7] at h
      have h6:=uU.shuts (W:={ W' with recs:=W'.recs++nr,part:=part,used:=g }) hrs2 h
      refine yJ (fun hz=>?_) (fun hz=>?_)
      ·have hz':(D'.cut (zM W.name part) (g:Int)).2 ≠ 0:=by simpa using hz
       rw [if_pos hz'] at hT'
       rw [hT',if_pos hz'] at hk
       exact hk _ hD2 h6
      ·have hz':¬ (D'.cut (zM W.name part) (g:Int)).2 ≠ 0:=by simpa using hz
       rw [if_neg hz'] at hT'
       exact s6 _ false w hD2 (fun hf=>by cases hf) (fun _=>hT') h6
  ·simp only [decide_eq_false_iff_not] at hb
   have hp10:part = 10:=by omega
   subst hp10
   exact out (by rw [hT']; rfl) h
 ·have hF':=hF hwh
  unfold yD.s5
  exact yH rfl (out hF' h)
end
end
section
open Go Go.Sep
theorem zUn {ks:List Int} {g:List UInt8→vK} {ns:List (List UInt8)} {n:List UInt8} (hnd:ns.Nodup) (hn:n ∈ ns):∃ i,zO n (jc ks g ns) = some (jU ks i (g n)):=by
 obtain ⟨i,hi⟩:=List.getElem?_of_mem hn
 refine ⟨i,?_⟩
 have hm:(n,jU ks i (g n)) ∈ jc ks g ns:=by
  unfold jc
  refine List.mem_map.2 ⟨(n,i),?_,rfl⟩
  exact List.mem_of_getElem? (i:=i) (by rw [List.getElem?_zipIdx,hi]; simp)
 have:=zB2 (m:=jc ks g ns) (by rw [zDO]; exact hnd) hm
 exact this
theorem zG5 {D:zC} (hD:OkD D) (ks:List Int) {n:List UInt8} {f:vK} (hm:zO n D.files = some f):∃ i,zO n (D.crash ks).files = some (jU ks i f):=by
 have hn:n ∈ D.names:=zGC.2 (by
  have:=List.mem_map_of_mem (f:=Prod.fst) (zA9 hm)
  exact this)
 obtain ⟨i,hi⟩:=zUn (ks:=ks) (g:=D.file) (zFi hD) hn
 refine ⟨i,?_⟩
 have hf:D.file n = f:=by unfold zC.file; rw [hm]; rfl
 rw [hf] at hi
 exact hi
theorem zDp {D:zC} (ks:List Int) {n:List UInt8} (hm:zO n D.files = none):zO n (D.crash ks).files = none:=by
 cases hx:zO n (D.crash ks).files with
 | none=>rfl
 | some y=>
  exfalso
  have h1:=List.mem_map_of_mem (f:=Prod.fst) (zA9 hx)
  have h2:n ∈ D.names:=by
   have:(D.crash ks).files.map Prod.fst = D.names:=zDO _ _ _
   rw [this] at h1
   exact h1
  obtain ⟨p,hp,he⟩:=List.mem_map.1 (zGC.1 h2)
  exact zAj hm p hp he
theorem zPP (ks:List Int) (i:Nat) {f:vK} (hl:f.last = f.data.length):jU ks i f = f:=by
 have:=zER ks i f
 have hk:zAG ks i f = 0:=by omega
 unfold jU
 rw [hk,Nat.add_zero,hl,List.take_length]
 cases f
 simp only at hl
 rw [hl]
end
section
open Go Go.Sep
def zPQ (rs:List (List UInt8)):List UInt8:=rs.flatMap yP
def Small (rs:List (List UInt8)):Prop:=∀ r ∈ rs,r.length ≤ 4096
theorem zCZ {n:List UInt8} {i j:Nat} (hi:i ≤ 9) (hj:j ≤ 9) (h:zM n i = zM n j):i = j:=by
 unfold zM at h
 have h1:=List.append_cancel_left h
 simp only [List.cons.injEq,and_true] at h1
 have h2:=congrArg UInt8.toNat h1
 rw [u8N,u8N] at h2
 omega
theorem zGD {n:List UInt8} {v:vK} (m:Files):yc (qR n v m) + ((zO n m).getD ⟨[],0⟩).data.length = yc m + v.data.length:=by
 cases hm:zO n m with
 | none=>
  rw [zAV hm,zAW]
  simp [yc]
 | some f=>
  obtain ⟨l1,l2,h1,h2,_⟩:=qw hm
  rw [h2]
  conv=>rhs; rw [h1]
  rw [zAW,zAW]
  simp only [yc,Option.getD_some]
  omega
structure Free (D:zC):Prop where
 left:D.a.left = -1
 down:D.a.down = false
theorem zEp {a:DkA} (h:a.left = -1):chg a = (a,0):=by
 unfold chg
 rw [if_neg (by omega),if_neg (by omega)]
structure zZq (W:q8) (D:zC) (q:List (List (List UInt8))) (p:List (List UInt8)) (lk:Nat) (there:Bool):Prop where
 name:1 ≤ W.name.length∧W.name.length ≤ 8
 size:16 ≤ W.size∧W.size ≤ 65536
 qf:∀ i x,q[i]? = some x→zO (zM W.name i) D.files = some ⟨zPQ x,(zPQ x).length⟩
 pf:zO (zM W.name q.length) D.files = if there = true then some ⟨zPQ p,lk⟩ else none
 new:there = false→p = []∧q = []∧lk = 0
 no:∀ i,q.length < i→i ≤ 9→zO (zM W.name i) D.files = none
 qlen:q.length ≤ 9
 part:W.part = q.length
 used:W.used = (zPQ p).length
 recs:W.recs = q.flatten++p
 dirty:W.dirty = false→lk = (zPQ p).length
 mark:∃ j,j ≤ p.length∧lk = (zPQ (p.take j)).length
 small:Small p∧∀ x ∈ q,Small x
structure Beside (W:q8) (D D':zC) (n:Nat):Prop where
 a:D'.a = D.a
 used:yc D'.files ≤ yc D.files + n
 few:D'.files.length ≤ D.files.length + 1
 others:∀ m,(∀ k,k ≤ 9→m ≠ zM W.name k)→zO m D'.files = zO m D.files
theorem Beside.refl (W:q8) (D:zC) (n:Nat):Beside W D D n:=⟨rfl,by omega,by omega,fun _ _=>rfl⟩
section
variable {W:q8} {D:zC} {q:List (List (List UInt8))} {p:List (List UInt8)} {lk:Nat} {there:Bool}
end
end
section
open Go Go.Sep
theorem zSp {D:zC} {n:List UInt8} (hF:Free D):D.read n = match zO n D.files with
 | none=>([],60)
 | some f=>(f.data,0):=by
 have hd:¬ D.a.down = true:=by rw [hF.down]; decide
 unfold zC.read
 refine (if_neg hd).trans ?_
 cases zO n D.files <;> rfl
theorem zPR {D:zC} {n:List UInt8} {f:vK} {c:Nat} (hF:Free D) (hm:zO n D.files = some f) (hc:c ≤ f.data.length):D.cut n (c:Int) = (⟨D.a,qR n ⟨f.data.take c,min f.last c⟩ D.files⟩,0):=by
 unfold zC.cut
 rw [if_neg (by rw [hF.down]; decide),hm]
 simp only
 rw [if_neg (by omega)]
 simp only [zEp hF.left,if_true,Int.toNat_natCast]
def uG (name:List UInt8) (size:Int):q8:=⟨name,size,0,0,false,[]⟩
theorem zK4 {D:zC} {ks:List Int}:Free (D.crash ks):=⟨rfl,rfl⟩
end
section
open Go Go.Sep
section
variable {B w:World} {Γ:List zB} {l d:Nat} {W:q8} {s:Sl} {rs:zFG} {D:zC}
theorem zGh {name:List UInt8} {size:Int} {k:Option Addr→Int→K} (hn:1 ≤ name.length∧name.length ≤ 8) (hsz:16 ≤ size∧size ≤ 65536) (hD:OkD D) (h:Holds B (zJ d D::Γ) w)
  (hok:((uG name size).load D).2.2 = 0→∀ l w,OkD ((uG name size).load D).1→Holds B (uU l d ((uG name size).load D).2.1::zJ d ((uG name size).load D).1::Γ) w→k (some ⟨l,0,none⟩) 0 w)
  (herr:((uG name size).load D).2.2 ≠ 0→∀ w,OkD ((uG name size).load D).1→Holds B (zJ d ((uG name size).load D).1::Γ) w→k none ((uG name size).load D).2.2 w):zAN.call (some ⟨d,0,none⟩) (bs name) size k w:=by
 refine zPG _ _ _ _ _ ?_
 unfold zAN
 have hsz':((bs name).size:Int) = name.length:=by simp [bs,ByteArray.size]
 refine yH ?_ ?_
 ·rw [uT]
  have e0:(⟨#[]⟩:ByteArray).toList = []:=uT []
  rw [e0]
  have:name ≠ []:=fun e=>by rw [e] at hn; simp at hn
  simpa using this
 refine yH (by simp only [decide_eq_false_iff_not]; omega) ?_
 refine yH (by simp only [decide_eq_false_iff_not]; omega) ?_
 unfold zAN.s1
 refine yH (by simp only [decide_eq_false_iff_not]; omega) ?_
 refine xE h ?_
 clear h
 intro l w h
 try simp only [zR,Nat.zero_add,Nat.reduceAdd]
 replace h:=(h.zA6).zAv zL 1
 replace h:=P3 h
 replace h:=P2 h
 replace h:=P2 h
 replace h:=P3 h
 try simp only [N1,N2,N3,N4,N5,N6,N7] at h
 have h2:=uU.shuts (W:=uG name size) (rs:=[]) rfl h
 refine zLp hD hn.2 rfl h2 fun w hD' h=>?_
 refine yJ (fun hq=>?_) (fun hq=>?_)
 ·exact herr (by simpa using hq) w hD' h.tail
 ·exact hok (by simpa using hq) l w hD' h
theorem zUj.opens {recs:List (List UInt8)} (h:Holds B (zUj s recs::Γ) w):∃ rs:zFG,rs.map Prod.snd = recs∧Holds B (SlC zL 1 s (rs.map uM)::stars (rs.map vk)::Γ) w:=by
 obtain ⟨rs,h⟩:=Holds.ex.1 h
 obtain ⟨h1,h2⟩:=Holds.pur.1 (Holds.flat.1 h)
 exact ⟨rs,h1,h2⟩
theorem zZq.okW {q:List (List (List UInt8))} {p:List (List UInt8)} {lk:Nat} {there:Bool} (hI:zZq W D q p lk there) (hu:W.used ≤ 10000000) (hf:W.recs.length ≤ 10000000):OkW W :=
 ⟨hI.name,hI.size,by have:=hI.part; have:=hI.qlen; omega,hu,hf⟩
def one:List UInt8:=[111,110,101]
def two:List UInt8:=[116,119,111]
end
end
section
open Go Go.Sep
set_option maxHeartbeats 4000000
attribute [local irreducible] G Gp Cx Tx Ex Sx Dx Ox Ax Lx Rx Fx Bx Bj Al Do Ld LdN St StN New zX Ar DoU Rd Rd2 Pu Cd Ite Fv zAk j6 zAY qD jT zCN zDC zDc Ext Dead Dr xW Sv LdS zBt RdS zDw Nn Idx zCO zDx Fld Bld Slc zDy Cat All yM zAC zAD zAl
instance:CB Tryz.prog 102:=⟨by kernel_rfl⟩
instance:CB Tryz.prog 25:=⟨by kernel_rfl⟩
instance:CB Tryz.prog 26:=⟨by kernel_rfl⟩
instance:CB Tryz.prog 27:=⟨by kernel_rfl⟩
instance:CB Tryz.prog 28:=⟨by kernel_rfl⟩
instance:CB Tryz.prog 31:=⟨by kernel_rfl⟩
instance:CB Tryz.prog 32:=⟨by kernel_rfl⟩
instance:CB Tryz.prog 33:=⟨by kernel_rfl⟩
instance:CB Tryz.prog 35:=⟨by kernel_rfl⟩
instance:CB Tryz.prog 36:=⟨by kernel_rfl⟩
instance:CB Tryz.prog 57:=⟨by kernel_rfl⟩
instance:CB Tryz.prog 59:=⟨by kernel_rfl⟩
instance:CB Tryz.prog 60:=⟨by kernel_rfl⟩
instance:CB Tryz.prog 61:=⟨by kernel_rfl⟩
instance:CB Tryz.prog 62:=⟨by kernel_rfl⟩
instance:CB Tryz.prog 63:=⟨by kernel_rfl⟩
instance:CB Tryz.prog 64:=⟨by kernel_rfl⟩
instance:CB Tryz.prog 68:=⟨by kernel_rfl⟩
instance:CB Tryz.prog 92:=⟨by kernel_rfl⟩
instance:CB Tryz.prog 93:=⟨by kernel_rfl⟩
instance:CT Tryz.prog 66:=⟨by kernel_rfl⟩
instance:CT Tryz.prog 79:=⟨by kernel_rfl⟩
instance:CT Tryz.prog 80:=⟨by kernel_rfl⟩
instance:FT Tryz.prog 127 2 2 1:=⟨by kernel_rfl⟩
instance:FT Tryz.prog 68 0 0 1:=⟨by kernel_rfl⟩
instance:FT Tryz.prog 68 1 1 1:=⟨by kernel_rfl⟩
instance:FT Tryz.prog 68 2 2 1:=⟨by kernel_rfl⟩
instance:FT Tryz.prog 68 3 3 1:=⟨by kernel_rfl⟩
instance:FT Tryz.prog 82 0 0 1:=⟨by kernel_rfl⟩
instance:FT Tryz.prog 82 1 1 1:=⟨by kernel_rfl⟩
instance:PLT Tryz.prog 127 [(0,1),(1,1),(2,1)]:=⟨_,Tryz.underlying127,by kernel_rfl⟩
instance:PLT Tryz.prog 68 [(0,1),(1,1),(2,1),(3,1)]:=⟨_,Tryz.underlying68,by kernel_rfl⟩
instance:PLT Tryz.prog 82 [(0,1),(1,1)]:=⟨_,Tryz.underlying82,by kernel_rfl⟩
instance:UN Tryz.prog 78 (.pointer 82):=⟨Tryz.underlying78⟩
instance:ZT Tryz.prog 68 (.agg #[(.pointer none),(.int .u64 0),(.bool false),(.map none)]):=⟨Tryz.t68,by kernel_rfl,by kernel_rfl⟩
instance:ZT Tryz.prog 82 (.agg #[(.pointer none),(.pointer none)]):=⟨Tryz.t82,by kernel_rfl,by kernel_rfl⟩
def ji (c:Pt) (Q:Int→K): K :=
 vW.call 0 true fun a=>
 vR.call c ⟨#[108,105,102,101]⟩ a fun b=>
 Q b
theorem zH0 (a Q w) (h:ji a Q w):ji.call a Q w:=by
 exact zS 6 h Tryz.func8
def yR.s2 (Q:Pt→Int→K) (b:Int→K) (f:Pt) (g:Sl) (i:Int) (j:(Option Nat)) (k:Sl) (l c:Int) (d:Bool): K :=
 Ite d
  (Q none 1)
  (Ar (IntKind.wrap .i64 (c + 1)) fun a=>
  b a)
def yR.b3 (Q:Pt→Int→K) (l i:Int→K) (c:Addr) (j:Sl) (k a:Int): K :=
 Ite (decide (a < k))
  (Idx j a 1 fun d=>
  Ld d (Value.int .i64) fun f=>
  qK.call (some c) f fun b=>
  Ite (decide (b ≠ 0))
   (Q none b)
   (Ar (IntKind.wrap .i64 (a + 1)) fun g=>
   i g))
  (Q (some c) 0)
def yR.b1 (Q:Pt→Int→K) (f:Int→K) (g:Pt) (a:Sl) (i:Int) (b:(Option Nat)) (j:Sl) (k c:Int): K :=
 Ite (decide (c < k))
  (Idx j c 1 fun o=>
  Ld o (Value.int .i64) fun d=>
  Rd Tryz.prog (Instr.lookup 65 (.map b) (.int .i64 d) false) (Value.int .i64) fun p=>
  Ar (IntKind.wrap .i64 (p + 1)) fun q=>
  DoU Tryz.prog (Instr.mapUpdate 65 (.map b) (.int .i64 d) (.int .i64 q))<|
  Ite (decide (d < 0))
   (yR.s2 Q f g a i b j k c true)
   (Ite (decide ((3:Int) < d))
    (yR.s2 Q f g a i b j k c true)
    (Rd Tryz.prog (Instr.lookup 65 (.map b) (.int .i64 d) false) (Value.int .i64) fun r=>
    Ite (decide ((1:Int) < r))
     (yR.s2 Q f g a i b j k c true)
     (yR.s2 Q f g a i b j k c (decide ((2:Int) < (a.n:Int)))))))
  (Do Tryz.prog (Instr.makeMap 66 none) Value.map fun s=>
  New 68 #[.pointer g,.int .u64 0,.bool false,.map s] fun l=>
  za.call (some l) i fun m=>
  Ite (decide (m ≠ 0))
   (Q none m)
   (yM (α:=Int) (fun X x=>yR.b3 Q f X l a (a.n:Int) x) 0))
def yR (c:Pt) (a:Sl) (d:Int) (Q:Pt→Int→K): K :=
 Do Tryz.prog (Instr.makeMap 65 none) Value.map fun b=>
 yM (α:=Int) (fun X x=>yR.b1 Q X c a d b a (a.n:Int) x) 0
theorem zE7 (k l m Q w) (h:yR k l m Q w):yR.call k l m Q w:=by
 have:∀ a,XH 3 a→JH 7 fun D=>∃ b c d f g i j,D [(0,.pointer b),(1,Sl.val c),(2,.int .u64 d),(8,.map f),(17,Sl.val g),(18,.int .i64 i),(19,.int .i64 j)] (fun C=>∀ n,C [(0,.pointer b),(1,Sl.val c),(2,.int .u64 d),(8,.map f),(17,Sl.val g),(18,.int .i64 i),(19,.int .i64 j),(43,.bool n)] (yR.s2 Q a b c d f g i j n)):=by intros; exact ⟨fun _ ⟨_,_,_,_,_,_,_,h⟩=>⟨_,_,h⟩⟩
 have:∀ a,XH 3 a→∀ o p q,LH 14 (fun x:Int=>[(11,(.pointer (some o))),(55,Sl.val p),(56,.int .i64 q),(57,.int .i64 x)]) (fun X x=>yR.b3 Q a X o p q x):=by intros; exact ⟨⟩
 have:∀ r s t u v y,LH 3 (fun x:Int=>[(0,.pointer r),(1,Sl.val s),(2,.int .u64 t),(8,.map u),(17,Sl.val v),(18,.int .i64 y),(19,.int .i64 x)]) (fun X x=>yR.b1 Q X r s t u v y x):=fun _ _ _ _ _ _=>⟨⟩
 exact zS 69 h Tryz.func9
def xu (d:Pt) (f:Sl) (Q:Int→K): K :=
 Nn d fun a=>
 Ld a Value.pointer fun b=>
 vR.call b ⟨#[115,116,97,116,101]⟩ f fun c=>
 Q c
theorem zEq (a b Q w) (h:xu a b Q w):xu.call a b Q w:=by
 exact zS 11 h Tryz.func10
def jO (f:Pt) (Q:Sl→Int→K): K :=
 Nn f fun a=>
 Ld a Value.pointer fun b=>
 zBA.call b ⟨#[115,116,97,116,101]⟩ fun c d=>
 Q c d
theorem zEr (a Q w) (h:jO a Q w):jO.call a Q w:=by
 exact zS 11 h Tryz.func13
def yI.s2 (Q:Sl→Bool→Int→K) (f g:Int) (i:Pt): K :=
 Nn i fun a=>
 Ld (a.add 1) Value.pointer fun b=>
 qE.call b f g fun c d=>
 Q c d 0
def yI.s1 (Q:Sl→Bool→Int→K) (b f:Int) (j:Pt) (k:Bool): K :=
 Ite k
  (Q (Sl.mk none 0 0) false 0)
  (Nn j fun a=>
  Ld (a.add 1) Value.pointer fun g=>
  qA.call g fun i=>
  Ite (decide (i < b))
   (New 85 #[Sl.val ⟨none,0,0⟩] fun c=>
   je.call (some c) 1<|
   xJ.call (some c) b<|
   u6.call (some a) (some c) fun d=>
   Ite (decide (d ≠ 0))
    (Q (Sl.mk none 0 0) false d)
    (yI.s2 Q b f (some a)))
   (yI.s2 Q b f (some a)))
def yI (l:Pt) (m b c:Int) (Q:Sl→Bool→Int→K): K :=
 Nn l fun d=>
 Ld (d.add 3) Value.map fun g=>
 Rd Tryz.prog (Instr.lookup 66 (.map g) (.int .i64 m) false) Value.pointer fun a=>
 Ld (d.add 2) Value.bool fun i=>
 Ite (!i)
  (yI.s1 Q b c a true)
  (Ite ((a).isNone)
   (yI.s1 Q b c a true)
   (Nn a fun f=>
   Ld (f.add 1) Value.pointer fun j=>
   qA.call j fun k=>
   yI.s1 Q b c (some f) (decide (b < k))))
theorem zDd (i j k l Q w) (h:yI i j k l Q w):yI.call i j k l Q w:=by
 have:JH 11 fun D=>∃ a b c,D [(2,.int .u64 a),(3,.int .i64 b),(11,.pointer c)] (fun C=>C [(2,.int .u64 a),(3,.int .i64 b),(11,.pointer c)] (yI.s2 Q a b c)):=⟨fun _ ⟨_,_,_,h⟩=>⟨_,_,h⟩⟩
 have:JH 3 fun D=>∃ d f g,D [(2,.int .u64 d),(3,.int .i64 f),(11,.pointer g)] (fun C=>∀ m,C [(2,.int .u64 d),(3,.int .i64 f),(11,.pointer g),(39,.bool m)] (yI.s1 Q d f g m)):=⟨fun _ ⟨_,_,_,h⟩=>⟨_,_,h⟩⟩
 exact zS 72 h Tryz.func14
def vE (c:Pt) (Q:Int→K): K :=
 Nn c fun a=>
 Ld (a.add 1) (Value.int .u64) fun b=>
 Q b
theorem zEW (a Q w) (h:vE a Q w):vE.call a Q w:=by
 exact zS 7 h Tryz.func15
def vF (c:Pt) (Q:Bool→K): K :=
 Nn c fun a=>
 Ld (a.add 2) Value.bool fun b=>
 Q b
theorem zEX (a Q w) (h:vF a Q w):vF.call a Q w:=by
 exact zS 7 h Tryz.func16
def vW.s1 (Q:Sl→K) (b:Addr): K :=
 jI.call (some b) fun a=>
 Q a
def vW (b:Int) (c:Bool) (Q:Sl→K): K :=
 New 85 #[Sl.val ⟨none,0,0⟩] fun a=>
 xJ.call (some a) b<|
 Ite c
  (je.call (some a) 1<|
  vW.s1 Q a)
  (je.call (some a) 0<|
  vW.s1 Q a)
theorem zJj (b c Q w) (h:vW b c Q w):vW.call b c Q w:=by
 have:JH 6 fun D=>∃ a,D [(5,(.pointer (some a)))] (fun C=>C [(5,(.pointer (some a)))] (vW.s1 Q a)):=⟨fun _ ⟨_,h⟩=>⟨_,_,h⟩⟩
 exact zS 18 h Tryz.func26
def za.s2 (Q:Int→K) (a:Addr) (b k:Int) (l:Bool): K :=
 Ite l
  (Q 61)
  (Ite (decide (b = 18446744073709551615))
   (Q 111)
   (Ar (IntKind.wrap .u64 (b + 1)) fun c=>
   St (a.add 1) (.int .u64 c)<|
   St (a.add 2) (.bool (decide (k = 1)))<|
   Dr <| xW fun S=>
   LdS S a Value.pointer fun d=>
   LdS S (a.add 1) (Value.int .u64) fun f=>
   LdS S (a.add 2) Value.bool fun g=>
   vW.call f g fun i=>
   Sv S<|
   vR.call d ⟨#[108,105,102,101]⟩ i fun j=>
   Q j))
def za.s1 (Q:Int→K) (c:Addr) (g:Int) (l:Sl): K :=
 zBM.call l fun d=>
 yC.call d fun f i=>
 jf.call d fun a j=>
 Ar (if (g:Int) > f then g else f) fun b=>
 Ite (decide (i ≠ 0))
  (za.s2 Q c b a true)
  (Ite (decide (j ≠ 0))
   (za.s2 Q c b a true)
   (Ite (decide ((1:Int) < a))
    (za.s2 Q c b a true)
    (zAb.call d fun k=>
    za.s2 Q c b a (decide (k ≠ 0)))))
def za (i:Pt) (c:Int) (Q:Int→K): K :=
 Nn i fun a=>
 Ld a Value.pointer fun d=>
 zBA.call d ⟨#[108,105,102,101]⟩ fun f b=>
 Ite (decide (b = 60))
  (vW.call 0 false fun g=>
  za.s1 Q a c g)
  (Ite (decide (b ≠ 0))
   (Q b)
   (za.s1 Q a c f))
theorem zB3 (i j Q w) (h:za i j Q w):za.call i j Q w:=by
 have:DH 15 2 [13] (.s [0,1,2,4,5,6,8,9,10,3,7,11] (.a [(12,1,.a [(13,0,.s [14] .e)])])):=⟨⟩
 have:JH 11 fun D=>∃ b c d,D [(0,(.pointer (some b))),(8,.int .u64 c),(9,.int .u8 d)] (fun C=>∀ k,C [(0,(.pointer (some b))),(8,.int .u64 c),(9,.int .u8 d),(42,.bool k)] (za.s2 Q b c d k)):=⟨fun _ ⟨_,_,_,h⟩=>⟨_,_,h⟩⟩
 have:JH 6 fun D=>∃ f g,D [(0,(.pointer (some f))),(1,.int .u64 g)] (fun C=>∀ l,C [(0,(.pointer (some f))),(1,.int .u64 g),(5,Sl.val l)] (za.s1 Q f g l)):=⟨fun _ ⟨_,_,h⟩=>⟨_,_,h⟩⟩
 exact zS 85 h Tryz.func27
def qK.b1 (Q k:Int→K) (l:Addr) (m:Int) (b:Addr) (n:Sl) (o a:Int): K :=
 Ite (decide (a < o))
  (Idx n a 1 fun c=>
  Ld c Sl.val fun d=>
  Ld (b.add 1) Value.pointer fun f=>
  ze.call f d fun g=>
  Ite (!g)
   (Q 31)
   (Ar (IntKind.wrap .i64 (a + 1)) fun i=>
   k i))
  (Ld (l.add 3) Value.map fun j=>
  DoU Tryz.prog (Instr.mapUpdate 66 (.map j) (.int .i64 m) (.pointer (some b)))<|
  Q 0)
def qK (p:Pt) (f:Int) (Q:Int→K): K :=
 Nn p fun a=>
 Ld a Value.pointer fun g=>
 Ar (IntKind.wrap .i64 (48 + f)) fun i=>
 Ar (IntKind.wrap .i32 i) fun j=>
 Rd Tryz.prog (convert 21 9 (.int .i32 j)) Value.string fun k=>
 Cat (⟨#[103]⟩:ByteArray) k fun l=>
 zAN.call g l 40960 fun b c=>
 Ite (decide (c ≠ 0))
  (Q c)
  (uV.call  fun m=>
  New 82 #[.pointer b,.pointer m] fun o=>
  uE.call b fun d=>
  yM (α:=Int) (fun X x=>qK.b1 Q X a f o d (d.n:Int) x) 0)
theorem zCD (a b Q w) (h:qK a b Q w):qK.call a b Q w:=by
 have:∀ c d f g i,LH 6 (fun x:Int=>[(0,(.pointer (some c))),(1,.int .i64 d),(7,(.pointer (some f))),(31,Sl.val g),(32,.int .i64 i),(33,.int .i64 x)]) (fun X x=>qK.b1 Q X c d f g i x):=fun _ _ _ _ _=>⟨⟩
 exact zS 51 h Tryz.func28
def u6 (i j:Pt) (Q:Int→K): K :=
 Dr <| xW fun S=>
 Nn i fun a=>
 LdS S a Value.pointer fun c=>
 jI.call j fun d=>
 Sv S<|
 qJ.call c d fun b=>
 Ite (decide (b ≠ 0))
  (Q b)
  (Ld a Value.pointer fun f=>
  zAy.call f fun g=>
  Q g)
theorem zFH (b c Q w) (h:u6 b c Q w):u6.call b c Q w:=by
 have:DH 1 2 [6] (.s [0,1,2,4,3] (.a [(5,1,.a [(6,0,.s [7] .e)])])):=⟨⟩
 exact zS 21 h Tryz.func35
def yh.s1 (Q:Bool→Int→K) (b:Addr) (d:Pt) (q:Bool): K :=
 Ite q
  (Q false 0)
  (Ld (b.add 2) Value.string fun f=>
  Ite (decide ((4000:Int) < (f.size:Int)))
   (Q false 1)
   (New 85 #[Sl.val ⟨none,0,0⟩] fun a=>
   je.call (some a) 2<|
   Ld b (Value.int .i64) fun g=>
   Ar (IntKind.wrap .u64 g) fun i=>
   xJ.call (some a) i<|
   Ld (b.add 1) (Value.int .u64) fun j=>
   xJ.call (some a) j<|
   Ld (b.add 2) Value.string fun k=>
   Do Tryz.prog (convert 9 22 (.string k)) Sl.val fun l=>
   zBB.call (some a) l<|
   u6.call d (some a) fun c=>
   Ite (decide (c ≠ 0))
    (Q false c)
    (Dr<|
    Nn d fun m=>
    Ld (m.add 1) Value.pointer fun n=>
    LdN b 3 fun o=>
    yO.call n o fun p=>
    Q p 0)))
def yh (n:Pt) (o:Int) (p:Av) (Q:Bool→Int→K): K :=
 New 127 p fun a=>
 Nn n fun d=>
 Ld (d.add 3) Value.map fun f=>
 Rd Tryz.prog (Instr.lookup 66 (.map f) (.int .i64 o) false) Value.pointer fun b=>
 Dr <| xW fun S=>
 LdS S (d.add 2) Value.bool fun g=>
 Ite (!g)
  (yh.s1 Q a b true)
  (Ite ((b).isNone)
   (yh.s1 Q a b true)
   (Nn b fun c=>
   LdS S (a.add 1) (Value.int .u64) fun i=>
   LdS S (c.add 1) Value.pointer fun j=>
   qA.call j fun k=>
   Sv S<|
   Ite (decide (i < k))
    (yh.s1 Q a (some c) true)
    (LdS S a (Value.int .i64) fun l=>
    Ite (decide (l < 0))
     (yh.s1 Q a (some c) true)
     (LdS S a (Value.int .i64) fun m=>
     yh.s1 Q a (some c) (decide ((64:Int) ≤ m))))))
theorem zD5 (d f g Q w) (h:yh d f g Q w):yh.call d f g Q w:=by
 have:DH 14 1 [5] (.s [0,1,2,3,4] (.a [(5,0,.s [6,7] .e)])):=⟨⟩
 have:JH 3 fun D=>∃ b c,D [(5,(.pointer (some b))),(8,.pointer c)] (fun C=>∀ j,C [(5,(.pointer (some b))),(8,.pointer c),(17,.bool j)] (yh.s1 Q b c j)):=⟨fun _ ⟨_,_,h⟩=>⟨_,_,h⟩⟩
 have:DH 2 2 [] (.s [0,1,2,3,4,5] (.i (.s [6,7,8,9,10,11,12,13,14,15,16,17,18,19,20,21,22,23,24,25,26,27,28,29] .e) (.s [6,7,8,9] (.i (.s [10,11,12,13,14,15,16,17,18,19,20,21,22,23,24,25,26,27,28,29] .e) (.s [10,12,13,14,11,15] (.a [(16,1,.s [17,18,19] (.i (.s [20,21,22,23,24,25,26,27,28,29] .e) (.s [20,21,22,23,24] (.i (.s [25,26,27,28,29] .e) (.s [25,26,27,28,29] .e)))))])))))):=⟨⟩
 exact zS 82 h Tryz.func47
def vZ (i:Pt) (j:Int) (Q:Int→K): K :=
 Nn i fun b=>
 Ld (b.add 3) Value.map fun c=>
 Rd Tryz.prog (Instr.lookup 66 (.map c) (.int .i64 j) false) Value.pointer fun a=>
 Ite (!(a).isNone)
  (Nn a fun d=>
  Ld (d.add 1) Value.pointer fun f=>
  qA.call f fun g=>
  Q g)
  (Q 0)
theorem zDQ (a b Q w) (h:vZ a b Q w):vZ.call a b Q w:=by
 exact zS 19 h Tryz.func49
def ze.s1 (Q:Bool→K) (a:Bool): K :=
 Q a
def ze.s2 (Q:Bool→K) (b:Pt) (c:Int) (d:Bool): K :=
 Ite d
  (qE.call b c 0 fun f a=>
  ze.s1 Q a)
  (ze.s1 Q false)
def ze.s3 (Q:Bool→K) (d:Pt) (f g:Int) (i:Sl) (j:Bool): K :=
 Ite j
  (Ar (IntKind.wrap .i64 f) fun a=>
  Rd Tryz.prog (convert 22 9 (Sl.val i)) Value.string fun b=>
  yO.call d #[.int .i64 a,.int .u64 g,.string b] fun c=>
  ze.s1 Q c)
  (ze.s1 Q false)
def ze (b:Pt) (p:Sl) (Q:Bool→K): K :=
 zBM.call p fun a=>
 jf.call a fun g q=>
 Ite (decide (g = 1))
  (yC.call a fun i j=>
  Ite (decide (j = 0))
   (zAb.call a fun k=>
   ze.s2 Q b i (decide (k = 0)))
   (ze.s2 Q b i false))
  (Ite (decide (g = 2))
   (yC.call a fun c l=>
   yC.call a fun d m=>
   qp.call a fun f n=>
   Ite (decide (l = 0))
    (Ite (decide (m = 0))
     (Ite (decide (n = 0))
      (zAb.call a fun o=>
      Ite (decide (o = 0))
       (ze.s3 Q b c d f (decide (c < 64)))
       (ze.s3 Q b c d f false))
      (ze.s3 Q b c d f false))
     (ze.s3 Q b c d f false))
    (ze.s3 Q b c d f false))
   (ze.s1 Q false))
theorem zDq (i j Q w) (h:ze i j Q w):ze.call i j Q w:=by
 have:JH 15 fun D=>D [] (fun C=>∀ k,C [(8,.bool k)] (ze.s1 Q k)):=⟨fun _ h=>⟨_,_,h⟩⟩
 have:JH 8 fun D=>∃ a b,D [(0,.pointer a),(9,.int .u64 b)] (fun C=>∀ l,C [(0,.pointer a),(8,.bool false),(9,.int .u64 b),(38,.bool l)] (ze.s2 Q a b l)):=⟨fun _ ⟨_,_,h⟩=>⟨_,_,h⟩⟩
 have:JH 14 fun D=>∃ c d f g,D [(0,.pointer c),(11,.int .u64 d),(13,.int .u64 f),(15,Sl.val g)] (fun C=>∀ m,C [(0,.pointer c),(8,.bool false),(11,.int .u64 d),(13,.int .u64 f),(15,Sl.val g),(80,.bool m)] (ze.s3 Q c d f g m)):=⟨fun _ ⟨_,_,_,_,h⟩=>⟨_,_,h⟩⟩
 exact zS 90 h Tryz.func64
instance:CB Tryz.prog 155:=⟨by kernel_rfl⟩
instance:CB Tryz.prog 156:=⟨by kernel_rfl⟩
def cmp_Compare_int (a b:Int) (Q:Int→K): K :=
 cmp_isNaN_int.call a fun d=>
 cmp_isNaN_int.call b fun c=>
 Ite d
  (Ite c
   (Q 0)
   (Q (-1)))
  (Ite c
   (Q 1)
   (Ite (decide (a < b))
    (Q (-1))
    (Ite (decide (b < a))
     (Q 1)
     (Q 0))))
theorem zG6 (a b Q w) (h:cmp_Compare_int a b Q w):cmp_Compare_int.call a b Q w:=by
 exact zS 20 h Tryz.func145
def cmp_isNaN_int (a:Int) (Q:Bool→K): K :=
 Q (decide (a ≠ a))
theorem zIw (a Q w) (h:cmp_isNaN_int a Q w):cmp_isNaN_int.call a Q w:=by
 exact zS 6 h Tryz.func156
instance:ART Tryz.prog 105 4 64 1:=⟨by kernel_rfl⟩
instance:ART Tryz.prog 108 107 64 3:=⟨by kernel_rfl⟩
instance:AT Tryz.prog 107 3:=⟨by kernel_rfl⟩
instance:CB Tryz.prog 116:=⟨by kernel_rfl⟩
instance:FT Tryz.prog 107 0 0 1:=⟨by kernel_rfl⟩
instance:FT Tryz.prog 107 1 1 1:=⟨by kernel_rfl⟩
instance:FT Tryz.prog 110 0 0 1:=⟨by kernel_rfl⟩
instance:FT Tryz.prog 110 1 1 64:=⟨by kernel_rfl⟩
instance:FT Tryz.prog 110 2 65 192:=⟨by kernel_rfl⟩
instance:SLT Tryz.prog 120 107 3:=⟨by kernel_rfl⟩
instance:SZ Tryz.prog 107 3:=⟨by kernel_rfl⟩
instance:ZT Tryz.prog 107 (.agg #[(.int .i64 0),(.int .u64 0),(.string ⟨#[]⟩)]):=⟨Tryz.t107,by kernel_rfl,by kernel_rfl⟩
def uS (g:Pt) (b i:Int) (Q:Sl→Bool→K): K :=
 Nn g fun a=>
 Ld a (Value.int .u64) fun c=>
 Ite (decide (b < c))
  (New 107 #[] fun d=>
  Q (Sl.mk (some d) 0 0) false)
  (St a (.int .u64 b)<|
  yZ.call (some a) i fun f=>
  Q f true)
theorem zEs (a b c Q w) (h:uS a b c Q w):uS.call a b c Q w:=by
 exact zS 22 h Tryz.func84
def qb.s1 (Q:Bool→K) (k:Pt) (a:Addr) (l:Bool): K :=
 Ite l
  (Q false)
  (Ld (a.add 1) (Value.int .u64) fun c=>
  Nn k fun b=>
  St b (.int .u64 c)<|
  Dr<|
  Ld a (Value.int .i64) fun d=>
  zCO (b.add 1) 64 d 1 fun f=>
  St f (.bool true)<|
  Dr<|
  Ld a (Value.int .i64) fun g=>
  LdN a 3 fun i=>
  zCO (b.add 65) 64 g 3 fun j=>
  StN j 3 i<|
  Q true)
def qb (i:Pt) (j:Av) (Q:Bool→K): K :=
 New 107 j fun a=>
 Dr<|
 Ld (a.add 1) (Value.int .u64) fun c=>
 Nn i fun b=>
 Ld b (Value.int .u64) fun d=>
 Ite (decide (c < d))
  (qb.s1 Q (some b) a true)
  (Ld a (Value.int .i64) fun f=>
  Ite (decide (f < 0))
   (qb.s1 Q (some b) a true)
   (Ld a (Value.int .i64) fun g=>
   qb.s1 Q (some b) a (decide ((63:Int) < g))))
theorem zFI (d f Q w) (h:qb d f Q w):qb.call d f Q w:=by
 have:DH 5 1 [7] (.s [0,1,4,5,2,3,6] (.a [(7,0,.e)])):=⟨⟩
 have:DH 4 1 [6] (.s [0,1,3,4,2,5] (.a [(6,0,.e)])):=⟨⟩
 have:JH 2 fun D=>∃ b c,D [(0,.pointer b),(3,(.pointer (some c)))] (fun C=>∀ g,C [(0,.pointer b),(3,(.pointer (some c))),(21,.bool g)] (qb.s1 Q b c g)):=⟨fun _ ⟨_,_,h⟩=>⟨_,_,h⟩⟩
 exact zS 40 h Tryz.func86
def yZ.s2 (Q:Sl→K) (b:Sl→Int→K) (f:Pt) (g:Int) (c:Sl) (d:Int): K :=
 Ar (IntKind.wrap .i64 (d + 1)) fun a=>
 b c a
def yZ.s3 (Q:Sl→K) (c:Sl→Int→K) (d:Pt) (f:Int) (g:Sl) (a:Int) (o:Bool): K :=
 Ite o
  (Nn d fun b=>
  zCO (b.add 65) 64 a 3 fun j=>
  LdN j 3 fun k=>
  Bld #[.int .i64 0,.int .u64 0,(.string ⟨#[]⟩)] (fun i=>some (i * 3,3)) [(0,.agg k)] fun l=>
  New 107 l fun m=>
  Do Tryz.prog (Builtin.append_ #[120,120] 120 #[Sl.val g,(Sl.val (Sl.mk (some m) 1 1))]) Sl.val fun n=>
  yZ.s2 Q c (some b) f n a)
  (yZ.s2 Q c d f g a)
def yZ.b1 (Q:Sl→K) (f:Sl→Int→K) (j:Pt) (c:Int) (d:Sl) (a:Int): K :=
 Ite (decide (a < 64))
  (Nn j fun b=>
  zCO (b.add 1) 64 a 1 fun g=>
  Ld g Value.bool fun i=>
  Ite i
   (yZ.s3 Q f (some b) c d a (decide (c ≤ a)))
   (yZ.s3 Q f (some b) c d a false))
  (Q d)
def yZ (d:Pt) (f:Int) (Q:Sl→K): K :=
 New 107 #[] fun a=>
 yM (α:=Sl×Int) (fun X x=>yZ.b1 Q (fun b c=>X (b,c)) d f x.1 x.2) ((Sl.mk (some a) 0 0),0)
theorem zGV (m n Q w) (h:yZ m n Q w):yZ.call m n Q w:=by
 have:∀ c,XH 3 c→JH 4 fun D=>∃ d f g,D [(0,.pointer d),(1,.int .i64 f),(6,.int .i64 g)] (fun C=>∀ o,C [(0,.pointer d),(1,.int .i64 f),(5,Sl.val o),(6,.int .i64 g)] (yZ.s2 Q (fun a b=>c (a,b)) d f o g)):=by intros; exact ⟨fun _ ⟨_,_,_,h⟩=>⟨_,_,h⟩⟩
 have:∀ c,XH 3 c→JH 6 fun D=>∃ i j k l,D [(0,.pointer i),(1,.int .i64 j),(5,Sl.val k),(6,.int .i64 l)] (fun C=>∀ p,C [(0,.pointer i),(1,.int .i64 j),(5,Sl.val k),(6,.int .i64 l),(22,.bool p)] (yZ.s3 Q (fun a b=>c (a,b)) i j k l p)):=by intros; exact ⟨fun _ ⟨_,_,_,_,h⟩=>⟨_,_,h⟩⟩
 have:∀ q r,LH 3 (fun x:Sl×Int=>[(0,.pointer q),(1,.int .i64 r),(5,Sl.val x.1),(6,.int .i64 x.2)]) (fun X x=>yZ.b1 Q (fun a b=>X (a,b)) q r x.1 x.2):=fun _ _=>⟨⟩
 exact zS 33 h Tryz.func116
instance:ART Tryz.prog 243 3 18 1:=⟨by kernel_rfl⟩
instance:CB Tryz.prog 128:=⟨by kernel_rfl⟩
instance:CB Tryz.prog 76:=⟨by kernel_rfl⟩
instance:CB Tryz.prog 77:=⟨by kernel_rfl⟩
instance:FT Tryz.prog 164 0 0 1:=⟨by kernel_rfl⟩
instance:FT Tryz.prog 164 1 1 1:=⟨by kernel_rfl⟩
instance:SZ Tryz.prog 243 18:=⟨by kernel_rfl⟩
instance:ZT Tryz.prog 243 (.agg #[(.int .i64 0),(.int .i64 0),(.int .i64 0),(.int .i64 0),(.int .i64 0),(.int .i64 0),(.int .i64 0),(.int .i64 0),(.int .i64 0),(.int .i64 0),(.int .i64 0),(.int .i64 0),(.int .i64 0),(.int .i64 0),(.int .i64 0),(.int .i64 0),(.int .i64 0),(.int .i64 0)]):=⟨Tryz.t243,by kernel_rfl,by kernel_rfl⟩
instance:ZT Tryz.prog 3 (.int .i64 0):=⟨Tryz.t3,by kernel_rfl,by kernel_rfl⟩
def uK.b1 (Q:Sl→K) (n:Sl→Int→K) (b:Sl) (a:Int): K :=
 Ite (decide ((128:Int) ≤ a))
  (Cd ((128:Int) ≠ 0)<|
  Ar (Int.tmod a 128) fun c=>
  Ar (IntKind.wrap .u64 (c + 128)) fun d=>
  Ar (IntKind.wrap .u8 d) fun f=>
  New 5 #[.int .u8 f] fun g=>
  Do Tryz.prog (Builtin.append_ #[22,22] 22 #[Sl.val b,(Sl.val (Sl.mk (some g) 1 1))]) Sl.val fun i=>
  Cd ((128:Int) ≠ 0)<|
  Ar (IntKind.wrap .u64 (Int.tdiv a 128)) fun j=>
  n i j)
  (Ar (IntKind.wrap .u8 a) fun k=>
  New 5 #[.int .u8 k] fun l=>
  Do Tryz.prog (Builtin.append_ #[22,22] 22 #[Sl.val b,(Sl.val (Sl.mk (some l) 1 1))]) Sl.val fun m=>
  Q m)
def uK (d:Int) (Q:Sl→K): K :=
 New 5 #[] fun a=>
 yM (α:=Sl×Int) (fun X x=>uK.b1 Q (fun b c=>X (b,c)) x.1 x.2) ((Sl.mk (some a) 0 0),d)
theorem zH1 (a Q w) (h:uK a Q w):uK.call a Q w:=by
 have:LH 3 (fun x:Sl×Int=>[(3,Sl.val x.1),(4,.int .u64 x.2)]) (fun X x=>uK.b1 Q (fun b c=>X (b,c)) x.1 x.2):=⟨⟩
 exact zS 23 h Tryz.func76
def zf.s3 (Q:Int→Int→K) (j:Int→Int→Int→K) (a:Addr) (f g:Int) (i:Bool): K :=
 Ite i
  (Q 0 31)
  (Ld (a.add 1) (Value.int .i64) fun b=>
  Ar (IntKind.wrap .i64 (g + 1)) fun c=>
  Ar (IntKind.wrap .i64 (b + c)) fun d=>
  St (a.add 1) (.int .i64 d)<|
  Q f 0)
def zf.s2 (Q:Int→Int→K) (c:Int→Int→Int→K) (f:Addr) (m g a d:Int) (n:Bool): K :=
 Ite n
  (Q 0 31)
  (Cd ((128:Int) ≠ 0)<|
  Ar (Int.tmod d 128) fun i=>
  Ar (IntKind.wrap .u64 (i * g)) fun j=>
  Ar (IntKind.wrap .u64 (m + j)) fun b=>
  Ar (IntKind.wrap .u64 (g * 128)) fun k=>
  Ite (decide (d < 128))
   (Ite (decide (d = 0))
    (zf.s3 Q c f b a (decide ((0:Int) < a)))
    (zf.s3 Q c f b a false))
   (Ar (IntKind.wrap .i64 (a + 1)) fun l=>
   c b k l))
def zf.b1 (Q:Int→Int→K) (d:Int→Int→Int→K) (r:Pt) (f g b:Int): K :=
 Dr<|
 Nn r fun a=>
 Ld (a.add 1) (Value.int .i64) fun i=>
 Ar (IntKind.wrap .i64 (i + b)) fun j=>
 Ld a Sl.val fun k=>
 Ite (decide (j < (k.n:Int)))
  (Dr<|
  Ld a Sl.val fun l=>
  Ld (a.add 1) (Value.int .i64) fun m=>
  Ar (IntKind.wrap .i64 (m + b)) fun o=>
  Idx l o 1 fun p=>
  Ld p (Value.int .u8) fun q=>
  Ar (IntKind.wrap .u64 q) fun c=>
  Ite (decide (b = 9))
   (zf.s2 Q d a f g b c (decide ((1:Int) < c)))
   (zf.s2 Q d a f g b c false))
  (Q 0 30)
def zf (d:Pt) (Q:Int→Int→K): K :=
 yM (α:=Int×Int×Int) (fun X x=>zf.b1 Q (fun a b c=>X (a,b,c)) d x.1 x.2.1 x.2.2) (0,1,0)
theorem zEY (o Q w) (h:zf o Q w):zf.call o Q w:=by
 have:∀ d,XH 3 d→JH 12 fun D=>∃ f g i,D [(0,(.pointer (some f))),(4,.int .u64 g),(6,.int .i64 i)] (fun C=>∀ p,C [(0,(.pointer (some f))),(4,.int .u64 g),(6,.int .i64 i),(56,.bool p)] (zf.s3 Q (fun a b c=>d (a,b,c)) f g i p)):=by intros; exact ⟨fun _ ⟨_,_,_,h⟩=>⟨_,_,h⟩⟩
 have:∀ d,XH 3 d→JH 7 fun D=>∃ j k l m n,D [(0,(.pointer (some j))),(4,.int .u64 k),(5,.int .u64 l),(6,.int .i64 m),(7,.int .u64 n)] (fun C=>∀ q,C [(0,(.pointer (some j))),(4,.int .u64 k),(5,.int .u64 l),(6,.int .i64 m),(7,.int .u64 n),(40,.bool q)] (zf.s2 Q (fun a b c=>d (a,b,c)) j k l m n q)):=by intros; exact ⟨fun _ ⟨_,_,_,_,_,h⟩=>⟨_,_,h⟩⟩
 have:∀ r,LH 3 (fun x:Int×Int×Int=>[(0,.pointer r),(4,.int .u64 x.1),(5,.int .u64 x.2.1),(6,.int .i64 x.2.2)]) (fun X x=>zf.b1 Q (fun a b c=>X (a,b,c)) r x.1 x.2.1 x.2.2):=fun _=>⟨⟩
 exact zS 67 h Tryz.func77
def jl (m:Pt) (Q:Int→Int→K): K :=
 Dr<|
 Nn m fun a=>
 Ld (a.add 1) (Value.int .i64) fun b=>
 Ld a Sl.val fun c=>
 Ite (decide ((c.n:Int) ≤ b))
  (Q 0 30)
  (Ld (a.add 1) (Value.int .i64) fun d=>
  Ar (IntKind.wrap .i64 (d + 1)) fun f=>
  St (a.add 1) (.int .i64 f)<|
  Dr<|
  Ld a Sl.val fun g=>
  Ld (a.add 1) (Value.int .i64) fun i=>
  Ar (IntKind.wrap .i64 (i - 1)) fun j=>
  Idx g j 1 fun k=>
  Ld k (Value.int .u8) fun l=>
  Q l 0)
theorem zH2 (a Q w) (h:jl a Q w):jl.call a Q w:=by
 exact zS 32 h Tryz.func78
def uf (d:Pt) (Q:Int→K): K :=
 Dr<|
 Nn d fun a=>
 Ld (a.add 1) (Value.int .i64) fun b=>
 Ld a Sl.val fun c=>
 Ite (decide (b < (c.n:Int)))
  (Q 32)
  (Q 0)
theorem zEZ (a Q w) (h:uf a Q w):uf.call a Q w:=by
 exact zS 13 h Tryz.func79
def zAL (a:Sl) (Q:Sl→Int→Int→K): K :=
 Ite (decide ((a.n:Int) < 6))
  (New 5 #[] fun d=>
  Q (Sl.mk (some d) 0 0) 0 30)
  (Dr<|
  Idx a 0 1 fun f=>
  Ld f (Value.int .u8) fun g=>
  Ar (IntKind.wrap .i64 g) fun i=>
  Ar (IntKind.wrap .i64 (256 * i)) fun j=>
  Idx a 1 1 fun k=>
  Ld k (Value.int .u8) fun l=>
  Ar (IntKind.wrap .i64 l) fun m=>
  Ar (IntKind.wrap .i64 (j + m)) fun b=>
  Ite (decide ((4096:Int) < b))
   (New 5 #[] fun o=>
   Q (Sl.mk (some o) 0 0) 0 31)
   (Ar (IntKind.wrap .i64 ((a.n:Int) - 6)) fun p=>
   Ite (decide (p < b))
    (New 5 #[] fun q=>
    Q (Sl.mk (some q) 0 0) 0 30)
    (Ar (IntKind.wrap .i64 (6 + b)) fun r=>
    Slc a 6 r (a.c:Int) 1 fun s=>
    jC.call s fun t af=>
    Dr<|
    Rd Tryz.prog (convert 22 9 (Sl.val t)) Value.string fun u=>
    Ar (IntKind.wrap .i64 (6 + b)) fun v=>
    Slc a 0 v (a.c:Int) 1 fun x=>
    Rd Tryz.prog (convert 22 9 (Sl.val x)) Value.string fun y=>
    Ite (!(u.toList == y.toList))
     (New 5 #[] fun z=>
     Q (Sl.mk (some z) 0 0) 0 33)
     (New 5 #[] fun aa=>
     Ar (IntKind.wrap .i64 (6 + b)) fun ab=>
     Slc a 6 ab (a.c:Int) 1 fun ac=>
     Do Tryz.prog (Builtin.append_ #[22,22] 22 #[(Sl.val (Sl.mk (some aa) 0 0)),Sl.val ac]) Sl.val fun ad=>
     Ar (IntKind.wrap .i64 (6 + b)) fun ae=>
     Q ad ae 0))))
theorem zIx (a Q w) (h:zAL a Q w):zAL.call a Q w:=by
 exact zS 56 h Tryz.func82
def zAq (aa:Pt) (Q:Sl→Int→K): K :=
 Nn aa fun a=>
 Ld (a.add 1) (Value.int .i64) fun g=>
 zf.call (some a) fun b d=>
 Ite (decide (d ≠ 0))
  (New 5 #[] fun i=>
  Q (Sl.mk (some i) 0 0) d)
  (Dr<|
  Ld a Sl.val fun j=>
  Ld (a.add 1) (Value.int .i64) fun k=>
  Ar (IntKind.wrap .i64 ((j.n:Int) - k)) fun l=>
  Ar (IntKind.wrap .u64 l) fun m=>
  Ite (decide (m < b))
   (St (a.add 1) (.int .i64 g)<|
   New 5 #[] fun o=>
   Q (Sl.mk (some o) 0 0) 30)
   (Ld (a.add 1) (Value.int .i64) fun p=>
   Ar (IntKind.wrap .i64 b) fun q=>
   Ar (IntKind.wrap .i64 (p + q)) fun r=>
   St (a.add 1) (.int .i64 r)<|
   Dr <| xW fun S=>
   Ar (IntKind.wrap .i64 b) fun s=>
   LdS S a Sl.val fun f=>
   LdS S (a.add 1) (Value.int .i64) fun t=>
   Ar (IntKind.wrap .i64 (t - s)) fun u=>
   LdS S (a.add 1) (Value.int .i64) fun v=>
   Slc f u v (f.c:Int) 1 fun x=>
   New 5 #[] fun y=>
   Sv S<|
   Do Tryz.prog (Builtin.append_ #[22,22] 22 #[(Sl.val (Sl.mk (some y) 0 0)),Sl.val x]) Sl.val fun z=>
   Q z 0))
theorem zH3 (b Q w) (h:zAq b Q w):zAq.call b Q w:=by
 have:DH 9 2 [17] (.s [1,2,3,5,6,7,9,10,12,13,14,4,8,11,15,16] (.a [(0,1,.a [(17,0,.s [18,19] .e)])])):=⟨⟩
 exact zS 65 h Tryz.func85
def zCW (a:Sl) (Q:Sl→K): K :=
 Ar (IntKind.wrap .u64 (a.n:Int)) fun b=>
 uK.call b fun c=>
 Do Tryz.prog (Builtin.append_ #[22,22] 22 #[Sl.val c,Sl.val a]) Sl.val fun d=>
 Q d
theorem zLq (a Q w) (h:zCW a Q w):zCW.call a Q w:=by
 exact zS 9 h Tryz.func94
def jC.b1 (Q m:Sl→Int→K) (n:Sl) (o:Int) (c:Sl) (a:Int): K :=
 Ite (decide (a < 4))
  (Ar (IntKind.wrap .i64 (8 * a)) fun d=>
  Ar (IntKind.wrap .u64 d) fun b=>
  Cd (0 ≤ b)<|
  Ar (zBc .u32 o b) fun f=>
  Ar (IntKind.wrap .u8 f) fun g=>
  New 5 #[.int .u8 g] fun i=>
  Do Tryz.prog (Builtin.append_ #[22,22] 22 #[Sl.val c,(Sl.val (Sl.mk (some i) 1 1))]) Sl.val fun j=>
  Ar (IntKind.wrap .i64 (a + 1)) fun k=>
  m j k)
  (Do Tryz.prog (Builtin.append_ #[22,22] 22 #[Sl.val c,Sl.val n]) Sl.val fun l=>
  Q l 0)
def jC (a:Sl) (Q:Sl→Int→K): K :=
 Ite (decide ((4096:Int) < (a.n:Int)))
  (New 5 #[] fun c=>
  Q (Sl.mk (some c) 0 0) 1)
  (Cd ((256:Int) ≠ 0)<|
  Ar (IntKind.wrap .i64 (Int.tdiv (a.n:Int) 256)) fun d=>
  Ar (IntKind.wrap .u8 d) fun f=>
  Cd ((256:Int) ≠ 0)<|
  Ar (Int.tmod (a.n:Int) 256) fun g=>
  Ar (IntKind.wrap .u8 g) fun i=>
  New 5 #[.int .u8 f,.int .u8 i] fun b=>
  New 5 #[] fun j=>
  Do Tryz.prog (Builtin.append_ #[22,22] 22 #[(Sl.val (Sl.mk (some j) 0 0)),(Sl.val (Sl.mk (some b) 2 2))]) Sl.val fun k=>
  Do Tryz.prog (Builtin.append_ #[22,22] 22 #[Sl.val k,Sl.val a]) Sl.val fun l=>
  yS.call l fun m=>
  yM (α:=Sl×Int) (fun X x=>jC.b1 Q (fun o p=>X (o,p)) a m x.1 x.2) ((Sl.mk (some b) 2 2),0))
theorem zK5 (a Q w) (h:jC a Q w):jC.call a Q w:=by
 have:∀ b c,LH 7 (fun x:Sl×Int=>[(0,Sl.val b),(5,Sl.val x.1),(6,.int .u32 c),(7,.int .i64 x.2)]) (fun X x=>jC.b1 Q (fun d f=>X (d,f)) b c x.1 x.2):=fun _ _=>⟨⟩
 exact zS 42 h Tryz.func115
def yS.b2 (Q:Int→K) (p q:Sl→Int→K) (r:Sl) (c:Int) (d:Sl) (a:Int): K :=
 Ite (decide (a < 8))
  (Idx r c 1 fun f=>
  Ld f (Value.int .u8) fun g=>
  Ar (IntKind.wrap .u64 a) fun b=>
  Cd (0 ≤ b)<|
  Ar (zBc .u8 g b) fun i=>
  Ar (IntKind.wrap .i64 i) fun j=>
  Ar (bitsOf .and .i64 j 1) fun k=>
  New 3 #[.int .i64 k] fun l=>
  Do Tryz.prog (Builtin.append_ #[32,32] 32 #[Sl.val d,(Sl.val (Sl.mk (some l) 1 1))]) Sl.val fun m=>
  Ar (IntKind.wrap .i64 (a + 1)) fun n=>
  q m n)
  (Ar (IntKind.wrap .i64 (c + 1)) fun o=>
  p d o)
def yS.s6 (Q:Int→K) (d f:Sl→Int→K) (g b:Int→K) (i:Sl) (j:Addr) (c:Int): K :=
 Ar (IntKind.wrap .i64 (c + 1)) fun a=>
 b a
def yS.b7 (Q:Int→K) (t u:Sl→Int→K) (v x y:Int→K) (b:Sl) (c:Addr) (d a:Int): K :=
 Ite (decide (a < 18))
  (Dr<|
  Ar (IntKind.wrap .i64 (d + 32)) fun f=>
  zCO c 18 a 1 fun g=>
  Ar (IntKind.wrap .i64 (d + 32)) fun i=>
  zCO c 18 a 1 fun j=>
  Ld g (Value.int .i64) fun k=>
  Ar (IntKind.wrap .i64 (f - k)) fun l=>
  Ld j (Value.int .i64) fun m=>
  Ar (IntKind.wrap .i64 (i - m)) fun n=>
  Idx b n 1 fun o=>
  Ld o (Value.int .i64) fun p=>
  Ar (IntKind.wrap .i64 (1 - p)) fun q=>
  Idx b l 1 fun r=>
  St r (.int .i64 q)<|
  Ar (IntKind.wrap .i64 (a + 1)) fun s=>
  y s)
  (yS.s6 Q t u v x b c d)
def yS.s9 (Q:Int→K) (f g:Sl→Int→K) (i j:Int→K) (b:Int→Int→K) (k:Sl) (c d:Int): K :=
 Ar (IntKind.wrap .i64 (d + 1)) fun a=>
 b c a
def yS.b8 (Q:Int→K) (f g:Sl→Int→K) (i j:Int→K) (k:Int→Int→K) (b:Sl) (c a:Int): K :=
 Ite (decide (a < 32))
  (Ar (IntKind.wrap .i64 ((b.n:Int) - 32)) fun l=>
  Ar (IntKind.wrap .i64 (l + a)) fun m=>
  Idx b m 1 fun o=>
  Ld o (Value.int .i64) fun p=>
  Ite (decide (p = 0))
   (Ar (IntKind.wrap .u64 a) fun d=>
   Cd (0 ≤ d)<|
   Ar (zFO .u32 1 d) fun q=>
   Ar (IntKind.wrap .u32 (c + q)) fun r=>
   yS.s9 Q f g i j k b r a)
   (yS.s9 Q f g i j k b c a))
  (Q c)
def yS.b5 (Q:Int→K) (c d:Sl→Int→K) (f g:Int→K) (a:Sl) (i:Addr) (b:Int): K :=
 Ar (IntKind.wrap .i64 (b + 32)) fun j=>
 Ite (decide (j < (a.n:Int)))
  (Idx a b 1 fun k=>
  Ld k (Value.int .i64) fun l=>
  Ite (decide (l = 1))
   (yM (α:=Int) (fun X x=>yS.b7 Q c d f g X a i b x) 0)
   (yS.s6 Q c d f g a i b))
  (yM (α:=Int×Int) (fun X x=>yS.b8 Q c d f g (fun m o=>X (m,o)) a x.1 x.2) (0,0))
def yS.b4 (Q:Int→K) (m n:Sl→Int→K) (d:Int→K) (b:Sl) (a:Int): K :=
 Ite (decide (a < 32))
  (Idx b a 1 fun f=>
  Ld f (Value.int .i64) fun g=>
  Ar (IntKind.wrap .i64 (1 - g)) fun i=>
  Idx b a 1 fun j=>
  St j (.int .i64 i)<|
  Ar (IntKind.wrap .i64 (a + 1)) fun k=>
  d k)
  (Pu Tryz.prog (Instr.build 243 [(0,.int .i64 32),(1,.int .i64 28),(2,.int .i64 27),(3,.int .i64 26),(4,.int .i64 25),(5,.int .i64 23),(6,.int .i64 22),(7,.int .i64 20),(8,.int .i64 19),(9,.int .i64 18),(10,.int .i64 14),(11,.int .i64 13),(12,.int .i64 11),(13,.int .i64 10),(14,.int .i64 9),(15,.int .i64 8),(16,.int .i64 6),(17,.int .i64 0)].toArray) Value.agg fun l=>
  New 243 #[.int .i64 0,.int .i64 0,.int .i64 0,.int .i64 0,.int .i64 0,.int .i64 0,.int .i64 0,.int .i64 0,.int .i64 0,.int .i64 0,.int .i64 0,.int .i64 0,.int .i64 0,.int .i64 0,.int .i64 0,.int .i64 0,.int .i64 0,.int .i64 0] fun c=>
  StN c 18 l<|
  yM (α:=Int) (fun X x=>yS.b5 Q m n d X b c x) 0)
def yS.b3 (Q:Int→K) (i a:Sl→Int→K) (b:Sl) (c:Int): K :=
 Ite (decide (c < 32))
  (New 3 #[.int .i64 0] fun d=>
  Do Tryz.prog (Builtin.append_ #[32,32] 32 #[Sl.val b,(Sl.val (Sl.mk (some d) 1 1))]) Sl.val fun f=>
  Ar (IntKind.wrap .i64 (c + 1)) fun g=>
  a f g)
  (yM (α:=Int) (fun X x=>yS.b4 Q i a X b x) 0)
def yS.b1 (Q:Int→K) (a:Sl→Int→K) (b c:Sl) (d:Int): K :=
 Ite (decide (d < (b.n:Int)))
  (yM (α:=Sl×Int) (fun X x=>yS.b2 Q a (fun f g=>X (f,g)) b d x.1 x.2) (c,0))
  (yM (α:=Sl×Int) (fun X x=>yS.b3 Q a (fun i j=>X (i,j)) x.1 x.2) (c,0))
def yS (d:Sl) (Q:Int→K): K :=
 New 3 #[] fun a=>
 yM (α:=Sl×Int) (fun X x=>yS.b1 Q (fun b c=>X (b,c)) d x.1 x.2) ((Sl.mk (some a) 0 0),0)
theorem zNx (t Q w) (h:yS t Q w):yS.call t Q w:=by
 have:∀ b,XH 3 b→∀ u v,LH 6 (fun x:Sl×Int=>[(0,Sl.val u),(3,Sl.val x.1),(4,.int .i64 v),(5,.int .i64 x.2)]) (fun X x=>yS.b2 Q (fun c d=>b (c,d)) (fun aj ak=>X (aj,ak)) u v x.1 x.2):=by intros; exact ⟨⟩
 have:∀ b,XH 3 b→∀ f,XH 10 f→∀ g,XH 14 g→∀ k,XH 19 k→JH 20 fun D=>∃ n o p,D [(3,Sl.val n),(8,(.pointer (some o))),(9,.int .i64 p)] (fun C=>C [(3,Sl.val n),(8,(.pointer (some o))),(9,.int .i64 p)] (yS.s6 Q (fun c d=>b (c,d)) (fun i j=>f (i,j)) g k n o p)):=by intros; exact ⟨fun _ ⟨_,_,_,h⟩=>⟨_,_,h⟩⟩
 have:DH 25 1 [18] (.s [0,1,2,3,4,7,8,9,10,11,5,6,12,13,14,15,16,17] (.a [(18,0,.e)])):=⟨⟩
 have:∀ b,XH 3 b→∀ f,XH 10 f→∀ g,XH 14 g→∀ k,XH 19 k→∀ y z aa,LH 23 (fun x:Int=>[(3,Sl.val y),(8,(.pointer (some z))),(9,.int .i64 aa),(10,.int .i64 x)]) (fun X x=>yS.b7 Q (fun c d=>b (c,d)) (fun i j=>f (i,j)) g k X y z aa x):=by intros; exact ⟨⟩
 have:∀ b,XH 3 b→∀ f,XH 10 f→∀ g,XH 14 g→∀ k,XH 19 k→∀ ab,XH 28 ab→JH 29 fun D=>∃ q r,D [(3,Sl.val q),(12,.int .i64 r)] (fun C=>∀ ac,C [(3,Sl.val q),(11,.int .u32 ac),(12,.int .i64 r)] (yS.s9 Q (fun c d=>b (c,d)) (fun i j=>f (i,j)) g k (fun l m=>ab (l,m)) q ac r)):=by intros; exact ⟨fun _ ⟨_,_,h⟩=>⟨_,_,h⟩⟩
 have:∀ b,XH 3 b→∀ f,XH 10 f→∀ g,XH 14 g→∀ k,XH 19 k→∀ ad,LH 28 (fun x:Int×Int=>[(3,Sl.val ad),(11,.int .u32 x.1),(12,.int .i64 x.2)]) (fun X x=>yS.b8 Q (fun c d=>b (c,d)) (fun i j=>f (i,j)) g k (fun l m=>X (l,m)) ad x.1 x.2):=by intros; exact ⟨⟩
 have:∀ b,XH 3 b→∀ f,XH 10 f→∀ g,XH 14 g→∀ ae af,LH 19 (fun x:Int=>[(3,Sl.val ae),(8,(.pointer (some af))),(9,.int .i64 x)]) (fun X x=>yS.b5 Q (fun c d=>b (c,d)) (fun i j=>f (i,j)) g X ae af x):=by intros; exact ⟨⟩
 have:∀ b,XH 3 b→∀ f,XH 10 f→∀ ag,LH 14 (fun x:Int=>[(3,Sl.val ag),(7,.int .i64 x)]) (fun X x=>yS.b4 Q (fun c d=>b (c,d)) (fun i j=>f (i,j)) X ag x):=by intros; exact ⟨⟩
 have:∀ b,XH 3 b→LH 10 (fun x:Sl×Int=>[(3,Sl.val x.1),(6,.int .i64 x.2)]) (fun X x=>yS.b3 Q (fun c d=>b (c,d)) (fun i j=>X (i,j)) x.1 x.2):=by intros; exact ⟨⟩
 have:∀ ah,LH 3 (fun x:Sl×Int=>[(0,Sl.val ah),(3,Sl.val x.1),(4,.int .i64 x.2)]) (fun X x=>yS.b1 Q (fun c d=>X (c,d)) ah x.1 x.2):=fun _=>⟨⟩
 exact zS 109 h Tryz.func128
instance:CB Tryz.prog 117:=⟨by kernel_rfl⟩
instance:CB Tryz.prog 37:=⟨by kernel_rfl⟩
instance:CB Tryz.prog 38:=⟨by kernel_rfl⟩
instance:CB Tryz.prog 39:=⟨by kernel_rfl⟩
instance:CB Tryz.prog 40:=⟨by kernel_rfl⟩
instance:CB Tryz.prog 41:=⟨by kernel_rfl⟩
instance:CB Tryz.prog 46:=⟨by kernel_rfl⟩
instance:CB Tryz.prog 78:=⟨by kernel_rfl⟩
instance:CB Tryz.prog 79:=⟨by kernel_rfl⟩
instance:CB Tryz.prog 84:=⟨by kernel_rfl⟩
instance:CB Tryz.prog 85:=⟨by kernel_rfl⟩
instance:CB Tryz.prog 86:=⟨by kernel_rfl⟩
instance:CB Tryz.prog 89:=⟨by kernel_rfl⟩
instance:CB Tryz.prog 90:=⟨by kernel_rfl⟩
instance:CB Tryz.prog 94:=⟨by kernel_rfl⟩
instance:CT Tryz.prog 101:=⟨by kernel_rfl⟩
instance:CT Tryz.prog 104:=⟨by kernel_rfl⟩
instance:CT Tryz.prog 32:=⟨by kernel_rfl⟩
instance:CT Tryz.prog 96:=⟨by kernel_rfl⟩
instance:CT Tryz.prog 97:=⟨by kernel_rfl⟩
instance:FT Tryz.prog 107 2 2 1:=⟨by kernel_rfl⟩
instance:FT Tryz.prog 99 0 0 1:=⟨by kernel_rfl⟩
instance:FT Tryz.prog 99 1 1 1:=⟨by kernel_rfl⟩
instance:FT Tryz.prog 99 2 2 1:=⟨by kernel_rfl⟩
instance:FT Tryz.prog 99 3 3 1:=⟨by kernel_rfl⟩
instance:FT Tryz.prog 99 4 4 1:=⟨by kernel_rfl⟩
instance:FT Tryz.prog 99 5 5 1:=⟨by kernel_rfl⟩
instance:PLT Tryz.prog 107 [(0,1),(1,1),(2,1)]:=⟨_,Tryz.underlying107,by kernel_rfl⟩
instance:PLT Tryz.prog 110 [(0,1),(1,64),(65,192)]:=⟨_,Tryz.underlying110,by kernel_rfl⟩
instance:PLT Tryz.prog 164 [(0,1),(1,1)]:=⟨_,Tryz.underlying164,by kernel_rfl⟩
instance:PLT Tryz.prog 99 [(0,1),(1,1),(2,1),(3,1),(4,1),(5,1)]:=⟨_,Tryz.underlying99,by kernel_rfl⟩
instance:SLT Tryz.prog 96 101 1:=⟨by kernel_rfl⟩
instance:SLT Tryz.prog 97 104 1:=⟨by kernel_rfl⟩
instance:SZ Tryz.prog 96 1:=⟨by kernel_rfl⟩
instance:SZ Tryz.prog 97 1:=⟨by kernel_rfl⟩
instance:ZT Tryz.prog 101 (.pointer none):=⟨Tryz.t101,by kernel_rfl,by kernel_rfl⟩
instance:ZT Tryz.prog 104 (.pointer none):=⟨Tryz.t104,by kernel_rfl,by kernel_rfl⟩
instance:ZT Tryz.prog 110 (.agg #[(.int .u64 0),(.bool false),(.bool false),(.bool false),(.bool false),(.bool false),(.bool false),(.bool false),(.bool false),(.bool false),(.bool false),(.bool false),(.bool false),(.bool false),(.bool false),(.bool false),(.bool false),(.bool false),(.bool false),(.bool false),(.bool false),(.bool false),(.bool false),(.bool false),(.bool false),(.bool false),(.bool false),(.bool false),(.bool false),(.bool false),(.bool false),(.bool false),(.bool false),(.bool false),(.bool false),(.bool false),(.bool false),(.bool false),(.bool false),(.bool false),(.bool false),(.bool false),(.bool false),(.bool false),(.bool false),(.bool false),(.bool false),(.bool false),(.bool false),(.bool false),(.bool false),(.bool false),(.bool false),(.bool false),(.bool false),(.bool false),(.bool false),(.bool false),(.bool false),(.bool false),(.bool false),(.bool false),(.bool false),(.bool false),(.bool false),(.int .i64 0),(.int .u64 0),(.string ⟨#[]⟩),(.int .i64 0),(.int .u64 0),(.string ⟨#[]⟩),(.int .i64 0),(.int .u64 0),(.string ⟨#[]⟩),(.int .i64 0),(.int .u64 0),(.string ⟨#[]⟩),(.int .i64 0),(.int .u64 0),(.string ⟨#[]⟩),(.int .i64 0),(.int .u64 0),(.string ⟨#[]⟩),(.int .i64 0),(.int .u64 0),(.string ⟨#[]⟩),(.int .i64 0),(.int .u64 0),(.string ⟨#[]⟩),(.int .i64 0),(.int .u64 0),(.string ⟨#[]⟩),(.int .i64 0),(.int .u64 0),(.string ⟨#[]⟩),(.int .i64 0),(.int .u64 0),(.string ⟨#[]⟩),(.int .i64 0),(.int .u64 0),(.string ⟨#[]⟩),(.int .i64 0),(.int .u64 0),(.string ⟨#[]⟩),(.int .i64 0),(.int .u64 0),(.string ⟨#[]⟩),(.int .i64 0),(.int .u64 0),(.string ⟨#[]⟩),(.int .i64 0),(.int .u64 0),(.string ⟨#[]⟩),(.int .i64 0),(.int .u64 0),(.string ⟨#[]⟩),(.int .i64 0),(.int .u64 0),(.string ⟨#[]⟩),(.int .i64 0),(.int .u64 0),(.string ⟨#[]⟩),(.int .i64 0),(.int .u64 0),(.string ⟨#[]⟩),(.int .i64 0),(.int .u64 0),(.string ⟨#[]⟩),(.int .i64 0),(.int .u64 0),(.string ⟨#[]⟩),(.int .i64 0),(.int .u64 0),(.string ⟨#[]⟩),(.int .i64 0),(.int .u64 0),(.string ⟨#[]⟩),(.int .i64 0),(.int .u64 0),(.string ⟨#[]⟩),(.int .i64 0),(.int .u64 0),(.string ⟨#[]⟩),(.int .i64 0),(.int .u64 0),(.string ⟨#[]⟩),(.int .i64 0),(.int .u64 0),(.string ⟨#[]⟩),(.int .i64 0),(.int .u64 0),(.string ⟨#[]⟩),(.int .i64 0),(.int .u64 0),(.string ⟨#[]⟩),(.int .i64 0),(.int .u64 0),(.string ⟨#[]⟩),(.int .i64 0),(.int .u64 0),(.string ⟨#[]⟩),(.int .i64 0),(.int .u64 0),(.string ⟨#[]⟩),(.int .i64 0),(.int .u64 0),(.string ⟨#[]⟩),(.int .i64 0),(.int .u64 0),(.string ⟨#[]⟩),(.int .i64 0),(.int .u64 0),(.string ⟨#[]⟩),(.int .i64 0),(.int .u64 0),(.string ⟨#[]⟩),(.int .i64 0),(.int .u64 0),(.string ⟨#[]⟩),(.int .i64 0),(.int .u64 0),(.string ⟨#[]⟩),(.int .i64 0),(.int .u64 0),(.string ⟨#[]⟩),(.int .i64 0),(.int .u64 0),(.string ⟨#[]⟩),(.int .i64 0),(.int .u64 0),(.string ⟨#[]⟩),(.int .i64 0),(.int .u64 0),(.string ⟨#[]⟩),(.int .i64 0),(.int .u64 0),(.string ⟨#[]⟩),(.int .i64 0),(.int .u64 0),(.string ⟨#[]⟩),(.int .i64 0),(.int .u64 0),(.string ⟨#[]⟩),(.int .i64 0),(.int .u64 0),(.string ⟨#[]⟩),(.int .i64 0),(.int .u64 0),(.string ⟨#[]⟩),(.int .i64 0),(.int .u64 0),(.string ⟨#[]⟩),(.int .i64 0),(.int .u64 0),(.string ⟨#[]⟩),(.int .i64 0),(.int .u64 0),(.string ⟨#[]⟩),(.int .i64 0),(.int .u64 0),(.string ⟨#[]⟩),(.int .i64 0),(.int .u64 0),(.string ⟨#[]⟩),(.int .i64 0),(.int .u64 0),(.string ⟨#[]⟩),(.int .i64 0),(.int .u64 0),(.string ⟨#[]⟩),(.int .i64 0),(.int .u64 0),(.string ⟨#[]⟩),(.int .i64 0),(.int .u64 0),(.string ⟨#[]⟩),(.int .i64 0),(.int .u64 0),(.string ⟨#[]⟩),(.int .i64 0),(.int .u64 0),(.string ⟨#[]⟩),(.int .i64 0),(.int .u64 0),(.string ⟨#[]⟩),(.int .i64 0),(.int .u64 0),(.string ⟨#[]⟩),(.int .i64 0),(.int .u64 0),(.string ⟨#[]⟩),(.int .i64 0),(.int .u64 0),(.string ⟨#[]⟩),(.int .i64 0),(.int .u64 0),(.string ⟨#[]⟩)]):=⟨Tryz.t110,by kernel_rfl,by kernel_rfl⟩
instance:ZT Tryz.prog 164 (.agg #[(Sl.val ⟨none,0,0⟩),(.int .i64 0)]):=⟨Tryz.t164,by kernel_rfl,by kernel_rfl⟩
instance:ZT Tryz.prog 99 (.agg #[(.pointer none),(.int .u64 0),(.bool false),(Sl.val ⟨none,0,0⟩),(Sl.val ⟨none,0,0⟩),(Sl.val ⟨none,0,0⟩)]):=⟨Tryz.t99,by kernel_rfl,by kernel_rfl⟩
def zBW (c:Pt) (Q:Int→K): K :=
 zBK.call 0 1 fun a=>
 xB.call c ⟨#[108,105,102,101]⟩ a fun b=>
 Q b
theorem zJk (a Q w) (h:zBW a Q w):zBW.call a Q w:=by
 exact zS 6 h Tryz.func19
def yg.s3 (Q:Pt→Int→K) (b:Int→K) (f:Pt) (g:Sl) (i c:Int) (d:Bool): K :=
 Ite d
  (Q none 1)
  (Ar (IntKind.wrap .i64 (c + 1)) fun a=>
  b a)
def yg.b5 (Q:Pt→Int→K) (z u v:Int→K) (aa:Pt) (ab:Sl) (a:Addr) (x:Int) (y:Pt) (d:Addr) (c:Int): K :=
 Nn y fun b=>
 Ld (b.add 5) Sl.val fun f=>
 Ite (decide (c < (f.n:Int)))
  (Ld (b.add 5) Sl.val fun g=>
  Idx g c 1 fun i=>
  Ld i Sl.val fun j=>
  qX.call (some d) j fun k=>
  Ite (!k)
   (Q none 31)
   (Ar (IntKind.wrap .i64 (c + 1)) fun l=>
   v l))
  (Ld (a.add 4) Sl.val fun m=>
  New 101 #[(.pointer (some b))] fun o=>
  Do Tryz.prog (Builtin.append_ #[96,96] 96 #[Sl.val m,(Sl.val (Sl.mk (some o) 1 1))]) Sl.val fun p=>
  St (a.add 4) (Sl.val p)<|
  Ld (a.add 5) Sl.val fun q=>
  New 104 #[(.pointer (some d))] fun r=>
  Do Tryz.prog (Builtin.append_ #[97,97] 97 #[Sl.val q,(Sl.val (Sl.mk (some r) 1 1))]) Sl.val fun s=>
  St (a.add 5) (Sl.val s)<|
  Ar (IntKind.wrap .i64 (x + 1)) fun t=>
  u t)
def yg.b4 (Q:Pt→Int→K) (r s:Int→K) (d:Pt) (a:Sl) (f:Addr) (b:Int): K :=
 Ite (decide (b < (a.n:Int)))
  (Idx a b 1 fun g=>
  Ld g (Value.int .i64) fun i=>
  Ar (IntKind.wrap .i64 (48 + i)) fun j=>
  Ar (IntKind.wrap .u8 j) fun k=>
  New 5 #[.int .u8 k] fun l=>
  Rd Tryz.prog (convert 22 9 (Sl.val (Sl.mk (some l) 1 1))) Value.string fun m=>
  Cat (⟨#[103]⟩:ByteArray) m fun o=>
  zw.call d o 40960 fun p c=>
  Ite (decide (c ≠ 0))
   (Q none c)
   (New 110 #[.int .u64 0,.bool false,.bool false,.bool false,.bool false,.bool false,.bool false,.bool false,.bool false,.bool false,.bool false,.bool false,.bool false,.bool false,.bool false,.bool false,.bool false,.bool false,.bool false,.bool false,.bool false,.bool false,.bool false,.bool false,.bool false,.bool false,.bool false,.bool false,.bool false,.bool false,.bool false,.bool false,.bool false,.bool false,.bool false,.bool false,.bool false,.bool false,.bool false,.bool false,.bool false,.bool false,.bool false,.bool false,.bool false,.bool false,.bool false,.bool false,.bool false,.bool false,.bool false,.bool false,.bool false,.bool false,.bool false,.bool false,.bool false,.bool false,.bool false,.bool false,.bool false,.bool false,.bool false,.bool false,.bool false,.int .i64 0,.int .u64 0,(.string ⟨#[]⟩),.int .i64 0,.int .u64 0,(.string ⟨#[]⟩),.int .i64 0,.int .u64 0,(.string ⟨#[]⟩),.int .i64 0,.int .u64 0,(.string ⟨#[]⟩),.int .i64 0,.int .u64 0,(.string ⟨#[]⟩),.int .i64 0,.int .u64 0,(.string ⟨#[]⟩),.int .i64 0,.int .u64 0,(.string ⟨#[]⟩),.int .i64 0,.int .u64 0,(.string ⟨#[]⟩),.int .i64 0,.int .u64 0,(.string ⟨#[]⟩),.int .i64 0,.int .u64 0,(.string ⟨#[]⟩),.int .i64 0,.int .u64 0,(.string ⟨#[]⟩),.int .i64 0,.int .u64 0,(.string ⟨#[]⟩),.int .i64 0,.int .u64 0,(.string ⟨#[]⟩),.int .i64 0,.int .u64 0,(.string ⟨#[]⟩),.int .i64 0,.int .u64 0,(.string ⟨#[]⟩),.int .i64 0,.int .u64 0,(.string ⟨#[]⟩),.int .i64 0,.int .u64 0,(.string ⟨#[]⟩),.int .i64 0,.int .u64 0,(.string ⟨#[]⟩),.int .i64 0,.int .u64 0,(.string ⟨#[]⟩),.int .i64 0,.int .u64 0,(.string ⟨#[]⟩),.int .i64 0,.int .u64 0,(.string ⟨#[]⟩),.int .i64 0,.int .u64 0,(.string ⟨#[]⟩),.int .i64 0,.int .u64 0,(.string ⟨#[]⟩),.int .i64 0,.int .u64 0,(.string ⟨#[]⟩),.int .i64 0,.int .u64 0,(.string ⟨#[]⟩),.int .i64 0,.int .u64 0,(.string ⟨#[]⟩),.int .i64 0,.int .u64 0,(.string ⟨#[]⟩),.int .i64 0,.int .u64 0,(.string ⟨#[]⟩),.int .i64 0,.int .u64 0,(.string ⟨#[]⟩),.int .i64 0,.int .u64 0,(.string ⟨#[]⟩),.int .i64 0,.int .u64 0,(.string ⟨#[]⟩),.int .i64 0,.int .u64 0,(.string ⟨#[]⟩),.int .i64 0,.int .u64 0,(.string ⟨#[]⟩),.int .i64 0,.int .u64 0,(.string ⟨#[]⟩),.int .i64 0,.int .u64 0,(.string ⟨#[]⟩),.int .i64 0,.int .u64 0,(.string ⟨#[]⟩),.int .i64 0,.int .u64 0,(.string ⟨#[]⟩),.int .i64 0,.int .u64 0,(.string ⟨#[]⟩),.int .i64 0,.int .u64 0,(.string ⟨#[]⟩),.int .i64 0,.int .u64 0,(.string ⟨#[]⟩),.int .i64 0,.int .u64 0,(.string ⟨#[]⟩),.int .i64 0,.int .u64 0,(.string ⟨#[]⟩),.int .i64 0,.int .u64 0,(.string ⟨#[]⟩),.int .i64 0,.int .u64 0,(.string ⟨#[]⟩),.int .i64 0,.int .u64 0,(.string ⟨#[]⟩),.int .i64 0,.int .u64 0,(.string ⟨#[]⟩),.int .i64 0,.int .u64 0,(.string ⟨#[]⟩),.int .i64 0,.int .u64 0,(.string ⟨#[]⟩),.int .i64 0,.int .u64 0,(.string ⟨#[]⟩),.int .i64 0,.int .u64 0,(.string ⟨#[]⟩),.int .i64 0,.int .u64 0,(.string ⟨#[]⟩),.int .i64 0,.int .u64 0,(.string ⟨#[]⟩),.int .i64 0,.int .u64 0,(.string ⟨#[]⟩),.int .i64 0,.int .u64 0,(.string ⟨#[]⟩),.int .i64 0,.int .u64 0,(.string ⟨#[]⟩),.int .i64 0,.int .u64 0,(.string ⟨#[]⟩),.int .i64 0,.int .u64 0,(.string ⟨#[]⟩),.int .i64 0,.int .u64 0,(.string ⟨#[]⟩),.int .i64 0,.int .u64 0,(.string ⟨#[]⟩),.int .i64 0,.int .u64 0,(.string ⟨#[]⟩),.int .i64 0,.int .u64 0,(.string ⟨#[]⟩),.int .i64 0,.int .u64 0,(.string ⟨#[]⟩),.int .i64 0,.int .u64 0,(.string ⟨#[]⟩),.int .i64 0,.int .u64 0,(.string ⟨#[]⟩)] fun q=>
   yM (α:=Int) (fun X x=>yg.b5 Q r s X d a f b p q x) 0))
  (Q (some f) 0)
def yg.b2 (Q:Pt→Int→K) (d:Int→K) (c:Pt) (a:Sl) (f b:Int): K :=
 Ite (decide (b < (a.n:Int)))
  (Idx a b 1 fun j=>
  Ld j (Value.int .i64) fun k=>
  Ite (decide (k < 0))
   (yg.s3 Q d c a f b true)
   (Idx a b 1 fun l=>
   Ld l (Value.int .i64) fun m=>
   yg.s3 Q d c a f b (decide ((3:Int) < m))))
  (New 99 #[.pointer c,.int .u64 0,.bool false,Sl.val a,Sl.val ⟨none,0,0⟩,Sl.val ⟨none,0,0⟩] fun g=>
  zu.call (some g) f fun i=>
  Ite (decide (i ≠ 0))
   (Q none i)
   (yM (α:=Int) (fun X x=>yg.b4 Q d X c a g x) 0))
def yg.s1 (Q:Pt→Int→K) (a:Pt) (b:Sl) (c:Int) (d:Bool): K :=
 Ite d
  (Q none 1)
  (yM (α:=Int) (fun X x=>yg.b2 Q X a b c x) 0)
def yg (b:Pt) (a:Sl) (c:Int) (Q:Pt→Int→K): K :=
 Dr<|
 Ite (decide ((2:Int) < (a.n:Int)))
  (yg.s1 Q b a c true)
  (Ite (decide ((a.n:Int) = 2))
   (Idx a 0 1 fun d=>
   Ld d (Value.int .i64) fun f=>
   Idx a 1 1 fun g=>
   Ld g (Value.int .i64) fun i=>
   yg.s1 Q b a c (decide (f = i)))
   (yg.s1 Q b a c false))
theorem zLr (k l m Q w) (h:yg k l m Q w):yg.call k l m Q w:=by
 have:∀ a,XH 4 a→JH 7 fun D=>∃ b c d f,D [(0,.pointer b),(1,Sl.val c),(2,.int .u64 d),(8,.int .i64 f)] (fun C=>∀ n,C [(0,.pointer b),(1,Sl.val c),(2,.int .u64 d),(8,.int .i64 f),(50,.bool n)] (yg.s3 Q a b c d f n)):=by intros; exact ⟨fun _ ⟨_,_,_,_,h⟩=>⟨_,_,h⟩⟩
 have:∀ a,XH 4 a→∀ o,XH 13 o→∀ p q r s t u,LH 20 (fun x:Int=>[(0,.pointer p),(1,Sl.val q),(9,(.pointer (some r))),(11,.int .i64 s),(12,.pointer t),(14,(.pointer (some u))),(15,.int .i64 x)]) (fun X x=>yg.b5 Q a o X p q r s t u x):=by intros; exact ⟨⟩
 have:∀ a,XH 4 a→∀ v y z,LH 13 (fun x:Int=>[(0,.pointer v),(1,Sl.val y),(9,(.pointer (some z))),(11,.int .i64 x)]) (fun X x=>yg.b4 Q a X v y z x):=by intros; exact ⟨⟩
 have:∀ aa ab ac,LH 4 (fun x:Int=>[(0,.pointer aa),(1,Sl.val ab),(2,.int .u64 ac),(8,.int .i64 x)]) (fun X x=>yg.b2 Q X aa ab ac x):=fun _ _ _=>⟨⟩
 have:JH 2 fun D=>∃ g i j,D [(0,.pointer g),(1,Sl.val i),(2,.int .u64 j)] (fun C=>∀ ad,C [(0,.pointer g),(1,Sl.val i),(2,.int .u64 j),(32,.bool ad)] (yg.s1 Q g i j ad)):=⟨fun _ ⟨_,_,_,h⟩=>⟨_,_,h⟩⟩
 exact zS 126 h Tryz.func20
def zBK (d f:Int) (Q:Sl→K): K :=
 uK.call d fun a=>
 New 5 #[.int .u8 f] fun b=>
 Do Tryz.prog (Builtin.append_ #[22,22] 22 #[Sl.val a,(Sl.val (Sl.mk (some b) 1 1))]) Sl.val fun c=>
 Q c
theorem zLs (a b Q w) (h:zBK a b Q w):zBK.call a b Q w:=by
 exact zS 10 h Tryz.func38
def zu.s3 (Q:Int→K) (a:Addr) (b c:Int): K :=
 Ite (decide (b = 18446744073709551615))
  (Q 111)
  (Ar (IntKind.wrap .u64 (b + 1)) fun d=>
  St (a.add 1) (.int .u64 d)<|
  St (a.add 2) (.bool (decide (c = 1)))<|
  Dr <| xW fun S=>
  LdS S a Value.pointer fun f=>
  LdS S (a.add 1) (Value.int .u64) fun g=>
  zBK.call g c fun i=>
  Sv S<|
  xB.call f ⟨#[108,105,102,101]⟩ i fun j=>
  Q j)
def zu.s2 (Q:Int→K) (a:Addr) (b c d:Int) (f:Bool): K :=
 Ite f
  (Q 61)
  (Ite (decide (c < b))
   (zu.s3 Q a b d)
   (zu.s3 Q a c d))
def zu.s1 (Q:Int→K) (d:Addr) (f:Int) (l:Sl): K :=
 New 164 #[Sl.val l,.int .i64 0] fun b=>
 zf.call (some b) fun c g=>
 jl.call (some b) fun a i=>
 Ar (IntKind.wrap .i64 (g + i)) fun j=>
 Ite (decide (j ≠ 0))
  (zu.s2 Q d f c a true)
  (Ite (decide ((1:Int) < a))
   (zu.s2 Q d f c a true)
   (uf.call (some b) fun k=>
   zu.s2 Q d f c a (decide (k ≠ 0))))
def zu (i:Pt) (c:Int) (Q:Int→K): K :=
 Nn i fun a=>
 Ld a Value.pointer fun d=>
 zBL.call d ⟨#[108,105,102,101]⟩ fun f b=>
 Ite (decide (b = 60))
  (zBK.call 0 0 fun g=>
  zu.s1 Q a c g)
  (Ite (decide (b ≠ 0))
   (Q b)
   (zu.s1 Q a c f))
theorem zFJ (l m Q w) (h:zu l m Q w):zu.call l m Q w:=by
 have:DH 17 2 [10] (.s [0,1,2,4,5,6,8,3,7] (.a [(9,1,.a [(10,0,.s [11] .e)])])):=⟨⟩
 have:JH 13 fun D=>∃ b c,D [(0,(.pointer (some b))),(10,.int .u8 c)] (fun C=>∀ n,C [(0,(.pointer (some b))),(8,.int .u64 n),(10,.int .u8 c)] (zu.s3 Q b n c)):=⟨fun _ ⟨_,_,h⟩=>⟨_,_,h⟩⟩
 have:JH 10 fun D=>∃ d f g i,D [(0,(.pointer (some d))),(1,.int .u64 f),(8,.int .u64 g),(10,.int .u8 i)] (fun C=>∀ o,C [(0,(.pointer (some d))),(1,.int .u64 f),(8,.int .u64 g),(10,.int .u8 i),(51,.bool o)] (zu.s2 Q d f g i o)):=⟨fun _ ⟨_,_,_,_,h⟩=>⟨_,_,h⟩⟩
 have:JH 6 fun D=>∃ j k,D [(0,(.pointer (some j))),(1,.int .u64 k)] (fun C=>∀ p,C [(0,(.pointer (some j))),(1,.int .u64 k),(5,Sl.val p)] (zu.s1 Q j k p)):=⟨fun _ ⟨_,_,h⟩=>⟨_,_,h⟩⟩
 exact zS 79 h Tryz.func39
def qX.s1 (Q:Bool→K) (b:Pt) (c:Int) (d:Bool): K :=
 Ite d
  (Q false)
  (uS.call b c 0 fun f a=>
  Q a)
def qX.s2 (Q:Bool→K) (d:Pt) (f g:Int) (i:Sl) (j:Bool): K :=
 Ite j
  (Q false)
  (Ar (IntKind.wrap .i64 f) fun a=>
  Rd Tryz.prog (convert 22 9 (Sl.val i)) Value.string fun b=>
  qb.call d #[.int .i64 a,.int .u64 g,.string b] fun c=>
  Q c)
def qX (b:Pt) (s:Sl) (Q:Bool→K): K :=
 New 164 #[Sl.val s,.int .i64 0] fun a=>
 jl.call (some a) fun g j=>
 Ite (decide (j ≠ 0))
  (Q false)
  (Ite (decide (g = 1))
   (zf.call (some a) fun i k=>
   Ite (decide (k ≠ 0))
    (qX.s1 Q b i true)
    (uf.call (some a) fun l=>
    qX.s1 Q b i (decide (l ≠ 0))))
   (zf.call (some a) fun c m=>
   zf.call (some a) fun d n=>
   zAq.call (some a) fun f o=>
   Ite (decide (g ≠ 2))
    (qX.s2 Q b c d f true)
    (Ar (IntKind.wrap .i64 (m + n)) fun p=>
    Ar (IntKind.wrap .i64 (p + o)) fun q=>
    Ite (decide (q ≠ 0))
     (qX.s2 Q b c d f true)
     (uf.call (some a) fun r=>
     Ite (decide (r ≠ 0))
      (qX.s2 Q b c d f true)
      (qX.s2 Q b c d f (decide ((63:Int) < c)))))))
theorem zJl (i j Q w) (h:qX i j Q w):qX.call i j Q w:=by
 have:JH 8 fun D=>∃ a b,D [(0,.pointer a),(8,.int .u64 b)] (fun C=>∀ k,C [(0,.pointer a),(8,.int .u64 b),(41,.bool k)] (qX.s1 Q a b k)):=⟨fun _ ⟨_,_,h⟩=>⟨_,_,h⟩⟩
 have:JH 15 fun D=>∃ c d f g,D [(0,.pointer c),(12,.int .u64 d),(14,.int .u64 f),(16,Sl.val g)] (fun C=>∀ l,C [(0,.pointer c),(12,.int .u64 d),(14,.int .u64 f),(16,Sl.val g),(82,.bool l)] (qX.s2 Q c d f g l)):=⟨fun _ ⟨_,_,_,_,h⟩=>⟨_,_,h⟩⟩
 exact zS 91 h Tryz.func41
def yF.s2 (Q:Sl→Bool→Int→K) (i:Pt) (j k l:Int): K :=
 Nn i fun a=>
 Ld (a.add 5) Sl.val fun b=>
 Idx b l 1 fun c=>
 Ld c Value.pointer fun d=>
 uS.call d j k fun f g=>
 Q f g 0
def yF.s1 (Q:Sl→Bool→Int→K) (q:Pt) (b f c:Int) (g:Sl) (r:Bool): K :=
 Ite r
  (Q g false 0)
  (Nn q fun a=>
  Ld (a.add 5) Sl.val fun i=>
  Idx i c 1 fun j=>
  Ld j Value.pointer fun k=>
  Nn k fun l=>
  Ld l (Value.int .u64) fun m=>
  Ite (decide (m < b))
   (New 5 #[.int .u8 1] fun n=>
   uK.call b fun o=>
   Do Tryz.prog (Builtin.append_ #[22,22] 22 #[(Sl.val (Sl.mk (some n) 1 1)),Sl.val o]) Sl.val fun p=>
   jK.call (some a) c p fun d=>
   Ite (decide (d ≠ 0))
    (Q g false d)
    (yF.s2 Q (some a) b f c))
   (yF.s2 Q (some a) b f c))
def yF (g:Pt) (o c f:Int) (Q:Sl→Bool→Int→K): K :=
 xS.call g o fun a=>
 New 107 #[] fun d=>
 Nn g fun b=>
 Ld (b.add 2) Value.bool fun i=>
 Ite (!i)
  (yF.s1 Q (some b) c f a (Sl.mk (some d) 0 0) true)
  (Ite (decide (a < 0))
   (yF.s1 Q (some b) c f a (Sl.mk (some d) 0 0) true)
   (Ld (b.add 5) Sl.val fun j=>
   Idx j a 1 fun k=>
   Ld k Value.pointer fun l=>
   Nn l fun m=>
   Ld m (Value.int .u64) fun n=>
   yF.s1 Q (some b) c f a (Sl.mk (some d) 0 0) (decide (c < n))))
theorem zEa (l m n o Q w) (h:yF l m n o Q w):yF.call l m n o Q w:=by
 have:JH 8 fun D=>∃ a b c d,D [(0,.pointer a),(2,.int .u64 b),(3,.int .i64 c),(11,.int .i64 d)] (fun C=>C [(0,.pointer a),(2,.int .u64 b),(3,.int .i64 c),(11,.int .i64 d)] (yF.s2 Q a b c d)):=⟨fun _ ⟨_,_,_,_,h⟩=>⟨_,_,h⟩⟩
 have:JH 3 fun D=>∃ f g i j k,D [(0,.pointer f),(2,.int .u64 g),(3,.int .i64 i),(11,.int .i64 j),(12,Sl.val k)] (fun C=>∀ p,C [(0,.pointer f),(2,.int .u64 g),(3,.int .i64 i),(11,.int .i64 j),(12,Sl.val k),(42,.bool p)] (yF.s1 Q f g i j k p)):=⟨fun _ ⟨_,_,_,_,_,h⟩=>⟨_,_,h⟩⟩
 exact zS 82 h Tryz.func44
def yN.s1 (Q:Bool→Int→K) (c:Pt) (a:Addr) (d:Int) (aa:Bool): K :=
 Ite aa
  (Q false 0)
  (Ld (a.add 2) Value.string fun f=>
  Ite (decide ((4000:Int) < (f.size:Int)))
   (Q false 1)
   (New 5 #[.int .u8 2] fun g=>
   Ld a (Value.int .i64) fun i=>
   Ar (IntKind.wrap .u64 i) fun j=>
   uK.call j fun k=>
   Do Tryz.prog (Builtin.append_ #[22,22] 22 #[(Sl.val (Sl.mk (some g) 1 1)),Sl.val k]) Sl.val fun l=>
   Ld (a.add 1) (Value.int .u64) fun m=>
   uK.call m fun n=>
   Do Tryz.prog (Builtin.append_ #[22,22] 22 #[Sl.val l,Sl.val n]) Sl.val fun o=>
   Ld (a.add 2) Value.string fun p=>
   Do Tryz.prog (convert 9 22 (.string p)) Sl.val fun q=>
   zCW.call q fun r=>
   Do Tryz.prog (Builtin.append_ #[22,22] 22 #[Sl.val o,Sl.val r]) Sl.val fun s=>
   jK.call c d s fun b=>
   Ite (decide (b ≠ 0))
    (Q false b)
    (Dr<|
    Nn c fun t=>
    Ld (t.add 5) Sl.val fun u=>
    Idx u d 1 fun v=>
    Ld v Value.pointer fun x=>
    LdN a 3 fun y=>
    qb.call x y fun z=>
    Q z 0)))
def yN (d:Pt) (p:Int) (q:Av) (Q:Bool→Int→K): K :=
 New 107 q fun a=>
 xS.call d p fun b=>
 Dr<|
 Nn d fun c=>
 Ld (c.add 2) Value.bool fun f=>
 Ite (!f)
  (yN.s1 Q (some c) a b true)
  (Ite (decide (b < 0))
   (yN.s1 Q (some c) a b true)
   (Ld (a.add 1) (Value.int .u64) fun g=>
   Ld (c.add 5) Sl.val fun i=>
   Idx i b 1 fun j=>
   Ld j Value.pointer fun k=>
   Nn k fun l=>
   Ld l (Value.int .u64) fun m=>
   Ite (decide (g < m))
    (yN.s1 Q (some c) a b true)
    (Ld a (Value.int .i64) fun n=>
    Ite (decide (n < 0))
     (yN.s1 Q (some c) a b true)
     (Ld a (Value.int .i64) fun o=>
     yN.s1 Q (some c) a b (decide ((63:Int) < o))))))
theorem zEt (f g i Q w) (h:yN f g i Q w):yN.call f g i Q w:=by
 have:DH 11 1 [8] (.s [0,1,2,4,3,5,6,7] (.a [(8,0,.s [9,10] .e)])):=⟨⟩
 have:JH 3 fun D=>∃ b c d,D [(0,.pointer b),(5,(.pointer (some c))),(8,.int .i64 d)] (fun C=>∀ j,C [(0,.pointer b),(5,(.pointer (some c))),(8,.int .i64 d),(47,.bool j)] (yN.s1 Q b c d j)):=⟨fun _ ⟨_,_,_,h⟩=>⟨_,_,h⟩⟩
 exact zS 84 h Tryz.func48
def uY (b:Pt) (k:Int) (Q:Int→K): K :=
 xS.call b k fun a=>
 Ite (decide (a < 0))
  (Q 0)
  (Nn b fun c=>
  Ld (c.add 5) Sl.val fun d=>
  Idx d a 1 fun f=>
  Ld f Value.pointer fun g=>
  Nn g fun i=>
  Ld i (Value.int .u64) fun j=>
  Q j)
theorem zD6 (a b Q w) (h:uY a b Q w):uY.call a b Q w:=by
 exact zS 21 h Tryz.func50
def xS.b1 (Q j:Int→K) (k:Pt) (l a:Int): K :=
 Nn k fun b=>
 Ld (b.add 3) Sl.val fun c=>
 Ite (decide (a < (c.n:Int)))
  (Ld (b.add 3) Sl.val fun d=>
  Idx d a 1 fun f=>
  Ld f (Value.int .i64) fun g=>
  Ite (decide (g = l))
   (Q a)
   (Ar (IntKind.wrap .i64 (a + 1)) fun i=>
   j i))
  (Q (-1))
def xS (a:Pt) (b:Int) (Q:Int→K): K :=
 yM (α:=Int) (fun X x=>xS.b1 Q X a b x) 0
theorem zG7 (a b Q w) (h:xS a b Q w):xS.call a b Q w:=by
 have:∀ c d,LH 2 (fun x:Int=>[(0,.pointer c),(1,.int .i64 d),(5,.int .i64 x)]) (fun X x=>xS.b1 Q X c d x):=fun _ _=>⟨⟩
 exact zS 25 h Tryz.func89
def jK (m:Pt) (c:Int) (n:Sl) (Q:Int→K): K :=
 Nn m fun a=>
 Ld (a.add 4) Sl.val fun d=>
 Idx d c 1 fun f=>
 Ld f Value.pointer fun g=>
 yt.call g n fun b=>
 Ite (decide (b ≠ 0))
  (Q b)
  (Ld (a.add 4) Sl.val fun i=>
  Idx i c 1 fun j=>
  Ld j Value.pointer fun k=>
  zAO.call k fun l=>
  Q l)
theorem zFl (a b c Q w) (h:jK a b c Q w):jK.call a b c Q w:=by
 exact zS 28 h Tryz.func90
instance:AT Tryz.prog 116 3:=⟨by kernel_rfl⟩
instance:CB Tryz.prog 111:=⟨by kernel_rfl⟩
instance:CB Tryz.prog 112:=⟨by kernel_rfl⟩
instance:CB Tryz.prog 113:=⟨by kernel_rfl⟩
instance:CB Tryz.prog 114:=⟨by kernel_rfl⟩
instance:CB Tryz.prog 88:=⟨by kernel_rfl⟩
instance:FT Tryz.prog 116 0 0 1:=⟨by kernel_rfl⟩
instance:FT Tryz.prog 116 2 2 1:=⟨by kernel_rfl⟩
instance:FT Tryz.prog 93 0 0 1:=⟨by kernel_rfl⟩
instance:FT Tryz.prog 93 2 2 1:=⟨by kernel_rfl⟩
instance:PLT Tryz.prog 116 [(0,1),(1,1),(2,1)]:=⟨_,Tryz.underlying116,by kernel_rfl⟩
instance:PLT Tryz.prog 93 [(0,1),(1,1),(2,1),(3,1)]:=⟨_,Tryz.underlying93,by kernel_rfl⟩
instance:SZ Tryz.prog 116 3:=⟨by kernel_rfl⟩
instance:SZ Tryz.prog 9 1:=⟨by kernel_rfl⟩
instance:SZ Tryz.prog 91 1:=⟨by kernel_rfl⟩
instance:ZT Tryz.prog 116 (.agg #[(.string ⟨#[]⟩),(Sl.val ⟨none,0,0⟩),(.int .i64 0)]):=⟨Tryz.t116,by kernel_rfl,by kernel_rfl⟩
instance:ZT Tryz.prog 93 (.agg #[(.int .i64 0),(Sl.val ⟨none,0,0⟩),(.int .i64 0),(.bool false)]):=⟨Tryz.t93,by kernel_rfl,by kernel_rfl⟩
def zCU (b:Int) (Q:Pt→K): K :=
 New 93 #[.int .i64 b,Sl.val ⟨none,0,0⟩,(.int .i64 (-1)),.bool false] fun a=>
 Q (some a)
theorem zNy (a Q w) (h:zCU a Q w):zCU.call a Q w:=by
 exact zS 6 h Tryz.func18
def uJ (c:Pt) (b:Int) (Q:K): K :=
 Nn c fun a=>
 St (a.add 2) (.int .i64 b)<|
 Ite (decide (b < 0))
  (St (a.add 2) (.int .i64 (-1))<|
  Q)
  (Q)
theorem zGW (a b Q w) (h:uJ a b Q w):uJ.call a b Q w:=by
 exact zS 13 h Tryz.func22
def y7.s2 (Q:Pt→K) (s:Int→K) (v:Addr) (x:Sl) (f:Addr) (t:Int) (a:Addr) (u:Int): K :=
 Ld (a.add 2) (Value.int .i64) fun g=>
 Ar (IntKind.wrap .i64 (g + u)) fun b=>
 Dr <| xW fun S=>
 LdS S (f.add 1) Sl.val fun j=>
 LdS S a Value.string fun k=>
 LdS S (a.add 1) Sl.val fun d=>
 Slc d 0 b (d.c:Int) 1 fun l=>
 New 5 #[] fun m=>
 Sv S<|
 Do Tryz.prog (Builtin.append_ #[22,22] 22 #[(Sl.val (Sl.mk (some m) 0 0)),Sl.val l]) Sl.val fun n=>
 Sv S<|
 Bld #[(.string ⟨#[]⟩),Sl.val ⟨none,0,0⟩,.int .i64 0] (fun i=>some (i * 3,3)) [(0,(.agg #[.string k,Sl.val n,.int .i64 b]))] fun o=>
 New 116 o fun p=>
 Sv S<|
 Do Tryz.prog (Builtin.append_ #[91,91] 91 #[Sl.val j,(Sl.val (Sl.mk (some p) 1 1))]) Sl.val fun q=>
 St (f.add 1) (Sl.val q)<|
 Ar (IntKind.wrap .i64 (t + 1)) fun r=>
 s r
def y7.b1 (Q:Pt→K) (j:Int→K) (c:Addr) (d:Sl) (f:Addr) (a:Int): K :=
 Ld (c.add 1) Sl.val fun k=>
 Ite (decide (a < (k.n:Int)))
  (Ld (c.add 1) Sl.val fun l=>
  Idx l a 3 fun m=>
  LdN m 3 fun o=>
  New 116 #[(.string ⟨#[]⟩),Sl.val ⟨none,0,0⟩,.int .i64 0] fun b=>
  StN b 3 o<|
  Ld (b.add 1) Sl.val fun p=>
  Ld (b.add 2) (Value.int .i64) fun q=>
  Ar (IntKind.wrap .i64 ((p.n:Int) - q)) fun r=>
  Ar (IntKind.wrap .i64 (r + 1)) fun g=>
  Ite (decide (a < (d.n:Int)))
   (Idx d a 1 fun s=>
   Ld s (Value.int .i64) fun t=>
   Cd (g ≠ 0)<|
   Ar (Int.tmod t g) fun i=>
   Ite (decide (i < 0))
    (Ar (IntKind.wrap .i64 (i + g)) fun u=>
    y7.s2 Q j c d f a b u)
    (y7.s2 Q j c d f a b i))
   (y7.s2 Q j c d f a b 0))
  (Q (some f))
def y7 (d:Pt) (f:Sl) (Q:Pt→K): K :=
 Nn d fun a=>
 Ld a (Value.int .i64) fun b=>
 New 93 #[.int .i64 b,Sl.val ⟨none,0,0⟩,(.int .i64 (-1)),.bool false] fun c=>
 yM (α:=Int) (fun X x=>y7.b1 Q X a f c x) 0
theorem zGX (i j Q w) (h:y7 i j Q w):y7.call i j Q w:=by
 have:DH 12 2 [16,19] (.s [0,1,2,3,5,8,10,13,4,6,9,11] (.a [(7,1,.a [(12,1,.s [14] (.a [(15,1,.a [(16,0,.s [17,18] (.a [(19,0,.e)]))])]))])])):=⟨⟩
 have:∀ k,XH 3 k→JH 11 fun D=>∃ b c d f g,D [(0,(.pointer (some b))),(1,Sl.val c),(5,(.pointer (some d))),(6,.int .i64 f),(7,(.pointer (some g)))] (fun C=>∀ l,C [(0,(.pointer (some b))),(1,Sl.val c),(5,(.pointer (some d))),(6,.int .i64 f),(7,(.pointer (some g))),(9,.int .i64 l)] (y7.s2 Q k b c d f g l)):=by intros; exact ⟨fun _ ⟨_,_,_,_,_,h⟩=>⟨_,_,h⟩⟩
 have:∀ m n o,LH 3 (fun x:Int=>[(0,(.pointer (some m))),(1,Sl.val n),(5,(.pointer (some o))),(6,.int .i64 x)]) (fun X x=>y7.b1 Q X m n o x):=fun _ _ _=>⟨⟩
 exact zS 79 h Tryz.func23
def uw (b:Pt) (m:ByteArray) (Q:Sl→Int→K): K :=
 uF.call b m fun c a=>
 Ite (decide (a ≠ 0))
  (New 5 #[] fun d=>
  Q (Sl.mk (some d) 0 0) a)
  (New 5 #[] fun f=>
  Nn b fun g=>
  Ld (g.add 1) Sl.val fun i=>
  Idx i c 3 fun j=>
  Ld (j.add 1) Sl.val fun k=>
  Do Tryz.prog (Builtin.append_ #[22,22] 22 #[(Sl.val (Sl.mk (some f) 0 0)),Sl.val k]) Sl.val fun l=>
  Q l 0)
theorem zG8 (a b Q w) (h:uw a b Q w):uw.call a b Q w:=by
 exact zS 28 h Tryz.func43
def uW (a:Pt) (c:ByteArray) (Q:Int→K): K :=
 uF.call a c fun f b=>
 Ite (decide (b ≠ 0))
  (Q b)
  (qz.call a fun d=>
  Ite (!d)
   (Q 3)
   (qG.call a c<|
   Q 0))
theorem zFm (a b Q w) (h:uW a b Q w):uW.call a b Q w:=by
 exact zS 22 h Tryz.func71
def zq.s3 (Q:Int→K) (a:Addr) (n:Sl) (b:Int): K :=
 Dr <| xW fun S=>
 LdS S (a.add 1) Sl.val fun c=>
 LdS S (a.add 1) Sl.val fun d=>
 Idx d b 3 fun f=>
 LdS S (f.add 1) Sl.val fun g=>
 New 5 #[] fun i=>
 Sv S<|
 Do Tryz.prog (Builtin.append_ #[22,22] 22 #[(Sl.val (Sl.mk (some i) 0 0)),Sl.val g]) Sl.val fun j=>
 Sv S<|
 Do Tryz.prog (Builtin.append_ #[22,22] 22 #[Sl.val j,Sl.val n]) Sl.val fun k=>
 Sv S<|
 Idx c b 3 fun l=>
 St (l.add 1) (Sl.val k)<|
 qz.call (some a) fun m=>
 Ite (!m)
  (Q 3)
  (Q 0)
def zq.s2 (Q:Int→K) (a:Addr) (b:ByteArray) (c:Sl) (d:Int) (g:Bool): K :=
 Ite g
  (Q 2)
  (Ite (decide (d < 0))
   (yG.call (some a) #[.string b,Sl.val ⟨none,0,0⟩,.int .i64 0]<|
   xX.call (some a) b fun f=>
   zq.s3 Q a c f)
   (zq.s3 Q a c d))
def zq.s1 (Q:Int→K) (a:Addr) (d:ByteArray) (b:Sl) (k:Bool): K :=
 Ite k
  (Q 1)
  (xX.call (some a) d fun c=>
  Dr <| xW fun S=>
  Ite (decide (c < 0))
   (LdS S (a.add 1) Sl.val fun j=>
   Ite (decide ((32:Int) ≤ (j.n:Int)))
    (zq.s2 Q a d b c true)
    (LdS S a (Value.int .i64) fun f=>
    xw.call (some a) fun g=>
    Sv S<|
    Ar (IntKind.wrap .i64 (f - g)) fun i=>
    zq.s2 Q a d b c (decide (i < (b.n:Int)))))
   (LdS S a (Value.int .i64) fun f=>
   xw.call (some a) fun g=>
   Sv S<|
   Ar (IntKind.wrap .i64 (f - g)) fun i=>
   zq.s2 Q a d b c (decide (i < (b.n:Int)))))
def zq (f:Pt) (a:ByteArray) (c:Sl) (Q:Int→K): K :=
 Nn f fun b=>
 Ld (b.add 3) Value.bool fun d=>
 Ite d
  (Q 3)
  (Ite (decide ((a.size:Int) < 1))
   (zq.s1 Q b a c true)
   (zq.s1 Q b a c (decide ((16:Int) < (a.size:Int)))))
theorem zFn (n o p Q w) (h:zq n o p Q w):zq.call n o p Q w:=by
 have:DH 11 2 [19] (.s [0,1,2,4,6,7,8,10,15,3,9,11,12,13] (.a [(5,1,.a [(14,1,.a [(16,1,.s [17,18] (.a [(19,0,.e)]))])])])):=⟨⟩
 have:JH 11 fun D=>∃ b c,D [(0,(.pointer (some b))),(2,Sl.val c)] (fun C=>∀ q,C [(0,(.pointer (some b))),(2,Sl.val c),(7,.int .i64 q)] (zq.s3 Q b c q)):=⟨fun _ ⟨_,_,h⟩=>⟨_,_,h⟩⟩
 have:JH 7 fun D=>∃ d f g j,D [(0,(.pointer (some d))),(1,.string f),(2,Sl.val g),(7,.int .i64 j)] (fun C=>∀ r,C [(0,(.pointer (some d))),(1,.string f),(2,Sl.val g),(7,.int .i64 j),(44,.bool r)] (zq.s2 Q d f g j r)):=⟨fun _ ⟨_,_,_,_,h⟩=>⟨_,_,h⟩⟩
 have:DH 6 2 [] (.s [0,1,2] (.i (.s [3,4,5,6,7,8,9,10] (.i (.s [11,12,13,14,15,16,17,18,19,20,21] .e) (.s [11,12,13,14,15,17,16] (.a [(18,1,.s [19,20,21] .e)])))) (.s [3,4,5,6,7,8,9,10,11,12,13,14,15,17,16] (.a [(18,1,.s [19,20,21] .e)])))):=⟨⟩
 have:JH 4 fun D=>∃ k l m,D [(0,(.pointer (some k))),(1,.string l),(2,Sl.val m)] (fun C=>∀ t,C [(0,(.pointer (some k))),(1,.string l),(2,Sl.val m),(19,.bool t)] (zq.s1 Q k l m t)):=⟨fun _ ⟨_,_,_,h⟩=>⟨_,_,h⟩⟩
 exact zS 76 h Tryz.func72
def jQ (a:Pt) (m:ByteArray) (Q:Int→K): K :=
 uF.call a m fun b c=>
 Ite (decide (c ≠ 0))
  (Q c)
  (qz.call a fun f=>
  Ite (!f)
   (Q 3)
   (Dr<|
   Nn a fun d=>
   Ld (d.add 1) Sl.val fun g=>
   Ld (d.add 1) Sl.val fun i=>
   Idx i b 3 fun j=>
   Ld (j.add 1) Sl.val fun k=>
   Idx g b 3 fun l=>
   St (l.add 2) (.int .i64 (k.n:Int))<|
   Q 0))
theorem zG9 (b c Q w) (h:jQ b c Q w):jQ.call b c Q w:=by
 have:DH 6 1 [16] (.s [0,1,2,4,5,6,7,9,3,8,10,11,12,13,14,15] (.a [(16,0,.e)])):=⟨⟩
 exact zS 35 h Tryz.func74
def xD.s1 (Q:Int→K) (c:Pt) (l d:ByteArray) (m:Int) (n:Bool): K :=
 Ite n
  (Q 1)
  (qz.call c fun f=>
  Ite (!f)
   (Q 3)
   (Nn c fun a=>
   Ld (a.add 1) Sl.val fun g=>
   Idx g m 3 fun i=>
   LdN i 3 fun j=>
   New 116 #[(.string ⟨#[]⟩),Sl.val ⟨none,0,0⟩,.int .i64 0] fun b=>
   StN b 3 j<|
   qG.call (some a) l<|
   qG.call (some a) d<|
   St b (.string d)<|
   LdN b 3 fun k=>
   yG.call (some a) k<|
   Q 0))
def xD (b:Pt) (c a:ByteArray) (Q:Int→K): K :=
 uF.call b c fun d f=>
 Ite (decide (f ≠ 0))
  (Q f)
  (Ite (decide ((a.size:Int) < 1))
   (xD.s1 Q b c a d true)
   (xD.s1 Q b c a d (decide ((16:Int) < (a.size:Int)))))
theorem zFo (f g i Q w) (h:xD f g i Q w):xD.call f g i Q w:=by
 have:JH 5 fun D=>∃ a b c d,D [(0,.pointer a),(1,.string b),(2,.string c),(7,.int .i64 d)] (fun C=>∀ j,C [(0,.pointer a),(1,.string b),(2,.string c),(7,.int .i64 d),(26,.bool j)] (xD.s1 Q a b c d j)):=⟨fun _ ⟨_,_,_,_,h⟩=>⟨_,_,h⟩⟩
 exact zS 48 h Tryz.func75
def xX.b1 (Q j:Int→K) (k:Pt) (l:ByteArray) (a:Int): K :=
 Nn k fun b=>
 Ld (b.add 1) Sl.val fun c=>
 Ite (decide (a < (c.n:Int)))
  (Ld (b.add 1) Sl.val fun d=>
  Idx d a 3 fun f=>
  Ld f Value.string fun g=>
  Ite (g.toList == l.toList)
   (Q a)
   (Ar (IntKind.wrap .i64 (a + 1)) fun i=>
   j i))
  (Q (-1))
def xX (a:Pt) (b:ByteArray) (Q:Int→K): K :=
 yM (α:=Int) (fun X x=>xX.b1 Q X a b x) 0
theorem zIy (a b Q w) (h:xX a b Q w):xX.call a b Q w:=by
 have:∀ c d,LH 2 (fun x:Int=>[(0,.pointer c),(1,.string d),(5,.int .i64 x)]) (fun X x=>xX.b1 Q X c d x):=fun _ _=>⟨⟩
 exact zS 26 h Tryz.func80
def qY.s2 (Q:Int→K): K :=
 Q 0
def qY.s1 (Q:Int→K) (g:Pt) (d b:Int) (t:Bool): K :=
 Ite t
  (Q 1)
  (qz.call g fun i=>
  Ite (!i)
   (Q 3)
   (Dr<|
   Nn g fun a=>
   Ld (a.add 1) Sl.val fun j=>
   Ld (a.add 1) Sl.val fun k=>
   Idx k b 3 fun l=>
   Ld (l.add 1) Sl.val fun f=>
   Slc f 0 d (f.c:Int) 1 fun m=>
   Idx j b 3 fun n=>
   St (n.add 1) (Sl.val m)<|
   Ld (a.add 1) Sl.val fun o=>
   Idx o b 3 fun p=>
   Ld (p.add 2) (Value.int .i64) fun q=>
   Ite (decide (d < q))
    (Ld (a.add 1) Sl.val fun r=>
    Idx r b 3 fun s=>
    St (s.add 2) (.int .i64 d)<|
    qY.s2 Q)
    (qY.s2 Q)))
def qY (c:Pt) (k:ByteArray) (a:Int) (Q:Int→K): K :=
 uF.call c k fun b d=>
 Ite (decide (d ≠ 0))
  (Q d)
  (Ite (decide (a < 0))
   (qY.s1 Q c a b true)
   (Nn c fun f=>
   Ld (f.add 1) Sl.val fun g=>
   Idx g b 3 fun i=>
   Ld (i.add 1) Sl.val fun j=>
   qY.s1 Q (some f) a b (decide ((j.n:Int) < a))))
theorem zH4 (f g i Q w) (h:qY f g i Q w):qY.call f g i Q w:=by
 have:JH 11 fun D=>D [] (fun C=>C [] (qY.s2 Q)):=⟨fun _ h=>⟨_,_,h⟩⟩
 have:DH 8 1 [17] (.s [0,1,2,4,5,6,7,9,13,3,8,10,11,12,14,15,16] (.a [(17,0,.e)])):=⟨⟩
 have:JH 5 fun D=>∃ b c d,D [(0,.pointer b),(2,.int .i64 c),(7,.int .i64 d)] (fun C=>∀ j,C [(0,.pointer b),(2,.int .i64 c),(7,.int .i64 d),(32,.bool j)] (qY.s1 Q b c d j)):=⟨fun _ ⟨_,_,_,h⟩=>⟨_,_,h⟩⟩
 exact zS 71 h Tryz.func83
def uF (d:Pt) (f:ByteArray) (Q:Int→Int→K): K :=
 Nn d fun a=>
 Ld (a.add 3) Value.bool fun c=>
 Ite c
  (Q (-1) 3)
  (xX.call (some a) f fun b=>
  Ite (decide (b < 0))
   (Q (-1) 60)
   (Q b 0))
theorem zHA (a b Q w) (h:uF a b Q w):uF.call a b Q w:=by
 exact zS 17 h Tryz.func88
def qz.s1 (Q:Bool→K): K :=
 Q true
def qz (g:Pt) (Q:Bool→K): K :=
 Nn g fun a=>
 Ld (a.add 2) (Value.int .i64) fun b=>
 Ite (decide (b = 0))
  (St (a.add 3) (.bool true)<|
  Q false)
  (Ld (a.add 2) (Value.int .i64) fun c=>
  Ite (decide ((0:Int) < c))
   (Ld (a.add 2) (Value.int .i64) fun d=>
   Ar (IntKind.wrap .i64 (d - 1)) fun f=>
   St (a.add 2) (.int .i64 f)<|
   qz.s1 Q)
   (qz.s1 Q))
theorem zH5 (a Q w) (h:qz a Q w):qz.call a Q w:=by
 have:JH 6 fun D=>D [] (fun C=>C [] (qz.s1 Q)):=⟨fun _ h=>⟨_,_,h⟩⟩
 exact zS 23 h Tryz.func111
def qG.s2 (Q:K) (b:Sl→Int→K) (f:Addr) (g:ByteArray) (c:Sl) (d:Int): K :=
 Ar (IntKind.wrap .i64 (d + 1)) fun a=>
 b c a
def qG.b1 (Q:K) (f:Sl→Int→K) (t:Pt) (c:ByteArray) (d:Sl) (b:Int): K :=
 Nn t fun a=>
 Ld (a.add 1) Sl.val fun g=>
 Ite (decide (b < (g.n:Int)))
  (Ld (a.add 1) Sl.val fun j=>
  Idx j b 3 fun k=>
  Ld k Value.string fun l=>
  Ite (!(l.toList == c.toList))
   (Ld (a.add 1) Sl.val fun m=>
   Idx m b 3 fun o=>
   LdN o 3 fun p=>
   Bld #[(.string ⟨#[]⟩),Sl.val ⟨none,0,0⟩,.int .i64 0] (fun i=>some (i * 3,3)) [(0,.agg p)] fun q=>
   New 116 q fun r=>
   Do Tryz.prog (Builtin.append_ #[91,91] 91 #[Sl.val d,(Sl.val (Sl.mk (some r) 1 1))]) Sl.val fun s=>
   qG.s2 Q f a c s b)
   (qG.s2 Q f a c d b))
  (St (a.add 1) (Sl.val d)<|
  Q)
def qG (d:Pt) (f:ByteArray) (Q:K): K :=
 New 116 #[] fun a=>
 yM (α:=Sl×Int) (fun X x=>qG.b1 Q (fun b c=>X (b,c)) d f x.1 x.2) ((Sl.mk (some a) 0 0),0)
theorem zHB (g i Q w) (h:qG g i Q w):qG.call g i Q w:=by
 have:∀ j,XH 2 j→JH 3 fun D=>∃ c d f,D [(0,(.pointer (some c))),(1,.string d),(5,.int .i64 f)] (fun C=>∀ k,C [(0,(.pointer (some c))),(1,.string d),(4,Sl.val k),(5,.int .i64 f)] (qG.s2 Q (fun a b=>j (a,b)) c d k f)):=by intros; exact ⟨fun _ ⟨_,_,_,h⟩=>⟨_,_,h⟩⟩
 have:∀ l m,LH 2 (fun x:Sl×Int=>[(0,.pointer l),(1,.string m),(4,Sl.val x.1),(5,.int .i64 x.2)]) (fun X x=>qG.b1 Q (fun a b=>X (a,b)) l m x.1 x.2):=fun _ _=>⟨⟩
 exact zS 40 h Tryz.func112
def xw.b1 (Q:Int→K) (l:Int→Int→K) (m:Pt) (c a:Int): K :=
 Nn m fun b=>
 Ld (b.add 1) Sl.val fun d=>
 Ite (decide (a < (d.n:Int)))
  (Ld (b.add 1) Sl.val fun f=>
  Idx f a 3 fun g=>
  Ld (g.add 1) Sl.val fun i=>
  Ar (IntKind.wrap .i64 (c + (i.n:Int))) fun j=>
  Ar (IntKind.wrap .i64 (a + 1)) fun k=>
  l j k)
  (Q c)
def xw (c:Pt) (Q:Int→K): K :=
 yM (α:=Int×Int) (fun X x=>xw.b1 Q (fun a b=>X (a,b)) c x.1 x.2) (0,0)
theorem zHC (a Q w) (h:xw a Q w):xw.call a Q w:=by
 have:∀ b,LH 3 (fun x:Int×Int=>[(0,.pointer b),(3,.int .i64 x.1),(4,.int .i64 x.2)]) (fun X x=>xw.b1 Q (fun c d=>X (c,d)) b x.1 x.2):=fun _=>⟨⟩
 exact zS 26 h Tryz.func113
def yG.s2 (Q:K) (l:Sl→Bool→Int→K) (m p:Addr) (n:Sl) (o:Bool) (a:Int): K :=
 Ld (m.add 1) Sl.val fun b=>
 Idx b a 3 fun c=>
 LdN c 3 fun d=>
 Bld #[(.string ⟨#[]⟩),Sl.val ⟨none,0,0⟩,.int .i64 0] (fun i=>some (i * 3,3)) [(0,.agg d)] fun f=>
 New 116 f fun g=>
 Do Tryz.prog (Builtin.append_ #[91,91] 91 #[Sl.val n,(Sl.val (Sl.mk (some g) 1 1))]) Sl.val fun j=>
 Ar (IntKind.wrap .i64 (a + 1)) fun k=>
 l j o k
def yG.s3 (Q:K) (b:Sl→Bool→Int→K) (c a:Addr) (d:Sl) (m:Bool) (f:Int) (n:Bool): K :=
 Ite n
  (LdN a 3 fun g=>
  Bld #[(.string ⟨#[]⟩),Sl.val ⟨none,0,0⟩,.int .i64 0] (fun i=>some (i * 3,3)) [(0,.agg g)] fun j=>
  New 116 j fun k=>
  Do Tryz.prog (Builtin.append_ #[91,91] 91 #[Sl.val d,(Sl.val (Sl.mk (some k) 1 1))]) Sl.val fun l=>
  yG.s2 Q b c a l true f)
  (yG.s2 Q b c a d m f)
def yG.s4 (Q:K) (c:Sl→Bool→Int→K) (a:Addr) (b:Sl): K :=
 St (a.add 1) (Sl.val b)<|
 Q
def yG.b1 (Q:K) (b:Sl→Bool→Int→K) (t:Pt) (c:Addr) (d:Sl) (f:Bool) (g:Int): K :=
 Nn t fun a=>
 Ld (a.add 1) Sl.val fun l=>
 Ite (decide (g < (l.n:Int)))
  (Dr<|
  Ite (!f)
   (Ld (a.add 1) Sl.val fun m=>
   Idx m g 3 fun o=>
   Ld o Value.string fun j=>
   Ld c Value.string fun k=>
   yG.s3 Q b a c d f g (!(Op.bytesLess j.toList k.toList || j.toList == k.toList)))
   (yG.s3 Q b a c d f g false))
  (Ite (!f)
   (LdN c 3 fun p=>
   Bld #[(.string ⟨#[]⟩),Sl.val ⟨none,0,0⟩,.int .i64 0] (fun i=>some (i * 3,3)) [(0,.agg p)] fun q=>
   New 116 q fun r=>
   Do Tryz.prog (Builtin.append_ #[91,91] 91 #[Sl.val d,(Sl.val (Sl.mk (some r) 1 1))]) Sl.val fun s=>
   yG.s4 Q b a s)
   (yG.s4 Q b a d))
def yG (g:Pt) (i:Av) (Q:K): K :=
 New 116 i fun a=>
 New 116 #[] fun b=>
 yM (α:=Sl×Bool×Int) (fun X x=>yG.b1 Q (fun c d f=>X (c,d,f)) g a x.1 x.2.1 x.2.2) ((Sl.mk (some b) 0 0),false,0)
theorem zH6 (o p Q w) (h:yG o p Q w):yG.call o p Q w:=by
 have:∀ a,XH 4 a→JH 9 fun D=>∃ f g i,D [(0,(.pointer (some f))),(3,(.pointer (some g))),(6,.int .i64 i)] (fun C=>∀ q r,C [(0,(.pointer (some f))),(3,(.pointer (some g))),(4,Sl.val q),(5,.bool r),(6,.int .i64 i)] (yG.s2 Q (fun b c d=>a (b,c,d)) f g q r i)):=by intros; exact ⟨fun _ ⟨_,_,_,h⟩=>⟨_,_,h⟩⟩
 have:∀ a,XH 4 a→JH 7 fun D=>∃ j k l m,D [(0,(.pointer (some j))),(3,(.pointer (some k))),(4,Sl.val l),(6,.int .i64 m)] (fun C=>∀ s t,C [(0,(.pointer (some j))),(3,(.pointer (some k))),(4,Sl.val l),(5,.bool s),(6,.int .i64 m),(31,.bool t)] (yG.s3 Q (fun b c d=>a (b,c,d)) j k l s m t)):=by intros; exact ⟨fun _ ⟨_,_,_,_,h⟩=>⟨_,_,h⟩⟩
 have:∀ a,XH 4 a→JH 12 fun D=>∃ n,D [(0,(.pointer (some n)))] (fun C=>∀ u,C [(0,(.pointer (some n))),(4,Sl.val u)] (yG.s4 Q (fun b c d=>a (b,c,d)) n u)):=by intros; exact ⟨fun _ ⟨_,h⟩=>⟨_,_,h⟩⟩
 have:∀ v y,LH 4 (fun x:Sl×Bool×Int=>[(0,.pointer v),(3,(.pointer (some y))),(4,Sl.val x.1),(5,.bool x.2.1),(6,.int .i64 x.2.2)]) (fun X x=>yG.b1 Q (fun b c d=>X (b,c,d)) v y x.1 x.2.1 x.2.2):=fun _ _=>⟨⟩
 exact zS 56 h Tryz.func114
instance:CB Tryz.prog 73:=⟨by kernel_rfl⟩
instance:CB Tryz.prog 75:=⟨by kernel_rfl⟩
instance:CB Tryz.prog 91:=⟨by kernel_rfl⟩
def xB.s2 (Q:Int→K) (b:Pt) (a:ByteArray) (l:Sl) (m:Int) (n:Bool): K :=
 Ite n
  (Q m)
  (Cat a (⟨#[126]⟩:ByteArray) fun f=>
  uR.call l fun g=>
  zq.call b f g fun c=>
  Ite (decide (c ≠ 0))
   (Q c)
   (Cat a (⟨#[126]⟩:ByteArray) fun i=>
   jQ.call b i fun d=>
   Ite (decide (d ≠ 0))
    (Q d)
    (Cat a (⟨#[126]⟩:ByteArray) fun j=>
    xD.call b j a fun k=>
    Q k)))
def xB.s1 (Q:Int→K) (b:Pt) (c:ByteArray) (d:Sl) (g:Bool): K :=
 Ite g
  (Q 1)
  (Cat c (⟨#[126]⟩:ByteArray) fun f=>
  uW.call b f fun a=>
  Ite (decide (a ≠ 0))
   (xB.s2 Q b c d a (decide (a ≠ 60)))
   (xB.s2 Q b c d a false))
def xB (b:Pt) (a:ByteArray) (c:Sl) (Q:Int→K): K :=
 Ite (decide ((a.size:Int) < 1))
  (xB.s1 Q b a c true)
  (xB.s1 Q b a c (decide ((15:Int) < (a.size:Int))))
theorem zLt (j k l Q w) (h:xB j k l Q w):xB.call j k l Q w:=by
 have:JH 5 fun D=>∃ a b c d,D [(0,.pointer a),(1,.string b),(2,Sl.val c),(7,.int .i64 d)] (fun C=>∀ m,C [(0,.pointer a),(1,.string b),(2,Sl.val c),(7,.int .i64 d),(25,.bool m)] (xB.s2 Q a b c d m)):=⟨fun _ ⟨_,_,_,_,h⟩=>⟨_,_,h⟩⟩
 have:JH 2 fun D=>∃ f g i,D [(0,.pointer f),(1,.string g),(2,Sl.val i)] (fun C=>∀ n,C [(0,.pointer f),(1,.string g),(2,Sl.val i),(15,.bool n)] (xB.s1 Q f g i n)):=⟨fun _ ⟨_,_,_,h⟩=>⟨_,_,h⟩⟩
 exact zS 48 h Tryz.func37
def zBL (g:Pt) (i:ByteArray) (Q:Sl→Int→K): K :=
 uw.call g i fun b a=>
 Ite (decide (a ≠ 0))
  (New 5 #[] fun c=>
  Q (Sl.mk (some c) 0 0) a)
  (yU.call b fun d f=>
  Q d f)
theorem zLu (a b Q w) (h:zBL a b Q w):zBL.call a b Q w:=by
 exact zS 22 h Tryz.func46
def uR.s2 (Q:Sl→K) (j:Sl→Int→K) (a k:Sl) (b l:Int): K :=
 Slc a b l (a.c:Int) 1 fun d=>
 jC.call d fun f m=>
 Do Tryz.prog (Builtin.append_ #[22,22] 22 #[Sl.val k,Sl.val f]) Sl.val fun g=>
 Ar (IntKind.wrap .i64 (b + 1024)) fun i=>
 j g i
def uR.b1 (Q:Sl→K) (f:Sl→Int→K) (a c:Sl) (b:Int): K :=
 Ite (decide (b < (a.n:Int)))
  (Ar (IntKind.wrap .i64 (b + 1024)) fun d=>
  Ite (decide ((a.n:Int) < d))
   (uR.s2 Q f a c b (a.n:Int))
   (uR.s2 Q f a c b d))
  (Q c)
def uR (a:Sl) (Q:Sl→K): K :=
 Ar (IntKind.wrap .u64 (a.n:Int)) fun b=>
 uK.call b fun c=>
 jC.call c fun d i=>
 yM (α:=Sl×Int) (fun X x=>uR.b1 Q (fun f g=>X (f,g)) a x.1 x.2) (d,0)
theorem zLv (g Q w) (h:uR g Q w):uR.call g Q w:=by
 have:∀ i,XH 3 i→JH 8 fun D=>∃ c d f,D [(0,Sl.val c),(3,Sl.val d),(5,.int .i64 f)] (fun C=>∀ j,C [(0,Sl.val c),(3,Sl.val d),(5,.int .i64 f),(6,.int .i64 j)] (uR.s2 Q (fun a b=>i (a,b)) c d f j)):=by intros; exact ⟨fun _ ⟨_,_,_,h⟩=>⟨_,_,h⟩⟩
 have:∀ k,LH 3 (fun x:Sl×Int=>[(0,Sl.val k),(3,Sl.val x.1),(5,.int .i64 x.2)]) (fun X x=>uR.b1 Q (fun a b=>X (a,b)) k x.1 x.2):=fun _=>⟨⟩
 exact zS 43 h Tryz.func73
def yU.s4 (Q:Sl→Int→K) (d:Int→Sl→K) (l:Sl) (f m:Int) (g i:Sl) (j:Int) (k:Bool): K :=
 Ite k
  (New 5 #[] fun a=>
  Q (Sl.mk (some a) 0 0) 61)
  (Do Tryz.prog (Builtin.append_ #[22,22] 22 #[Sl.val g,Sl.val i]) Sl.val fun b=>
  Ar (IntKind.wrap .i64 (f + j)) fun c=>
  d c b)
def yU.s3 (Q:Sl→Int→K) (b:Int→Sl→K) (c:Sl) (d f:Int) (g a:Sl) (i k l:Int): K :=
 Ite (decide (k ≠ 0))
  (yU.s4 Q b c d f g a i true)
  (Ar (IntKind.wrap .u64 (a.n:Int)) fun j=>
  yU.s4 Q b c d f g a i (decide (j ≠ l)))
def yU.b2 (Q:Sl→Int→K) (l:Int→Sl→K) (a:Sl) (d f:Int) (b:Sl): K :=
 Ar (IntKind.wrap .u64 (b.n:Int)) fun m=>
 Ite (decide (m < d))
  (Slc a f (a.n:Int) (a.c:Int) 1 fun o=>
  zAL.call o fun g i j=>
  Ar (IntKind.wrap .u64 (b.n:Int)) fun p=>
  Ar (IntKind.wrap .u64 (d - p)) fun k=>
  Ite (decide ((1024:Int) < k))
   (yU.s3 Q l a f d b g i j 1024)
   (yU.s3 Q l a f d b g i j k))
  (Ite (decide (f ≠ (a.n:Int)))
   (New 5 #[] fun q=>
   Q (Sl.mk (some q) 0 0) 61)
   (Q b 0))
def yU.s1 (Q:Sl→Int→K) (f:Sl) (g i:Int) (j:Bool): K :=
 Ite j
  (New 5 #[] fun a=>
  Q (Sl.mk (some a) 0 0) 61)
  (New 5 #[] fun b=>
  yM (α:=Int×Sl) (fun X x=>yU.b2 Q (fun c d=>X (c,d)) f i x.1 x.2) (g,(Sl.mk (some b) 0 0)))
def yU (a:Sl) (Q:Sl→Int→K): K :=
 zAL.call a fun f c g=>
 Ite (decide (g ≠ 0))
  (New 5 #[] fun i=>
  Q (Sl.mk (some i) 0 0) 61)
  (New 164 #[Sl.val f,.int .i64 0] fun d=>
  zf.call (some d) fun b j=>
  Ite (decide (j ≠ 0))
   (yU.s1 Q a c b true)
   (uf.call (some d) fun k=>
   Ite (decide (k ≠ 0))
    (yU.s1 Q a c b true)
    (Ar (IntKind.wrap .u64 (a.n:Int)) fun l=>
    yU.s1 Q a c b (decide (l < b)))))
theorem zJm (v Q w) (h:yU v Q w):yU.call v Q w:=by
 have:∀ c,XH 9 c→JH 15 fun D=>∃ d f g i j k,D [(0,Sl.val d),(5,.int .i64 f),(8,.int .u64 g),(10,Sl.val i),(11,Sl.val j),(12,.int .i64 k)] (fun C=>∀ y,C [(0,Sl.val d),(5,.int .i64 f),(8,.int .u64 g),(10,Sl.val i),(11,Sl.val j),(12,.int .i64 k),(76,.bool y)] (yU.s4 Q (fun a b=>c (a,b)) d f g i j k y)):=by intros; exact ⟨fun _ ⟨_,_,_,_,_,_,h⟩=>⟨_,_,h⟩⟩
 have:∀ c,XH 9 c→JH 14 fun D=>∃ l m n o p q r,D [(0,Sl.val l),(5,.int .i64 m),(8,.int .u64 n),(10,Sl.val o),(11,Sl.val p),(12,.int .i64 q),(13,.int .i64 r)] (fun C=>∀ z,C [(0,Sl.val l),(5,.int .i64 m),(8,.int .u64 n),(10,Sl.val o),(11,Sl.val p),(12,.int .i64 q),(13,.int .i64 r),(14,.int .u64 z)] (yU.s3 Q (fun a b=>c (a,b)) l m n o p q r z)):=by intros; exact ⟨fun _ ⟨_,_,_,_,_,_,_,h⟩=>⟨_,_,h⟩⟩
 have:∀ aa ab,LH 9 (fun x:Int×Sl=>[(0,Sl.val aa),(5,.int .i64 x.1),(8,.int .u64 ab),(10,Sl.val x.2)]) (fun X x=>yU.b2 Q (fun a b=>X (a,b)) aa ab x.1 x.2):=fun _ _=>⟨⟩
 have:JH 7 fun D=>∃ s t u,D [(0,Sl.val s),(5,.int .i64 t),(8,.int .u64 u)] (fun C=>∀ ac,C [(0,Sl.val s),(5,.int .i64 t),(8,.int .u64 u),(45,.bool ac)] (yU.s1 Q s t u ac)):=⟨fun _ ⟨_,_,_,h⟩=>⟨_,_,h⟩⟩
 exact zS 90 h Tryz.func91
end
section
open Go Go.Sep
abbrev zAA:Sl:=⟨none,0,0⟩
abbrev zDR (p:Int) (tb:Nat):List Value:=[.int .u64 p,.pointer (some ⟨tb,0,none⟩)]
abbrev zQk (vb tb rb:Nat) (p:Int) (Γ:List zB):List zB:=blk vb (.cells (zDR p tb).toArray qI (0,0))::blk tb (.cells [.pointer (some ⟨rb,0,none⟩),.int .i64 0].toArray zAU (0,0))::blk rb (.cells [zAA.val,zAA.val].toArray qg (0,0))::Γ
def zIz (vb:Nat) (p:Int):zB:=ex fun tb:Nat=>ex fun rb:Nat=>Sep.stars (zQk vb tb rb p [])
section
variable {B:World} {Γ Δ:List zB} {k Q:K} {vb:Nat} {p b:Int}
theorem zZr (h:∀ tb rb,HG B (zQk vb tb rb p Γ) k):HG B (zIz vb p::Γ) k:=zD3 fun tb=>zD3 fun rb=>zCY (h tb rb)
theorem zNz {tb rb:Nat} (h:HG B (zIz vb p::Γ) k):HG B (zQk vb tb rb p Γ) k:=fun w hw=>by
 refine h w ?_
 have h3:Holds B (Sep.stars (zQk vb tb rb p [])::Γ) w:=Holds.flat.2 hw
 exact h3.imp fun g hg=>⟨tb,rb,hg⟩
instance (priority:=high) zaO:Sep.Own vb (zIz vb p::Γ) (zIz vb p) Γ:=⟨.refl _⟩
theorem zSq {q:Option Addr→K} (h:∀ vb,HG B (zIz vb 0::Γ) (q (some ⟨vb,0,none⟩))):HG B Γ (uV.call q):=by
 refine fun w hw=>zCj _ _ ?_
 refine hg hw ?_
 clear hw w
 unfold uV
 refine fun w hw=>zAf _ _ ?_
 refine hg hw ?_
 clear hw w
 unfold vG
 refine ql fun rb=>?_
 refine ql fun tb=>?_
 refine ql fun vb=>?_
 refine zI (Δ:=zQk vb tb rb 0 Γ) ?_
 exact zNz (h vb)
theorem zQl {rb:Nat} {key:Int} {q:Int→Bool→K} (h:HG B (blk rb (.cells [zAA.val,zAA.val].toArray qg (0,0))::Γ) (q 0 false)) :
  HG B (blk rb (.cells [zAA.val,zAA.val].toArray qg (0,0))::Γ) (yX.call (some ⟨rb,0,none⟩) key q):=by
 refine fun w hw=>jX _ _ _ _ ?_
 refine hg hw ?_
 clear hw w
 unfold yX
 refine xM ?_
 refine yE (b:=rb) (l:=[zAA.val,zAA.val]) (x:=zAA) ?_
 refine fun w hw=>yx _ _ _ _ _ ?_
 refine hg hw ?_
 clear hw w
 unfold zA
 refine zNf (α:=Int×Int) (fun y=>y = (0,0)) (fun _=>0) rfl fun k' y hy hk'=>?_
 subst hy
 unfold zA.b1
 refine s_f ?_ (by rfl)
 refine s_f ?_ (by rfl)
 exact h
theorem zUo {rb kb:Nat} {key:Int} {y:Value} {q:Bool→K} (h:HG B (blk rb (.cells [zAA.val,zAA.val].toArray qg (0,0))::blk kb (.cells [.int .i64 key].toArray j3 (0,0))::Γ) (q true)) :
  HG B (blk rb (.cells [zAA.val,zAA.val].toArray qg (0,0))::blk kb (.cells [.int .i64 key].toArray j3 (0,0))::Γ) (zG.call (some ⟨rb,0,none⟩) (some ⟨kb,0,none⟩) y q):=by
 refine fun w hw=>jq _ _ _ _ _ ?_
 refine hg hw ?_
 clear hw w
 unfold zG
 refine s_t ?_ (by rfl)
 refine xM ?_
 refine yE (b:=kb) (l:=[.int .i64 key]) (x:=key) ?_
 refine zQl ?_
 unfold zG.s1
 refine zNf (α:=Option Addr×Int) (fun y=>y = (some ⟨kb,0,none⟩,0)∨y = (none,1)) (fun y=>1 - y.2.toNat) (.inl rfl) fun k' y hy hk'=>?_
 unfold zG.b2
 refine xM ?_
 refine yE (b:=rb) (l:=[zAA.val,zAA.val]) (x:=zAA) ?_
 rcases hy with rfl | rfl
 ·refine s_t ?_ (by rfl)
  refine yE (b:=rb) (off:=1) (l:=[zAA.val,zAA.val]) (x:=zAA) ?_
  refine s_f ?_ (by rfl)
  unfold zG.s3
  refine s_f ?_ (by rfl)
  refine zAQ ?_
  refine yE (b:=rb) (l:=[zAA.val,zAA.val]) (x:=zAA) ?_
  refine s_f ?_ (by rfl)
  unfold zG.s4
  refine s_f ?_ (by rfl)
  refine vI (show IntKind.wrap .i64 (0 + 1) = 1 by rfl) ?_
  exact hk' (none,1) (.inr rfl) (by simp)
 ·refine s_f ?_ (by rfl)
  exact h
theorem zPS {from':Int} {q:Sl→Bool→K} (hno:b < p→HG B (zIz vb p::Γ) (q zAA false)) (hyes:p ≤ b→HG B (zIz vb b::Γ) (q zAA true)):HG B (zIz vb p::Γ) (qE.call (some ⟨vb,0,none⟩) b from' q):=by
 refine fun w hw=>zAs _ _ _ _ _ ?_
 refine hg hw ?_
 clear hw w
 unfold qE
 refine ql fun out=>?_
 refine vH vb ?_
 refine zZr fun tb rb=>?_
 refine xM ?_
 refine yE (b:=vb) (l:=zDR p tb) (x:=p) ?_
 refine yA (fun hb=>?_) fun hb=>?_
 ·refine zAd (b:=out) (l:=[zAA.val]) (l':=[zAA.val]) ?_ rfl rfl
  refine yE (b:=out) (l:=[zAA.val]) (x:=zAA) ?_
  refine zI (Δ:=zQk vb tb rb p Γ) ?_
  exact zNz (hno (by simpa using hb))
 refine zAd (b:=vb) (l:=zDR p tb) (l':=zDR b tb) ?_ rfl rfl
 refine yE (b:=vb) (off:=1) (l:=zDR b tb) (x:=some ⟨tb,0,none⟩) ?_
 refine fun w hw=>jo _ _ _ _ ?_
 refine hg hw ?_
 clear hw w
 unfold qW
 refine ql fun c2=>?_
 refine ql fun kb=>?_
 refine zPC (cs:=[.pointer (some ⟨c2,0,none⟩),.pointer (some ⟨kb,0,none⟩)]) (by kernel_rfl) fun D l r hr hy=>?_
 refine fun w hw=>zHN (jW _ _ _ _ w ?_) fun v w h=>h.2
 refine hg hw ?_
 clear hw w
 unfold xZ
 refine yE (b:=c2) (l:=[.pointer (some ⟨tb,0,none⟩)]) (x:=some ⟨tb,0,none⟩) ?_
 refine xM ?_
 refine yE (b:=tb) (l:=[.pointer (some ⟨rb,0,none⟩),.int .i64 0]) (x:=some ⟨rb,0,none⟩) ?_
 refine vH kb ?_
 refine vH rb ?_
 refine zUo ?_
 refine vH l ?_
 refine zUY ?_
 refine yE (b:=out) (l:=[zAA.val]) (x:=zAA) ?_
 refine zAd (b:=out) (l:=[zAA.val]) (l':=[zAA.val]) ?_ rfl rfl
 refine zRn ?_
 refine yE (b:=out) (l:=[zAA.val]) (x:=zAA) ?_
 refine zI (Δ:=zQk vb tb rb b Γ) ?_
 exact zNz (hyes (by simpa using hb))
def zAH (n:Nat):List UInt8:=1::vM n
theorem zQm {n:Nat} {s:Sl} {q:Bool→K} (hn:n < 18446744073709551616) (hp:p ≤ n) (hr:∀ w,Holds B Γ w→RdB w s (zAH n)) (h:HG B (zIz vb (n:Int)::Γ) (q true)):HG B (zIz vb p::Γ) (ze.call (some ⟨vb,0,none⟩) s q):=by
 refine fun w hw=>zDq _ _ _ _ ?_
 refine hg hw ?_
 clear hw w
 have hnl:=xO 9 n (by omega)
 unfold ze
 refine zGA (xs:=zAH n) (by unfold zAH; simp; omega) (fun w hw=>hr w hw.tail) fun e=>?_
 refine zG2 (b:=1) (rest:=vM n) rfl ?_
 refine s_t ?_ (by rfl)
 refine zMX (n:=n) (rest:=[]) hn (by simp) (by omega) ?_
 refine s_t ?_ (by rfl)
 refine zEP ?_
 rw [if_pos rfl]
 unfold ze.s2
 refine s_t ?_ (by rfl)
 refine vH vb ?_
 refine zPS (fun h1=>by omega) fun _=>?_
 unfold ze.s1
 exact zI h
end
end
section
open Go Go.Sep Go.Sep.Bt
noncomputable def btV:BtW Int where
 P:=Tryz.prog
 tI:=zB5
 tSI:=zBg
 tV:=yB
 tK:=zBf
 tSK:=zBV
 tN:=qg
 tT:=zAU
 nv:=3
 kz:=.int .i64 0
 vz:=[.int .i64 0,.int .u64 0,.string ⟨#[]⟩]
 kV:=Value.int .i64
 cv:=.func (.func 144) #[] #[]
 bsC:=zA.call
 nsearchC:=yX.call
 nputC:=zQ.call
 insIC:=zV.call
 insKC:=zi.call
 cloneIC:=zn.call
 cloneKC:=zo.call
 fAll:=0
 tPT:=zAK
 nwalkC:=zG.call
def zDe (a b:Int):Int:=if a < b then -1 else if b < a then 1 else 0
theorem zCE {a b:Int}:zDe a b < 0 ↔ a < b:=by unfold zDe; split <;> (try split) <;> omega
theorem zUp {a b:Int}:0 < zDe a b ↔ b < a:=by unfold zDe; split <;> (try split) <;> omega
theorem zSr {a b:Int}:zDe a b = 0 ↔ a = b:=by unfold zDe; split <;> (try split) <;> omega
theorem zJP {B:World} {Γ:List zB} {x:Int} {q:Bool→K} (h:HG B Γ (q false)):HG B Γ (cmp_isNaN_int.call x q):=fun w hw=>zIw _ _ _ (by unfold cmp_isNaN_int; simpa using h w hw)
theorem zLw {B:World} {Γ:List zB} {x y:Int} {q:Int→K} (h:HG B Γ (q (zDe x y))):HG B Γ (cmp_Compare_int.call x y q):=fun w hw=>by
 refine zG6 _ _ _ _ ?_
 refine hg hw ?_
 unfold cmp_Compare_int
 refine zJP (zJP ?_)
 refine s_f ?_ rfl
 refine s_f ?_ rfl
 unfold zDe at h
 refine yA (fun h1=>?_) fun h1=>?_
 ·rw [if_pos (by simpa using h1)] at h; exact h
 rw [if_neg (by simpa using h1)] at h
 refine yA (fun h2=>?_) fun h2=>?_
 ·rw [if_pos (by simpa using h2)] at h; exact h
 ·rw [if_neg (by simpa using h2)] at h; exact h
theorem zQn:BtOk btV.toBtT zDe where
 kf:=fun _=>rfl
 kzf:=rfl
 vz:=⟨rfl,rfl⟩
 TI:=by kernel_rfl
 ZI:=by kernel_rfl
 TK:=by kernel_rfl
 ZK:=by kernel_rfl
 tr:=fun h1 h2=>zCE.2 (Int.lt_trans (zCE.1 h1) (zCE.1 h2))
 eq:=zSr
 sw:=by intro a b; rw [zCE,zUp]
 cmp:=fun a b vs q hl h=>by
  refine zWI ?_
  refine fun w hw=>zA1 _ _ _ _ ?_
  refine hg hw ?_
  clear hw w
  unfold xP
  refine ql fun t=>?_
  refine yE (b:=t) (x:=a) ?_
  refine zLw ?_
  exact zI h
 bs:=fun s k Q w h=>yx _ _ _ _ _ h
 search:=fun n k Q w h=>jX _ _ _ _ h
 put:=fun n x Q w h=>zBY _ _ _ _ h
 insI:=⟨_,_,fun s i v Q w h=>vO _ _ _ _ _ h⟩
 zQY:=⟨_,_,fun s i v Q w h=>vP _ _ _ _ _ h⟩
 cloneI:=fun s Q w h=>vS _ _ _ h
 zGw:=fun s Q w h=>vT _ _ _ h
theorem zWV:zRo btV zDe where
 toBtOk:=zQn
 walk:=fun n f y Q w h=>jq _ _ _ _ _ h
end
section
open Go Go.Sep Go.Sep.Bt
abbrev qU:=Int×Int×List UInt8
abbrev qo (v:qU):List Value:=[.int .i64 v.1,.int .u64 v.2.1,zAR v.2.2]
theorem zCF (v:qU):(qo v).length = 3:=rfl
def itV (v:qU):btV.It:=(v.1,⟨qo v,rfl,rfl⟩)
def zBE (x:qU):List qU→List qU
 | []=>[x]
 | y::L=>if x.1 < y.1 then x::y::L else if x.1 = y.1 then x::L else y::zBE x L
theorem zPT {x o:qU} {C:List qU} (ho:o.1 = x.1):∀ {A:List qU},(∀ y ∈ A,y.1 < x.1)→zBE x (A++o::C) = A++x::C
 | [],_=>by simp [zBE,ho]
 | y::A,h=>by
  have h1:=h y (by simp)
  show zBE x (y::(A++o::C)) = _
  rw [zBE,if_neg (by omega),if_neg (by omega),zPT ho fun z hz=>h z (by simp [hz])]
  rfl
theorem zPU {x:qU} {C:List qU} (hC:∀ y ∈ C,x.1 < y.1):∀ {A:List qU},(∀ y ∈ A,y.1 < x.1)→zBE x (A++C) = A++x::C
 | [],_=>by
  cases C with
  | nil=>rfl
  | cons y C=>show zBE x (y::C) = _; rw [zBE,if_pos (hC y (by simp))]; rfl
 | y::A,h=>by
  have h1:=h y (by simp)
  show zBE x (y::(A++C)) = _
  rw [zBE,if_neg (by omega),if_neg (by omega),zPU hC fun z hz=>h z (by simp [hz])]
  rfl
def zFp (V:List qU):Prop:=V.Pairwise fun x y=>x.1 < y.1
theorem zSs {V:List qU} (h:Srt zDe (V.map itV)):zFp V:=by
 unfold Srt at h
 rw [List.pairwise_map] at h
 exact h.imp fun h=>zCE.1 h
theorem zSt {V:List qU} {x:qU} {L':List btV.It} {old:Cel btV.nv} {had:Bool} (hs:zFp V) (h:zGO zDe (btV.z0 zQn.vz) (V.map itV) x.1 ⟨qo x,rfl,rfl⟩ L' old had):L' = (zBE x V).map itV:=by
 rcases h with ⟨A,C,h1,rfl,_⟩ | ⟨A,C,h1,h2,h3,rfl,_,_⟩
 ·obtain ⟨A',R,rfl,rfl,h4⟩:=List.map_eq_append_iff.1 h1
  obtain ⟨o,C',rfl,h5,rfl⟩:=List.map_eq_cons_iff.1 h4
  have ho:o.1 = x.1:=congrArg (fun z:btV.It=>z.1) h5
  have hA:∀ y ∈ A',y.1 < x.1:=fun y hy=>by
   have:=(List.pairwise_append.1 hs).2.2 y hy o (by simp)
   omega
  rw [zPT ho hA]
  simp [itV]
 ·obtain ⟨A',C',rfl,rfl,rfl⟩:=List.map_eq_append_iff.1 h1
  rw [zPU (fun y hy=>zCE.1 (h3 (itV y) (List.mem_map.2 ⟨y,hy,rfl⟩))) fun y hy=>zCE.1 (h2 (itV y) (List.mem_map.2 ⟨y,hy,rfl⟩))]
  simp [itV]
def jv (n:Int) (V:List qU):List qU:=V.dropWhile fun v=>decide (v.1 < n)
theorem zFq (n:Int):∀ {V:List qU},zFp V→∃ A,V = A++jv n V∧(∀ v ∈ A,v.1 < n)∧∀ v ∈ jv n V,n ≤ v.1
 | [],_=>⟨[],rfl,by simp,by simp [jv]⟩
 | v::V,h=>by
  by_cases hv:v.1 < n
  ·obtain ⟨A,h1,h2,h3⟩:=zFq n (List.pairwise_cons.1 h).2
   have e:jv n (v::V) = jv n V:=by simp [jv,List.dropWhile_cons,hv]
   refine ⟨v::A,by rw [e,List.cons_append,← h1],fun x hx=>?_,by rw [e]; exact h3⟩
   rcases List.mem_cons.1 hx with rfl | hx
   ·exact hv
   ·exact h2 x hx
  ·have e:jv n (v::V) = v::V:=by simp [jv,List.dropWhile_cons,hv]
   refine ⟨[],by rw [e]; rfl,by simp,fun x hx=>?_⟩
   rw [e] at hx
   rcases List.mem_cons.1 hx with rfl | hx
   ·omega
   ·have:=(List.pairwise_cons.1 h).1 x hx; omega
def zAu (vb:Nat) (p:Int) (V:List qU):zB:=ex fun tb:Nat=>Sep.stars [blk vb (.cells (zDR p tb).toArray qI (0,0)),zA8 btV.toBtT zDe tb (V.map itV)]
section
variable {B:World} {Γ Δ:List zB} {k Q:K} {vb:Nat} {p b:Int} {V:List qU}
theorem zN0 (h:∀ tb,HG B (blk vb (.cells (zDR p tb).toArray qI (0,0))::zA8 btV.toBtT zDe tb (V.map itV)::Γ) k):HG B (zAu vb p V::Γ) k:=zD3 fun tb=>zCY (h tb)
theorem zDS {tb:Nat} (h:HG B (zAu vb p V::Γ) k):HG B (blk vb (.cells (zDR p tb).toArray qI (0,0))::zA8 btV.toBtT zDe tb (V.map itV)::Γ) k:=fun w hw=>by
 refine h w ?_
 have h3:Holds B (Sep.stars [blk vb (.cells (zDR p tb).toArray qI (0,0)),zA8 btV.toBtT zDe tb (V.map itV)]::Γ) w:=Holds.flat.2 hw
 exact h3.imp fun g hg=>⟨tb,hg⟩
instance (priority:=high) zZs:Sep.Own vb (zAu vb p V::Γ) (zAu vb p V) Γ:=⟨.refl _⟩
theorem zRz (h:zFp V→HG B (zAu vb p V::Γ) k):HG B (zAu vb p V::Γ) k:=zN0 fun tb=>by
 refine vD ?_
 refine zUV fun hs=>?_
 refine vD ?_
 exact zDS (h (zSs hs))
theorem zQo {q:Option Addr→K} (h:∀ vb,HG B (zAu vb 0 []::Γ) (q (some ⟨vb,0,none⟩))):HG B Γ (uV.call q):=by
 refine fun w hw=>zCj _ _ ?_
 refine hg hw ?_
 clear hw w
 unfold uV
 refine fun w hw=>zAf _ _ ?_
 suffices hh:HG B Γ (zYK btV.toBtT fun t1=>New qI #[Value.int IntKind.u64 0,Value.pointer t1] fun t3=>q t3) from hh w hw
 clear hw w
 refine zSd (c:=zDe) fun tb=>?_
 refine ql fun vb=>?_
 exact zDS (V:=[]) (h vb)
theorem zC6 {q:Int→K} (h:HG B (zAu vb p V::Γ) (q p)):HG B (zAu vb p V::Γ) (qA.call (some ⟨vb,0,none⟩) q):=by
 refine fun w hw=>zCP _ _ _ ?_
 refine hg hw ?_
 clear hw w
 unfold qA
 refine zN0 fun tb=>?_
 refine xM ?_
 refine yE (b:=vb) (l:=zDR p tb) (x:=p) ?_
 exact zDS h
theorem zK6 {v:qU} {q:Bool→K} (hV:V.length < 1000000) (hno:(v.2.1 < p∨v.1 < 0∨64 ≤ v.1)→HG B (zAu vb p V::Γ) (q false)) (hyes:p ≤ v.2.1→0 ≤ v.1→v.1 < 64→HG B (zAu vb v.2.1 (zBE v V)::Γ) (q true)) :
  HG B (zAu vb p V::Γ) (yO.call (some ⟨vb,0,none⟩) (qo v).toArray q):=by
 refine zRz fun hs=>?_
 refine fun w hw=>zCk _ _ _ _ ?_
 refine hg hw ?_
 clear hw w
 unfold yO
 refine ql fun c=>?_
 refine vH vb ?_
 refine zN0 fun tb=>?_
 have no:(v.2.1 < p∨v.1 < 0∨64 ≤ v.1)→HG B (blk vb (.cells (zDR p tb).toArray qI (0,0))::zA8 btV.toBtT zDe tb (V.map itV)::blk c (.cells (qo v).toArray yB (0,0))::Γ) (q false):=fun h=>zDS (zI (Δ:=zAu vb p V::Γ) (hno h))
 refine zAQ ?_
 refine yE (b:=c) (off:=1) (l:=qo v) (x:=v.2.1) ?_
 refine xM ?_
 refine yE (b:=vb) (l:=zDR p tb) (x:=p) ?_
 unfold yO.s1
 refine yA (fun h1=>?_) fun h1=>?_
 ·refine s_t ?_ (by rfl)
  exact no (.inl (by simpa using h1))
 refine yE (b:=c) (l:=qo v) (x:=v.1) ?_
 refine yA (fun h2=>?_) fun h2=>?_
 ·refine s_t ?_ (by rfl)
  exact no (.inr (.inl (by simpa using h2)))
 refine yE (b:=c) (l:=qo v) (x:=v.1) ?_
 refine yA (fun h3=>?_) fun h3=>?_
 ·exact no (.inr (.inr (by simpa using h3)))
 simp only [decide_eq_false_iff_not] at h1 h2 h3
 refine yE (b:=c) (off:=1) (l:=qo v) (x:=v.2.1) ?_
 refine xM ?_
 refine zAd (b:=vb) (l:=zDR p tb) (l':=zDR v.2.1 tb) ?_ rfl rfl
 refine zAQ ?_
 refine yE (b:=vb) (off:=1) (l:=zDR v.2.1 tb) (x:=some ⟨tb,0,none⟩) ?_
 refine yE (b:=c) (l:=qo v) (x:=v.1) ?_
 refine zDH (b:=c) (off:=0) (l:=qo v) (l':=qo v) ?_ rfl rfl
 refine zI (Δ:=zA8 btV.toBtT zDe tb (V.map itV)::blk vb (.cells (zDR v.2.1 tb).toArray qI (0,0))::Γ) ?_
 refine fun w hw=>zBX _ _ _ _ _ ?_
 refine show zYM btV.toBtT (some ⟨tb,0,none⟩) v.1 (qo v).toArray _ w from hg hw (zSe zQn (v:=⟨qo v,rfl,rfl⟩) (by rw [List.length_map]; omega) fun L' old had hp=>?_)
 rw [zSt hs hp]
 refine vD ?_
 exact zDS (hyes (by omega) (by omega) (by omega))
def zQp (out n0:Nat) (V:List qU) (i:Nat):zB:=ex fun s:Sl=>Sep.stars [pur (n0 ≤ i),blk out (.cells [s.val].toArray jA (0,0)),SlC yB 3 s (((V.take i).drop n0).flatMap qo)]
theorem zUq {out n0 i:Nat} (h:∀ s:Sl,n0 ≤ i→HG B (blk out (.cells [s.val].toArray jA (0,0))::SlC yB 3 s (((V.take i).drop n0).flatMap qo)::Γ) k):HG B (zQp out n0 V i::Γ) k:=zD3 fun s=>zCY (zHd fun h1=>h s h1)
theorem zPV {out n0 i:Nat} {s:Sl} (h1:n0 ≤ i) (h:HG B (zQp out n0 V i::Γ) k):HG B (blk out (.cells [s.val].toArray jA (0,0))::SlC yB 3 s (((V.take i).drop n0).flatMap qo)::Γ) k:=fun w hw=>by
 refine h w ?_
 have h3:Holds B (Sep.stars [pur (n0 ≤ i),blk out (.cells [s.val].toArray jA (0,0)),SlC yB 3 s (((V.take i).drop n0).flatMap qo)]::Γ) w:=Holds.flat.2 (Holds.pur.2 ⟨h1,hw⟩)
 exact h3.imp fun g hg=>⟨s,hg⟩
instance (priority:=high) zZt {out n0 i:Nat}:Sep.Own out (zQp out n0 V i::Γ) (zQp out n0 V i) Γ:=⟨.refl _⟩
theorem zFr {n:Int} {q:Sl→Bool→K} (hV:V.length < 1000000) (hno:b < p→HG B (zAu vb p V::Γ) (q zAA false)) (hyes:p ≤ b→∀ s,HG B (SlC yB 3 s ((jv n V).flatMap qo)::zAu vb b V::Γ) (q s true)):HG B (zAu vb p V::Γ) (qE.call (some ⟨vb,0,none⟩) b n q):=by
 refine zRz fun hs=>?_
 obtain ⟨A,hA,hlt,hge⟩:=zFq n hs
 refine fun w hw=>zAs _ _ _ _ _ ?_
 refine hg hw ?_
 clear hw w
 unfold qE
 refine ql fun out=>?_
 refine vH vb ?_
 refine zN0 fun tb=>?_
 refine xM ?_
 refine yE (b:=vb) (l:=zDR p tb) (x:=p) ?_
 refine yA (fun hb=>?_) fun hb=>?_
 ·refine zAd (b:=out) (l:=[zAA.val]) (l':=[zAA.val]) ?_ rfl rfl
  refine yE (b:=out) (l:=[zAA.val]) (x:=zAA) ?_
  refine zI (Δ:=blk vb (.cells (zDR p tb).toArray qI (0,0))::zA8 btV.toBtT zDe tb (V.map itV)::Γ) ?_
  exact zDS (hno (by simpa using hb))
 refine zAd (b:=vb) (l:=zDR p tb) (l':=zDR b tb) ?_ rfl rfl
 refine yE (b:=vb) (off:=1) (l:=zDR b tb) (x:=some ⟨tb,0,none⟩) ?_
 refine fun w hw=>jo _ _ _ _ ?_
 refine hg hw ?_
 clear hw w
 unfold qW
 refine ql fun cb=>?_
 refine ql fun kb=>?_
 refine fun w hw=>hg (show Holds B (SlC yB 3 zAA (((V.take A.length).drop A.length).flatMap qo)::_) w from by
  rw [show ((V.take A.length).drop A.length) = [] by simp]
  exact hw.zAv _ _) ?_
 clear hw w
 refine zI (Δ:=blk out (.cells [zAA.val].toArray jA (0,0))::SlC yB 3 zAA (((V.take A.length).drop A.length).flatMap qo)::blk cb (.cells [.pointer (some ⟨tb,0,none⟩)].toArray zAK (0,0))::blk kb (.cells [.int .i64 n].toArray j3 (0,0))::zA8 btV.toBtT zDe tb (V.map itV)::blk vb (.cells (zDR b tb).toArray qI (0,0))::Γ) ?_
 refine zPV (Nat.le_refl _) ?_
 have hl1:A.length = (A.map itV).length:=by rw [List.length_map]
 show HG B (zQp out A.length V A.length::_) _
 refine fun w hw=>hg (show Holds B (zQp out A.length V (A.map itV).length::_) w from by rw [← hl1]; exact hw) ?_
 clear hw w
 refine zSh (G:=btV) zWV (tq:=j3) (by kernel_rfl) (fun y a b Q w h=>zHN (jW y a b Q w h) fun v w h=>h.2) (F:=zQp out A.length V) (E:=pur False) (L:=V.map itV) (L1:=A.map itV) (L2:=(jv n V).map itV) (by rw [← List.map_append,← hA]) (fun x hx=>?_) (fun x hx=>?_) (fun i x hx l r kN kJ Δ hr hN hJ=>?_) (fun D=>?_) fun D=>zHd fun hf=>hf.elim
 ·obtain ⟨v,hv,rfl⟩:=List.mem_map.1 hx
  exact zCE.2 (hlt v hv)
 ·obtain ⟨v,hv,rfl⟩:=List.mem_map.1 hx
  intro h1
  have:=zCE.1 h1
  have:=hge v hv
  simp only [itV] at *
  omega
 ·obtain ⟨v,hv,rfl⟩:∃ v,V[i]? = some v∧itV v = x:=by
   have h0:(V.map itV)[i]? = some (x:btV.It):=hx
   rw [List.getElem?_map] at h0
   exact Option.map_eq_some_iff.1 h0
  have hil:i < V.length:=(List.getElem?_eq_some_iff.1 hv).1
  refine ql fun r9=>?_
  refine zDI (b:=r9) (l':=qo v) ?_ rfl rfl (by rfl)
  refine zUZ ?_
  refine vH out ?_
  refine zUq fun s hi=>?_
  have htk:(V.take (i + 1)).drop A.length = (V.take i).drop A.length++[v]:=by
   rw [List.take_succ_eq_append_getElem hil,(List.getElem?_eq_some_iff.1 hv).2,List.drop_append_of_le_length (by rw [List.length_take]; omega)]
  refine vw s fun a1 a2 a3 a4=>?_
  rw [yu _ 3 zCF] at a1
  have hle:((V.take i).drop A.length).length ≤ V.length:=by simp; omega
  refine yE (b:=out) (l:=[s.val]) (x:=s) ?_
  refine zDH (b:=r9) (off:=0) (l:=qo v) (l':=qo v) ?_ rfl rfl
  refine zGu (zero:=[.int .i64 0,.int .u64 0,.string ⟨#[]⟩]) ?_ rfl rfl
  refine zKe (m:=1) (us:=qo v) (fun s2 hs2=>?_) (by omega)
  rw [show ((V.take i).drop A.length).flatMap qo++qo v = ((V.take (i + 1)).drop A.length).flatMap qo by rw [htk]; simp]
  refine zAd (b:=out) (l:=[s.val]) (l':=[s2.val]) ?_ rfl rfl
  refine zYR hr ?_
  refine zI (Δ:=blk out (.cells [s2.val].toArray jA (0,0))::SlC yB 3 s2 (((V.take (i + 1)).drop A.length).flatMap qo)::blk l (.loop r)::Δ) ?_
  exact zPV (by omega) hN
 ·refine zUq fun s _=>?_
  have e9:(V.take (V.map itV:List btV.It).length).drop A.length = jv n V:=by
   have e1:(V.map itV:List btV.It).length = V.length:=List.length_map ..
   rw [e1,List.take_length]
   conv=>lhs; rw [hA]
   simp
  rw [e9]
  refine yE (b:=out) (l:=[s.val]) (x:=s) ?_
  refine zAd (b:=out) (l:=[s.val]) (l':=[s.val]) ?_ rfl rfl
  refine zRn ?_
  refine yE (b:=out) (l:=[s.val]) (x:=s) ?_
  refine zI (Δ:=blk vb (.cells (zDR b tb).toArray qI (0,0))::zA8 btV.toBtT zDe tb (V.map itV)::SlC yB 3 s ((jv n V).flatMap qo)::Γ) ?_
  refine zDS ?_
  exact vD (hyes (by simpa using hb) s)
end
end
end Go.Proofs.YtgmbfnboiobeaaaGreat
namespace Go.Sep
section
open Go Go.RowKit
section
variable {P:Program} {B:World} {Γ Δ:List zB} {E esz:Nat} {s:Sl} {vs:List Value}
end
end
section
open Go Go.RowKit
section
variable {B:World} {Γ Δ:List zB} {k:K}
theorem zUr (us l:List Value) (off:Nat) (h:off + us.length ≤ l.length):(us.zipIdx off).foldl (fun (c:Array Value) q=>c.setIfInBounds q.2 q.1) l.toArray = (l.take off++us++l.drop (off + us.length)).toArray:=by
 apply Array.ext
 ·rw [fold_size]
  simp; omega
 intro i h1 h2
 rw [fold_size] at h1
 simp only [List.size_toArray] at h1
 have e:∀ (a b:Array Value) (ha:i < a.size) (hb:i < b.size),a[i]? = b[i]?→a[i] = b[i]:=fun a b ha hb hab=>by
  rw [Array.getElem?_eq_getElem ha,Array.getElem?_eq_getElem hb] at hab
  exact Option.some.inj hab
 have e2:∀ L:List Value,L.toArray[i]? = L[i]?:=fun L=>by simp
 apply e
 rw [e2 (l.take off++us++l.drop (off + us.length)),List.append_assoc,List.getElem?_append]
 split
 ·rename_i h3
  simp only [List.length_take] at h3
  rw [zDG _ _ _ _ (by omega),List.getElem?_take,if_pos (by omega),e2 l]
 ·rename_i h3
  simp only [List.length_take] at h3 ⊢
  rw [show min off l.length = off by omega] at h3 ⊢
  rw [List.getElem?_append]
  split
  ·rename_i h4
   have h5:=zJ5 us off l.toArray (i - off) h4 (by simp only [List.size_toArray]; omega)
   rw [show off + (i - off) = i by omega] at h5
   exact h5
  ·rename_i h4
   rw [zDG _ _ _ _ (by omega),List.getElem?_drop,e2 l,show off + us.length + (i - off - us.length) = i by omega]
theorem zYY {a:Addr} {b off n:Nat} {l us:List Value} {T:TypeId} (l':List Value) (h:HG B (blk b (.cells l'.toArray T (0,0))::Δ) k) [ad:zCv a b off] [p:Own b Γ (blk b (.cells l.toArray T (0,0))) Δ] (hn:us.length = n:=by rfl) (ho:off + n ≤ l.length:=by exact Nat.le_of_ble_eq_true rfl) (hl:l.take off++us++l.drop (off + n) = l':=by rfl)
  (hf:us.all qC = true:=by rfl):HG B Γ (StN a n us.toArray k):=fun w hw=>by
 subst hn
 subst hl
 have h1:=hw.perm p.perm
 have hb:=h1.block
 rw [ad.h]
 refine ⟨_,rfl,by simp,fun i hi=>?_,by simpa using zHc hf,h _ ?_⟩
 ·simp only [List.size_toArray] at hi
  rw [zR]
  have hlt:off + i < l.toArray.size:=by simp only [List.size_toArray]; omega
  exact ⟨⟨_,uz hb (Array.getElem?_eq_getElem hlt)⟩,zBT hb (by omega)⟩
 ·rw [zBd _ _ _ _ _ hb,Nat.add_zero]
  have:=zUr us l off ho
  simp only at this ⊢
  rw [this]
  exact h1.setBlock rfl
end
end
end Go.Sep
