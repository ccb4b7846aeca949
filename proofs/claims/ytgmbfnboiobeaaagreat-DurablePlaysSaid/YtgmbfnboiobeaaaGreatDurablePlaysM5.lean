/- Texts of the claim DurablePlays, one behind the other. -/
import Derived.Test.YtgmbfnboiobeaaaGreatDurablePlaysM4
import Derived.Lib.ConvBytes
set_option linter.all false
set_option maxRecDepth 100000
namespace Go.Proofs.YtgmbfnboiobeaaaGreat
section
open Go Go.Sep
def j5 (D:zC) (clock:Nat) (b:List UInt8):zC×Nat×Bool×Int :=
 if (qm b).2.1 ≠ 0∨(xR (qm b).2.2).2.1 ≠ 0∨1 < (xR (qm b).2.2).1∨(xR (qm b).2.2).2.2 ≠ [] then (D,0,false,61)
 else if max (qm b).1 clock = 18446744073709551615 then (D,0,false,111)
 else ((D.save uD (xg (max (qm b).1 clock + 1) (decide ((xR (qm b).2.2).1 = 1)))).1,max (qm b).1 clock + 1,decide ((xR (qm b).2.2).1 = 1),(D.save uD (xg (max (qm b).1 clock + 1) (decide ((xR (qm b).2.2).1 = 1)))).2)
noncomputable def uN (D:zC) (clock:Nat):zC×Nat×Bool×Int :=
 if (zBS (D.read uD)).2 = 60 then j5 D clock (xg 0 false) else if (zBS (D.read uD)).2 ≠ 0 then (D,0,false,(zBS (D.read uD)).2) else j5 D clock (zBS (D.read uD)).1
theorem zPy (r:List UInt8):0 ≤ (xR r).1∧(xR r).1 < 256:=by
 cases r with
 | nil=>simp [xR]
 | cons b r=>have:=b.toNat_lt; simp only [xR]; omega
theorem zMv (r:List UInt8×Int):(zBS r).1.length ≤ r.1.length:=by
 unfold zBS
 split
 ·simp
 split
 ·rename_i h
  have:=h.choose_spec
  have h2:=zSB h.choose
  rw [this] at h2
  exact h2
 ·simp
section
variable {B:World} {Γ Δ:List zB} {k:K} {d kp mb:Nat} {D:zC}
theorem zMw {clock:Nat} {s:Sl} {b:List UInt8} {q:Int→K} (hD:OkD D) (hc:clock < 18446744073709551616) (hl:b.length ≤ 100000)
  (hno:(j5 D clock b).2.2.2 ≠ 0→HG B (zJ d (j5 D clock b).1::Γ) (q (j5 D clock b).2.2.2))
  (hyes:(j5 D clock b).2.2.2 = 0→OkD (j5 D clock b).1→HG B (KpR kp d (j5 D clock b).2.1 (j5 D clock b).2.2.1 mb::zJ d (j5 D clock b).1::Γ) (q 0)) :
  HG B (Bytes zF s b::KpR kp d 0 false mb::zJ d D::Γ) (za.s1 q ⟨kp,0,none⟩ (clock:Int) s):=by
 have hn:=zCd b
 have hy:=zPy (qm b).2.2
 unfold za.s1
 refine zGA (xs:=b) (by omega) (fun w hw=>(uL (s:=s) hw).1) fun e=>?_
 refine zEu (by omega) ?_
 unfold j5 at hno hyes
 generalize qm b = N at *
 refine zJQ ?_
 generalize xR N.2.2 = Y at *
 have hmx:(if (clock:Int) > (N.1:Int) then (clock:Int) else (N.1:Int)) = ((max N.1 clock:Nat):Int):=by split <;> omega
 refine vI hmx ?_
 have bad:∀ {xs:List UInt8},(N.2.1 ≠ 0∨Y.2.1 ≠ 0∨1 < Y.1∨Y.2.2 ≠ [])→HG B (zEO e xs::Bytes zF s b::KpR kp d 0 false mb::zJ d D::Γ) (za.s2 q ⟨kp,0,none⟩ ((max N.1 clock:Nat):Int) Y.1 true):=fun {xs} h=>by
  rw [if_pos h] at hno
  unfold za.s2
  refine s_t ?_ (by rfl)
  exact zI (Δ:=zJ d D::Γ) (hno (by simp))
 refine yA (fun c0=>bad (.inl (by simpa using c0))) fun c0=>?_
 refine yA (fun c1=>bad (.inr (.inl (by simpa using c1)))) fun c1=>?_
 refine yA (fun c2=>bad (.inr (.inr (.inl (by simpa using c2))))) fun c2=>?_
 refine zEP ?_
 by_cases c3:Y.2.2 = []
 rotate_left
 ·rw [if_neg c3]
  exact bad (.inr (.inr (.inr c3)))
 rw [if_pos c3]
 have hgood:¬ (N.2.1 ≠ 0∨Y.2.1 ≠ 0∨1 < Y.1∨Y.2.2 ≠ []):=by
  simp only [ne_eq,decide_eq_false_iff_not,Decidable.not_not] at c0 c1 c2
  rintro (h | h | h | h)
  ·exact h c0
  ·exact h c1
  ·omega
  ·exact h c3
 rw [if_neg hgood] at hno hyes
 unfold za.s2
 refine s_f ?_ (by rfl)
 have hml:max N.1 clock < 18446744073709551616:=by omega
 generalize max N.1 clock = mx at *
 refine yA (fun c4=>?_) fun c4=>?_
 ·have c4':mx = 18446744073709551615:=by simp only [decide_eq_true_eq] at c4; omega
  rw [if_pos c4'] at hno
  exact zI (Δ:=zJ d D::Γ) (hno (by simp))
 have c4':¬ mx = 18446744073709551615:=by simp only [decide_eq_false_iff_not] at c4; omega
 rw [if_neg c4'] at hno hyes
 simp only at hno hyes
 generalize hv:decide (Y.1 = 1) = v at *
 refine vI (show IntKind.wrap .u64 ((mx:Int) + 1) = ((mx + 1:Nat):Int) by rw [xI (by omega) (by omega)]; push_cast; rfl) ?_
 refine zAd (b:=kp) (off:=1) (l:=kpL d 0 false mb) (l':=kpL d (mx + 1) false mb) ?_ rfl rfl
 refine zAd (b:=kp) (off:=2) (l:=kpL d (mx + 1) false mb) (l':=kpL d (mx + 1) v mb) ?_ rfl rfl
 refine zAQ ?_
 refine zKk [KpR kp d (mx + 1) v mb] ?_
 refine jR (b:=kp) (l:=kpL d (mx + 1) v mb) (x:=some ⟨d,0,none⟩) ?_
 refine jR (b:=kp) (off:=1) (l:=kpL d (mx + 1) v mb) (x:=((mx + 1:Nat):Int)) ?_
 refine jR (b:=kp) (off:=2) (l:=kpL d (mx + 1) v mb) (x:=v) ?_
 refine zIB (ep:=mx + 1) (by omega) fun s2=>?_
 refine zBb ?_
 refine jF (zJ d D) ?_
 refine vw s2 fun a1 a2 a3 a4=>?_
 refine zKG (n:=uD) hD (by have:=zBZ (ep:=mx + 1) (v:=v) (by omega); omega) a2 (fun w hw=>(uL (s:=s2) hw).1) fun ho=>?_
 by_cases h0:(D.save uD (xg (mx + 1) v)).2 = 0
 ·rw [h0]
  exact zI (Δ:=KpR kp d (mx + 1) v mb::zJ d (D.save uD (xg (mx + 1) v)).1::Γ) (hyes h0 ho)
 ·exact zI (Δ:=zJ d (D.save uD (xg (mx + 1) v)).1::Γ) (hno h0)
theorem zS5 {clock:Nat} {q:Int→K} (hD:OkD D) (hc:clock < 18446744073709551616) (hl:(D.read uD).1.length ≤ 100000)
  (hno:(uN D clock).2.2.2 ≠ 0→HG B (zJ d (uN D clock).1::Γ) (q (uN D clock).2.2.2))
  (hyes:(uN D clock).2.2.2 = 0→OkD (uN D clock).1→HG B (KpR kp d (uN D clock).2.1 (uN D clock).2.2.1 mb::zJ d (uN D clock).1::Γ) (q 0)) :
  HG B (KpR kp d 0 false mb::zJ d D::Γ) (za.call (some ⟨kp,0,none⟩) (clock:Int) q):=by
 refine fun w hw=>zB3 _ _ _ _ ?_
 refine hg hw ?_
 clear hw w
 unfold za
 refine xM ?_
 refine yE (b:=kp) (l:=kpL d 0 false mb) (x:=some ⟨d,0,none⟩) ?_
 refine jF (zJ d D) ?_
 have hll:=zMv (D.read uD)
 refine fun w hw=>zFB (n:=uD) hD hl hw fun f w hw=>?_
 refine hg hw ?_
 clear hw w
 unfold uN at hno hyes
 generalize zBS (D.read uD) = R at *
 refine yA (fun h60=>?_) fun h60=>?_
 ·rw [if_pos (by simpa using h60)] at hno hyes
  refine zIB (ep:=0) (by omega) fun s=>?_
  refine zI (Δ:=Bytes zF s (xg 0 false)::KpR kp d 0 false mb::zJ d D::Γ) ?_
  exact zMw hD hc (by have:=zBZ (ep:=0) (v:=false) (by omega); omega) hno hyes
 rw [if_neg (by simpa using h60)] at hno hyes
 refine yA (fun h0=>?_) fun h0=>?_
 ·have h0':R.2 ≠ 0:=by simpa using h0
  rw [if_pos h0'] at hno
  exact zI (Δ:=zJ d D::Γ) (hno h0')
 ·rw [if_neg (by simpa using h0)] at hno hyes
  refine zI (Δ:=Bytes zF f R.1::KpR kp d 0 false mb::zJ d D::Γ) ?_
  exact zMw hD hc (by omega) hno hyes
end
end
section
open Go Go.Sep
abbrev dkL (m ep:Nat) (v:Bool) (gs ls vs:Sl):List Value:=[.pointer (some ⟨m,0,none⟩),.int .u64 (ep:Int),.bool v,gs.val,ls.val,vs.val]
abbrev DkR (kp m ep:Nat) (v:Bool) (gs ls vs:Sl):zB:=blk kp (.cells (dkL m ep v gs ls vs).toArray zFE (0,0))
section
variable {B:World} {Γ Δ:List zB} {k:K} {m kp:Nat} {D M:zC} {gs ls vs:Sl}
theorem zLR {ep:Nat} {v:Bool} {q:Sl→K} (he:ep < 18446744073709551616) (h:∀ s,HG B (Bytes zF s (xg ep v)::Γ) (q s)):HG B Γ (zBK.call (ep:Int) ((vB v).toNat:Int) q):=by
 refine fun w hw=>zLs _ _ _ _ ?_
 refine hg hw ?_
 clear hw w
 have hl:=xO 9 ep (by omega)
 unfold zBK
 refine zFu he fun s=>?_
 refine vw s fun a1 a2 a3 a4=>?_
 rw [List.length_map,Nat.mul_one] at a1
 refine zKe (m:=1) (s:=s) (E:=zF) (esz:=1) (vs:=(vM ep).map qy) (us:=[.int .u8 ((vB v).toNat:Int)]) (fun s2 hs2=>?_) (by omega)
 have e:(vM ep).map qy++[.int .u8 ((vB v).toNat:Int)] = (xg ep v).map qy:=by unfold xg; rw [List.map_append]; rfl
 rw [e]
 exact h s2
theorem zLS {n x:List UInt8} {body:Sl} {q:Int→K} (hD:OkD D) (hR:x9 D M) (hx:x.length ≤ 10000) (hnl:n.length ≤ 1000) (hcap:body.n ≤ body.c) (hr:∀ w,Holds B Γ w→RdB w body x) (h:∀ M',x9 (D.save n x).1 M'→HG B (zk m M'::Γ) (q (D.save n x).2)) :
  HG B (zk m M::Γ) (xB.call (some ⟨m,0,none⟩) (bs n) body q):=fun w hw=>zJr hD hR hx hnl hcap hw hr fun M' w h1 h2=>h M' h1 w h2
theorem zLT {clock:Nat} {s:Sl} {b:List UInt8} {q:Int→K} (hD:OkD D) (hR:x9 D M) (hc:clock < 18446744073709551616) (hl:b.length ≤ 100000)
  (hno:(j5 D clock b).2.2.2 ≠ 0→∀ M',x9 (j5 D clock b).1 M'→HG B (zk m M'::Γ) (q (j5 D clock b).2.2.2))
  (hyes:(j5 D clock b).2.2.2 = 0→∀ M',x9 (j5 D clock b).1 M'→HG B (DkR kp m (j5 D clock b).2.1 (j5 D clock b).2.2.1 gs ls vs::zk m M'::Γ) (q 0)) :
  HG B (Bytes zF s b::DkR kp m 0 false gs ls vs::zk m M::Γ) (zu.s1 q ⟨kp,0,none⟩ (clock:Int) s):=by
 have hn:=zCd b
 have hnc:=zGE b
 have hy:=zPy (qm b).2.2
 have hyc:=zJR (qm b).2.2
 unfold zu.s1
 refine vw s fun a1 a2 a3 a4=>?_
 rw [List.length_map,Nat.mul_one] at a1
 refine ql fun e=>?_
 have hrd:∀ w,Holds B (Bytes zF s b::DkR kp m 0 false gs ls vs::zk m M::Γ) w→RdB w s b:=fun w hw=>Bytes.rd hw List.mem_cons_self
 refine zIA (hs:=b) (i:=0) (by omega) hrd (Nat.zero_le _) fun i1 l1 d1=>?_
 rw [List.drop_zero] at *
 unfold j5 at hno hyes
 refine zPZ (hs:=b) (by omega) hrd l1 fun i2 l2 d2=>?_
 rw [d1] at *
 generalize qm b = N at *
 generalize xR N.2.2 = Y at *
 have bad:∀ {i:Nat},(N.2.1 ≠ 0∨Y.2.1 ≠ 0∨1 < Y.1∨Y.2.2 ≠ [])→HG B (zD9 e s i::Bytes zF s b::DkR kp m 0 false gs ls vs::zk m M::Γ) (zu.s2 q ⟨kp,0,none⟩ (clock:Int) (N.1:Int) Y.1 true):=fun {i} h=>by
  rw [if_pos h] at hno
  unfold zu.s2
  refine s_t ?_ (by rfl)
  exact zI (Δ:=zk m M::Γ) (hno (by simp) M hR)
 refine vI (wrap64 (by omega) (by omega)) ?_
 refine yA (fun c0=>?_) fun c0=>?_
 ·refine bad ?_
  simp only [ne_eq,decide_eq_true_eq] at c0
  by_cases h:N.2.1 = 0
  ·exact .inr (.inl (by omega))
  ·exact .inl h
 have c0':N.2.1 = 0∧Y.2.1 = 0:=by
  simp only [ne_eq,decide_eq_false_iff_not,Decidable.not_not] at c0
  omega
 refine yA (fun c2=>bad (.inr (.inr (.inl (by simpa using c2))))) fun c2=>?_
 refine zN3 a1.symm l2 ?_
 rw [d2]
 by_cases c3:Y.2.2 = []
 rotate_left
 ·rw [if_neg c3]
  exact bad (.inr (.inr (.inr c3)))
 rw [if_pos c3]
 have hgood:¬ (N.2.1 ≠ 0∨Y.2.1 ≠ 0∨1 < Y.1∨Y.2.2 ≠ []):=by
  simp only [decide_eq_false_iff_not] at c2
  rintro (h | h | h | h)
  ·exact h c0'.1
  ·exact h c0'.2
  ·omega
  ·exact h c3
 rw [if_neg hgood] at hno hyes
 simp only [decide_eq_false_iff_not] at c2
 have hvb:Y.1 = ((vB (decide (Y.1 = 1))).toNat:Int):=by
  have:Y.1 = 0∨Y.1 = 1:=by omega
  rcases this with h | h <;> rw [h] <;> rfl
 unfold zu.s2
 refine s_f ?_ (by rfl)
 have s3:∀ mx:Nat,mx = max N.1 clock→HG B (zD9 e s i2::Bytes zF s b::DkR kp m 0 false gs ls vs::zk m M::Γ) (zu.s3 q ⟨kp,0,none⟩ (mx:Int) Y.1):=fun mx hmx=>by
  rw [← hmx] at hno hyes
  have hml:mx < 18446744073709551616:=by omega
  unfold zu.s3
  refine yA (fun c4=>?_) fun c4=>?_
  ·have c4':mx = 18446744073709551615:=by simp only [decide_eq_true_eq] at c4; omega
   rw [if_pos c4'] at hno
   exact zI (Δ:=zk m M::Γ) (hno (by simp) M hR)
  have c4':¬ mx = 18446744073709551615:=by simp only [decide_eq_false_iff_not] at c4; omega
  rw [if_neg c4'] at hno hyes
  simp only at hno hyes
  rw [hvb]
  have hv1:decide (((vB (decide (Y.1 = 1))).toNat:Int) = 1) = decide (Y.1 = 1):=by rw [← hvb]
  rw [hv1]
  generalize decide (Y.1 = 1) = v at *
  refine vI (show IntKind.wrap .u64 ((mx:Int) + 1) = ((mx + 1:Nat):Int) by rw [xI (by omega) (by omega)]; push_cast; rfl) ?_
  refine zAd (b:=kp) (off:=1) (l:=dkL m 0 false gs ls vs) (l':=dkL m (mx + 1) false gs ls vs) ?_ rfl rfl
  refine zAd (b:=kp) (off:=2) (l:=dkL m (mx + 1) false gs ls vs) (l':=dkL m (mx + 1) v gs ls vs) ?_ rfl rfl
  refine zAQ ?_
  refine zKk [DkR kp m (mx + 1) v gs ls vs] ?_
  refine jR (b:=kp) (l:=dkL m (mx + 1) v gs ls vs) (x:=some ⟨m,0,none⟩) ?_
  refine jR (b:=kp) (off:=1) (l:=dkL m (mx + 1) v gs ls vs) (x:=((mx + 1:Nat):Int)) ?_
  refine zLR (ep:=mx + 1) (by omega) fun s2=>?_
  refine zBb ?_
  refine jF (zk m M) ?_
  refine vw s2 fun b1 b2 b3 b4=>?_
  refine zLS (n:=uD) hD hR (by have:=zBZ (ep:=mx + 1) (v:=v) (by omega); omega) (by simp) b2 (fun w hw=>(uL (s:=s2) hw).1) fun M' hR'=>?_
  by_cases h0:(D.save uD (xg (mx + 1) v)).2 = 0
  ·rw [h0]
   exact zI (Δ:=DkR kp m (mx + 1) v gs ls vs::zk m M'::Γ) (hyes h0 M' hR')
  ·exact zI (Δ:=zk m M'::Γ) (hno h0 M' hR')
 refine yA (fun h=>?_) fun h=>?_
 ·simp only [decide_eq_true_eq] at h
  exact s3 clock (by omega)
 ·simp only [decide_eq_false_iff_not] at h
  exact s3 N.1 (by omega)
theorem zS6 {clock:Nat} {q:Int→K} (hD:OkD D) (hR:x9 D M) (hc:clock < 18446744073709551616) (hl:(D.read uD).1.length ≤ 100000)
  (hno:(uN D clock).2.2.2 ≠ 0→∀ M',x9 (uN D clock).1 M'→HG B (zk m M'::Γ) (q (uN D clock).2.2.2))
  (hyes:(uN D clock).2.2.2 = 0→∀ M',x9 (uN D clock).1 M'→HG B (DkR kp m (uN D clock).2.1 (uN D clock).2.2.1 gs ls vs::zk m M'::Γ) (q 0)) :
  HG B (DkR kp m 0 false gs ls vs::zk m M::Γ) (zu.call (some ⟨kp,0,none⟩) (clock:Int) q):=by
 refine fun w hw=>zFJ _ _ _ _ ?_
 refine hg hw ?_
 clear hw w
 have hM:=hR.ok hD
 have hrd:=zIE (n:=uD) hR hD
 unfold zu
 refine xM ?_
 refine yE (b:=kp) (l:=dkL m 0 false gs ls vs) (x:=some ⟨m,0,none⟩) ?_
 refine vD ?_
 have hll:=zMv (D.read uD)
 refine fun w hw=>zEc (n:=uD) hM (by rw [hrd]; exact hl) hw fun f w hw=>?_
 rw [hrd] at hw ⊢
 refine hg hw ?_
 clear hw w
 unfold uN at hno hyes
 generalize zBS (D.read uD) = R at *
 refine yA (fun h60=>?_) fun h60=>?_
 ·rw [if_pos (by simpa using h60)] at hno hyes
  refine zLR (ep:=0) (v:=false) (by omega) fun s=>?_
  refine zI (Δ:=Bytes zF s (xg 0 false)::DkR kp m 0 false gs ls vs::zk m M::Γ) ?_
  exact zLT hD hR hc (by have:=zBZ (ep:=0) (v:=false) (by omega); omega) hno hyes
 rw [if_neg (by simpa using h60)] at hno hyes
 refine yA (fun h0=>?_) fun h0=>?_
 ·have h0':R.2 ≠ 0:=by simpa using h0
  rw [if_pos h0'] at hno
  exact zI (Δ:=zk m M::Γ) (hno h0' M hR)
 ·rw [if_neg (by simpa using h0)] at hno hyes
  refine zI (Δ:=Bytes zF f R.1::DkR kp m 0 false gs ls vs::zk m M::Γ) ?_
  exact zLT hD hR hc (by omega) hno hyes
theorem zQ4 {q:Int→K} (hD:OkD D) (hR:x9 D M) (h:∀ M',x9 (D.save uD (xg 0 true)).1 M'→HG B (zk m M'::Γ) (q (D.save uD (xg 0 true)).2)):HG B (zk m M::Γ) (zBW.call (some ⟨m,0,none⟩) q):=by
 refine fun w hw=>zJk _ _ _ ?_
 refine hg hw ?_
 clear hw w
 unfold zBW
 refine zLR (ep:=0) (v:=true) (by omega) fun s=>?_
 refine vD ?_
 refine vw s fun b1 b2 b3 b4=>?_
 refine zLS (n:=uD) hD hR (by have:=zBZ (ep:=0) (v:=true) (by omega); omega) (by simp) b2 (fun w hw=>(uL (s:=s) hw).1) fun M' hR'=>?_
 exact zI (Δ:=zk m M'::Γ) (h M' hR')
end
end
section
open Go Go.Sep Go.Sep.Bt
theorem zYg:∀ (n:Nat) (d:List UInt8),d.length = n→(qB d).1.length * 6 ≤ d.length:=by
 intro n
 induction n using Nat.strongRecOn with
 | _ n ih=>
  intro d hd
  by_cases h1:d = []
  ·subst h1; rw [zET]; simp
  by_cases h2:(zP d).2.2 = 0
  ·have hF:=zJg d
   obtain ⟨q1,q2,_⟩:=hF.ok h2
   have q3:=hF.le
   have hl:0 < d.length:=List.length_pos_iff.2 h1
   have:=ih (d.drop (zP d).2.1).length (by simp; omega) _ rfl
   rw [zFk h1 h2]
   simp only [List.length_cons,List.length_drop] at this ⊢
   omega
  ·rw [zEU h2]; simp
structure LdW (W:q8) (name:List UInt8) (size:Int) (kk:Nat):Prop where
 name:W.name = name
 size:W.size = size
 part:W.part ≤ 9
 used:W.used ≤ 1048576
 few:W.recs.length ≤ kk * 174763
 small:∀ r ∈ W.recs,r.length ≤ 4096
 dirty:W.dirty = false
theorem zPz {name:List UInt8} {size:Int} {D:zC} (hD:OkD D):∀ (f part:Nat) (W:q8),part + f ≤ 10→LdW W name size part→LdW (jG name f part D W).2.1 name size 10
 | 0,part,W,hp,h=>⟨h.name,h.size,h.part,h.used,Nat.le_trans h.few (Nat.mul_le_mul_right _ (by omega)),h.small,h.dirty⟩
 | f + 1,part,W,hp,h=>by
  have hw:LdW W name size 10:=⟨h.name,h.size,h.part,h.used,Nat.le_trans h.few (Nat.mul_le_mul_right _ (by omega)),h.small,h.dirty⟩
  have hrl:=zMh hD (zM name part)
  have h6:=zYg _ (D.read (zM name part)).1 rfl
  have hle:=zHy _ (D.read (zM name part)).1 rfl
  have hsm:=zNw _ (D.read (zM name part)).1 rfl
  have h2:LdW { W with recs:=W.recs++(qB (D.read (zM name part)).1).1,part:=part,used:=(qB (D.read (zM name part)).1).2 } name size (part + 1):=⟨h.name,h.size,by show part ≤ 9; omega,by show (qB _).2 ≤ _; omega,by
   have h9:=h.few
   have h8:(W.recs++(qB (D.read (zM name part)).1).1).length ≤ (part + 1) * 174763:=by
    rw [List.length_append,Nat.add_mul]; omega
   exact h8,fun r hr=>by
   rcases List.mem_append.1 hr with hr | hr
   ·exact h.small r hr
   ·exact hsm r hr,h.dirty⟩
  have h3:LdW { W with recs:=W.recs++(qB (D.read (zM name part)).1).1,part:=part,used:=(qB (D.read (zM name part)).1).2 } name size 10:=⟨h2.name,h2.size,h2.part,h2.used,Nat.le_trans h2.few (Nat.mul_le_mul_right _ (by omega)),h2.small,h2.dirty⟩
  unfold jG
  split
  ·exact hw
  split
  ·exact hw
  split
  ·exact zPz hD f (part + 1) _ (by omega) h2
  split
  ·exact h3
  ·exact h3
theorem zII {name:List UInt8} {size:Int} {D:zC} (hD:OkD D):LdW ((uG name size).load D).2.1 name size 10:=by
 have h:=zPz (size:=size) hD 10 0 (uG name size) (by omega) ⟨rfl,rfl,by simp [uG],by simp [uG],by simp [uG],by simp [uG],rfl⟩
 have hn:(uG name size).name = name:=rfl
 unfold q8.load
 rw [hn]
 split <;> exact h
theorem LdW.okW {W:q8} {name:List UInt8} {size:Int} (h:LdW W name size 10) (hn:1 ≤ name.length∧name.length ≤ 8) (hs:16 ≤ size∧size ≤ 65536):OkW W:=⟨by rw [h.name]; exact hn,by rw [h.size]; exact hs,h.part,by have:=h.used; omega,by have:=h.few; omega⟩
def jd:Int→List qU→List (List UInt8)→Option (Int×List qU)
 | p,V,[]=>some (p,V)
 | p,V,r::rs=>match zAT p V r with
  | none=>none
  | some x=>jd x.1 x.2 rs
theorem zDY (p:Int) (V:List qU) (r:List UInt8) (rs:List (List UInt8)):jd p V (r::rs) = (match zAT p V r with
  | none=>none
  | some x=>jd x.1 x.2 rs):=rfl
theorem zOC {p:Int} {V:List qU} {r:List UInt8} {x:Int×List qU} (h:zAT p V r = some x):x.2 = V∨∃ v,x.2 = zBE v V∧0 ≤ v.1∧v.1 < 64:=by
 unfold zAT at h
 split at h
 ·split at h
  ·simp only [Option.some.injEq] at h; subst h; exact .inl rfl
  ·cases h
 split at h
 ·split at h
  ·rename_i hh
   simp only [Option.some.injEq] at h; subst h
   exact .inr ⟨_,rfl,by simp,by have:=hh.2.2.2.2.1; simp only; omega⟩
  ·cases h
 ·cases h
abbrev VOk (V:List qU):Prop:=zFp V∧∀ v ∈ V,0 ≤ v.1∧v.1 < 64
theorem VOk.put {V:List qU} {v:qU} (h:VOk V) (h0:0 ≤ v.1) (h1:v.1 < 64):VOk (zBE v V):=⟨zK7 h.1,fun x hx=>by
 rcases zH8 hx with rfl | hx
 ·exact ⟨h0,h1⟩
 ·exact h.2 x hx⟩
theorem VOk.replay {p:Int} {V:List qU} {r:List UInt8} {x:Int×List qU} (hV:VOk V) (h:zAT p V r = some x):VOk x.2:=by
 rcases zOC h with h | ⟨v,h,h0,h1⟩
 ·rw [h]; exact hV
 ·rw [h]; exact hV.put h0 h1
theorem VOk.all {rs:List (List UInt8)}:∀ {p:Int} {V:List qU} {x:Int×List qU},VOk V→jd p V rs = some x→VOk x.2:=by
 induction rs with
 | nil=>intro p V x hV h; simp only [jd,Option.some.injEq] at h; subst h; exact hV
 | cons r rs ih=>
  intro p V x hV h
  rw [zDY] at h
  cases hm:zAT p V r with
  | none=>rw [hm] at h; cases h
  | some y=>rw [hm] at h; exact ih (hV.replay hm) h
def jL (D:zC) (g:Int):zC×Int×Option (q8×Int×List qU) :=
 if ((uG (yQ g) 40960).load D).2.2 ≠ 0 then (((uG (yQ g) 40960).load D).1,((uG (yQ g) 40960).load D).2.2,none)
 else match jd 0 [] ((uG (yQ g) 40960).load D).2.1.recs with
  | none=>(((uG (yQ g) 40960).load D).1,31,none)
  | some x=>(((uG (yQ g) 40960).load D).1,0,some (((uG (yQ g) 40960).load D).2.1,x.1,x.2))
def zDf (g d:Nat) (W:q8) (p:Int) (V:List qU):zB:=ex fun l:Nat=>ex fun vb:Nat=>Sep.stars [blk g (.cells (zBR l vb).toArray yL (0,0)),uU l d W,zAu vb p V]
section
variable {B:World} {Γ Δ:List zB} {k:K} {d kp mb:Nat} {D:zC} {W:q8} {p:Int} {V:List qU}
theorem zQ5 {g:Nat} (h:∀ l vb,HG B (blk g (.cells (zBR l vb).toArray yL (0,0))::uU l d W::zAu vb p V::Γ) k):HG B (zDf g d W p V::Γ) k:=zD3 fun l=>zD3 fun vb=>zCY (h l vb)
theorem zIJ {g l vb:Nat} (h:HG B (zDf g d W p V::Γ) k):HG B (blk g (.cells (zBR l vb).toArray yL (0,0))::uU l d W::zAu vb p V::Γ) k:=fun w hw=>by
 refine h w ?_
 have h3:Holds B (Sep.stars [blk g (.cells (zBR l vb).toArray yL (0,0)),uU l d W,zAu vb p V]::Γ) w:=Holds.flat.2 hw
 exact h3.imp fun g hg=>⟨l,vb,hg⟩
instance (priority:=high) zZw {g:Nat}:Sep.Own g (zDf g d W p V::Γ) (zDf g d W p V) Γ:=⟨.refl _⟩
theorem zS7 {g:Int} {M:List (Int×Option Addr)} {ep:Nat} {v:Bool} {q:Int→K} (hg0:0 ≤ g) (hg3:g ≤ 3) (hD:OkD D)
  (hno:(jL D g).2.1 ≠ 0→OkD (jL D g).1→HG B (zJ d (jL D g).1::Γ) (q (jL D g).2.1))
  (hyes:∀ W p V gb,jL D g = ((jL D g).1,0,some (W,p,V))→OkD (jL D g).1→HG B (KpR kp d ep v mb::qM (Value.int .i64) Value.pointer mb (qR g (some ⟨gb,0,none⟩) M)::zDf gb d W p V::zJ d (jL D g).1::Γ) (q 0)) :
  HG B (KpR kp d ep v mb::qM (Value.int .i64) Value.pointer mb M::zJ d D::Γ) (qK.call (some ⟨kp,0,none⟩) g q):=by
 refine fun w hw=>zCD _ _ _ _ ?_
 refine hg hw ?_
 clear hw w
 unfold qK
 refine xM ?_
 refine yE (b:=kp) (l:=kpL d ep v mb) (x:=some ⟨d,0,none⟩) ?_
 refine vI (show IntKind.wrap .i64 (48 + g) = ((48 + g.toNat:Nat):Int) by rw [wrap64 (by omega) (by omega)]; omega) ?_
 have h32:IntKind.wrap .i32 ((48 + g.toNat:Nat):Int) = ((48 + g.toNat:Nat):Int):=by
  have:g.toNat = 0∨g.toNat = 1∨g.toNat = 2∨g.toNat = 3:=by omega
  rcases this with e | e | e | e <;> rw [e] <;> rfl
 refine vI h32 ?_
 refine fun w hw=>zQj (c:=48 + g.toNat) (by omega) ?_
 refine hg hw ?_
 clear hw w
 refine zOy (a:=[103]) (b:=[u8 (48 + g.toNat)]) (by simp) ?_
 show HG B _ (zAN.call (some ⟨d,0,none⟩) (bs (yQ g)) 40960 _)
 refine jF (zJ d D) ?_
 have hok:=(zII (name:=yQ g) (size:=40960) hD).okW (by unfold yQ; simp) (by omega)
 have hsm0:=(zII (name:=yQ g) (size:=40960) hD).small
 have hfew0:=(zII (name:=yQ g) (size:=40960) hD).few
 unfold jL at hno hyes
 generalize hR:(uG (yQ g) 40960).load D = R at *
 refine fun w hw=>zGh (name:=yQ g) (size:=40960) (by unfold yQ; simp) (by omega) hD hw (fun h0 l w hD1 hw=>?_) fun hne w hD1 hw=>?_
 rotate_left
 ·rw [hR] at hne hD1 hw ⊢
  rw [if_pos hne] at hno
  refine hg hw ?_
  clear hw w
  refine s_t ?_ (by simpa using hne)
  exact zI (Δ:=zJ d R.1::Γ) (hno hne hD1)
 rw [hR] at h0 hD1 hw
 rw [if_neg (by simpa using h0)] at hno hyes
 refine hg hw ?_
 clear hw w
 refine s_f ?_ (by rfl)
 refine zQo fun vb=>?_
 refine ql fun gb=>?_
 refine jF (uU l d R.2.1) ?_
 refine fun w hw=>zEV hok (fun r hr=>by have:=hsm0 r hr; omega) hw fun s w hw=>?_
 refine hg hw ?_
 clear hw w
 refine zU2 fun rs hrs=>?_
 have hlen:rs.length = R.2.1.recs.length:=by rw [← hrs]; simp
 refine vw s fun c1 c2 c3 c4=>?_
 rw [List.length_map,Nat.mul_one] at c1
 refine zI (Δ:=zAu vb 0 []::SlC zL 1 s (rs.map uM)::Sep.stars (rs.map vk)::blk gb (.cells (zBR l vb).toArray yL (0,0))::uU l d R.2.1::KpR kp d ep v mb::qM (Value.int .i64) Value.pointer mb M::zJ d R.1::Γ) ?_
 refine jm (α:=Int) (ι:=Nat×Int×List qU) (fun y i=>y = (i.1:Int)∧i.1 ≤ R.2.1.recs.length∧VOk i.2.2∧jd 0 [] R.2.1.recs = jd i.2.1 i.2.2 (R.2.1.recs.drop i.1)) (fun y i=>zAu vb i.2.1 i.2.2::SlC zL 1 s (rs.map uM)::Sep.stars (rs.map vk)::blk gb (.cells (zBR l vb).toArray yL (0,0))::uU l d R.2.1::KpR kp d ep v mb::qM (Value.int .i64) Value.pointer mb M::zJ d R.1::Γ) (fun y i=>R.2.1.recs.length - i.1) (0,0,[]) ⟨rfl,Nat.zero_le _,⟨by simp [zFp],by simp⟩,rfl⟩ ?_
 rintro k' _ ⟨i,p,V⟩ ⟨rfl,hi,hV,hrep⟩ hk'
 simp only at hi hV hrep hk' ⊢
 have hVl:=zWY hV.1 hV.2
 unfold qK.b1
 refine yA (fun hb=>?_) fun hb=>?_
 ·have hil:i < R.2.1.recs.length:=by simp only [decide_eq_true_eq] at hb; omega
  have hgr:rs[i]? = some rs[i]:=List.getElem?_eq_getElem (by omega)
  have hmr:rs[i] ∈ rs:=List.getElem_mem (by omega)
  have hrec:R.2.1.recs[i] = (rs[i]).2:=by
   have:=congrArg (·[i]?) hrs
   simp only [List.getElem?_map,hgr,List.getElem?_eq_getElem hil,Option.map_some,Option.some.injEq] at this
   exact this.symm
  rw [List.drop_eq_getElem_cons hil,zDY,hrec] at hrep
  have hrl:=hsm0 _ (List.getElem_mem hil)
  rw [hrec] at hrl
  generalize rs[i] = r at hgr hmr hrec hrep hrl
  refine jZ (c:=Sl.val) (L:=rs.map Prod.fst) (j:=i) (x:=r.1) (fun w hw=>by rw [List.map_map]; exact (uL (s:=s) hw).1) (by rw [List.getElem?_map,hgr]; rfl) ?_
  refine yE (b:=gb) (off:=1) (l:=zBR l vb) (x:=some ⟨vb,0,none⟩) ?_
  refine zQt (xs:=r.2) (by omega) (by omega) (fun w hw=>?_) (fun hn=>?_) fun p' V' hs=>?_
  ·obtain ⟨Δ,hd⟩:=zEv (Γ:=[]) (F:=vk) hmr (hw.drops (Δ:=[Sep.stars (rs.map vk)]))
   exact Bytes.rd hd List.mem_cons_self
  ·rw [hn] at hrep
   rw [hrep] at hno
   refine s_t ?_ (by rfl)
   exact zI (Δ:=zJ d R.1::Γ) (hno (by simp) hD1)
  ·rw [hs] at hrep
   refine s_f ?_ (by rfl)
   refine zAn ?_
   exact hk' ((i:Int) + 1) (i + 1,p',V') ⟨by simp,by simp only; omega,hV.replay hs,hrep⟩ (by simp only; omega)
 ·have hil:i = R.2.1.recs.length:=by simp only [decide_eq_false_iff_not] at hb; omega
  rw [hil,List.drop_length] at hrep
  simp only [jd] at hrep
  rw [hrep] at hyes
  refine yE (b:=kp) (off:=3) (l:=kpL d ep v mb) (x:=some mb) ?_
  refine zO9 (b:=mb) (m:=M) (a:=g) (cV:=Value.pointer) (enc:=Value.int .i64) (v:=some ⟨gb,0,none⟩) (cG:=Value.pointer) rfl zPb (zAr .i64) ?_
  refine zI (Δ:=blk gb (.cells (zBR l vb).toArray yL (0,0))::uU l d R.2.1::zAu vb p V::KpR kp d ep v mb::qM (Value.int .i64) Value.pointer mb (qR g (some ⟨gb,0,none⟩) M)::zJ d R.1::Γ) ?_
  refine zIJ ?_
  exact zI (hyes R.2.1 p V gb rfl hD1)
end
end
section
open Go Go.Sep Go.Sep.Bt
structure GM where
 g:Int
 W:q8
 p:Int
 V:List qU
def jh (D:zC):List Int→List GM→zC×Int×Option (List GM)
 | [],acc=>(D,0,some acc)
 | g::gs,acc=>match (jL D g).2.2 with
  | none=>((jL D g).1,(jL D g).2.1,none)
  | some x=>jh (jL D g).1 gs (acc++[⟨g,x.1,x.2.1,x.2.2⟩])
abbrev GE:=Nat×Nat×GM
abbrev jr (n:Nat):Value:=.pointer (some ⟨n,0,none⟩)
abbrev dkE (m:Nat) (ls vs:Sl) (E:List GE) (Γ:List zB):List zB:=SlC zZ 1 ls (E.map fun e=>jr e.1)::SlC zy 1 vs (E.map fun e=>jr e.2.1)::Sep.stars (E.map fun e=>LgR e.1 m e.2.2.W)::Sep.stars (E.map fun e=>xA e.2.1 e.2.2.p e.2.2.V)::Γ
section
variable {B:World} {Γ Δ:List zB} {k:K} {m kp l vb:Nat} {D M:zC} {gs ls vs:Sl} {E:List GE} {W:q8} {p:Int} {V:List qU}
theorem zWg {i:Nat} {d0:Option Addr} {q:Option Addr→Int→K} {X2 X4:Int→K} (hsm:∀ r ∈ W.recs,r.length ≤ 4096) (hfew:W.recs.length ≤ 10000000)
  (hno:jd 0 [] W.recs = none→HG B Γ (q none 31))
  (hyes:∀ p V,jd 0 [] W.recs = some (p,V)→HG B (LgR l m W::xA vb p V::Γ) (Ld ((⟨kp,0,none⟩:Addr).add 4) Sl.val fun t109=>
   New zZ #[.pointer (some ⟨l,0,none⟩)] fun t111=>
   Do Tryz.prog (Builtin.append_ #[zAx,zAx] zAx #[(Sl.val t109),(Sl.val (Sl.mk (some t111) 1 1))]) Sl.val fun t112=>
   St ((⟨kp,0,none⟩:Addr).add 4) (Sl.val t112)<|
   Ld ((⟨kp,0,none⟩:Addr).add 5) Sl.val fun t119=>
   New zy #[.pointer (some ⟨vb,0,none⟩)] fun t121=>
   Do Tryz.prog (Builtin.append_ #[zAh,zAh] zAh #[(Sl.val t119),(Sl.val (Sl.mk (some t121) 1 1))]) Sl.val fun t122=>
   St ((⟨kp,0,none⟩:Addr).add 5) (Sl.val t122)<|
   Ar (IntKind.wrap .i64 ((i:Int) + 1)) fun t66=>
   X4 t66)) :
  HG B (LgR l m W::xA vb 0 []::Γ) (yM (α:=Int) (fun X x=>yg.b5 q X2 X4 X d0 gs ⟨kp,0,none⟩ (i:Int) (some ⟨l,0,none⟩) ⟨vb,0,none⟩ x) 0):=by
 refine zS1 fun s rs hrs=>?_
 have hlen:rs.length = W.recs.length:=by rw [← hrs]; simp
 refine vw s fun c1 c2 c3 c4=>?_
 rw [List.length_map,Nat.mul_one] at c1
 refine jm (α:=Int) (ι:=Nat×Int×List qU) (fun y i=>y = (i.1:Int)∧i.1 ≤ W.recs.length∧jd 0 [] W.recs = jd i.2.1 i.2.2 (W.recs.drop i.1)) (fun y i=>lgB l m W s::SlC zL 1 s (rs.map uM)::Sep.stars (rs.map vk)::xA vb i.2.1 i.2.2::Γ) (fun y i=>W.recs.length - i.1) (0,0,[]) ⟨rfl,Nat.zero_le _,rfl⟩ ?_
 rintro k' _ ⟨n,p,V⟩ ⟨rfl,hn,hrep⟩ hk'
 simp only at hn hrep hk' ⊢
 unfold yg.b5
 refine xM ?_
 refine yE (b:=l) (off:=5) (l:=lgL m W s) (x:=s) ?_
 refine yA (fun hb=>?_) fun hb=>?_
 ·have hil:n < W.recs.length:=by simp only [decide_eq_true_eq] at hb; omega
  have hgr:rs[n]? = some rs[n]:=List.getElem?_eq_getElem (by omega)
  have hmr:rs[n] ∈ rs:=List.getElem_mem (by omega)
  have hrec:W.recs[n] = (rs[n]).2:=by
   have:=congrArg (·[n]?) hrs
   simp only [List.getElem?_map,hgr,List.getElem?_eq_getElem hil,Option.map_some,Option.some.injEq] at this
   exact this.symm
  rw [List.drop_eq_getElem_cons hil,zDY,hrec] at hrep
  have hrl:=hsm _ (List.getElem_mem hil)
  rw [hrec] at hrl
  generalize rs[n] = r at hgr hmr hrec hrep hrl
  refine yE (b:=l) (off:=5) (l:=lgL m W s) (x:=s) ?_
  refine jZ (c:=Sl.val) (L:=rs.map Prod.fst) (j:=n) (x:=r.1) (fun w hw=>by rw [List.map_map]; exact (uL (s:=s) hw).1) (by rw [List.getElem?_map,hgr]; rfl) ?_
  refine zI (Δ:=xA vb p V::lgB l m W s::SlC zL 1 s (rs.map uM)::Sep.stars (rs.map vk)::Γ) ?_
  intro w0 hw0
  obtain ⟨Δ0,hd0⟩:=zEv (Γ:=[]) (F:=vk) hmr (hw0.drops (Δ:=[Sep.stars (rs.map vk)]))
  have hcap:=hd0.zAm
  rw [List.length_map,Nat.mul_one] at hcap
  clear hd0
  revert w0
  show HG B (xA vb p V::lgB l m W s::SlC zL 1 s (rs.map uM)::Sep.stars (rs.map vk)::Γ) _
  refine zQu (xs:=r.2) (by omega) (fun w hw=>?_) hcap.1.symm hcap.2.1 hcap.2.2.1 (fun hno'=>?_) fun p' V' hs=>?_
  ·obtain ⟨Δ,hd⟩:=zEv (Γ:=[]) (F:=vk) hmr (hw.drops (Δ:=[Sep.stars (rs.map vk)]))
   exact Bytes.rd hd List.mem_cons_self
  ·rw [hno'] at hrep
   refine s_t ?_ (by rfl)
   exact zI (Δ:=Γ) (hno hrep)
  ·rw [hs] at hrep
   refine s_f ?_ (by rfl)
   refine zAn ?_
   refine zI (Δ:=lgB l m W s::SlC zL 1 s (rs.map uM)::Sep.stars (rs.map vk)::xA vb p' V'::Γ) ?_
   exact hk' ((n:Int) + 1) (n + 1,p',V') ⟨by simp,by simp only; omega,hrep⟩ (by simp only; omega)
 ·have hil:n = W.recs.length:=by simp only [decide_eq_false_iff_not] at hb; omega
  rw [hil,List.drop_length] at hrep
  simp only [jd] at hrep
  exact zDW hrs (hyes p V hrep)
theorem zI4 {name:List UInt8}:∀ (f part:Nat) (D:zC) (W:q8),OkD D→OkD (jG name f part D W).1
 | 0,_,_,_,h=>h
 | f + 1,part,D,W,h=>by
  unfold jG
  split
  ·exact h
  split
  ·exact h
  split
  ·exact zI4 f _ _ _ h
  split
  ·exact zOB h
  ·exact zOB h
theorem zP0 {name:List UInt8}:∀ (f part:Nat) (D:zC),OkD D→OkD (zBn name f part D).1
 | 0,_,_,h=>h
 | f + 1,part,D,h=>by
  unfold zBn
  split
  ·exact zLQ h _
  ·exact zP0 f part _ (zLQ h _)
theorem zVK {W:q8} (hD:OkD D):OkD (W.load D).1:=by
 unfold q8.load
 split
 ·exact zI4 _ _ _ _ hD
 ·exact zP0 _ _ _ (zI4 _ _ _ _ hD)
theorem zEz (D:zC) (acc:List GM) (g:Int) (gs:List Int):jh D (g::gs) acc = (match (jL D g).2.2 with
  | none=>((jL D g).1,(jL D g).2.1,none)
  | some x=>jh (jL D g).1 gs (acc++[⟨g,x.1,x.2.1,x.2.2⟩])):=rfl
theorem zYh {t:Nat} {k:K} {cs:Array Value} (hcs:cs.toList = dvL 0 []) (h:HG B (xA t 0 []::Γ) k):HG B (blk t (.cells cs xC (0,0))::Γ) k:=by
 have e:cs = (dvL 0 []).toArray:=by rw [← hcs]
 rw [e]
 exact zD7 (by simp [zFp]) (by simp) h
theorem zXV {α:Type} {F:α→zB} {A:List α} {x:α} (h:HG B (Sep.stars ((A++[x]).map F)::Γ) k):HG B (F x::Sep.stars (A.map F)::Γ) k:=zN5 h
theorem zP1 {ep:Nat} {v:Bool} {gl:List Int} {q:Option Addr→Int→K} {X2:Int→K} (hD:OkD D) (hR:x9 D M) (hg:∀ g ∈ gl,0 ≤ g∧g ≤ 3) (hgl:gl.length ≤ 2) (hgr:∀ w,Holds B Γ w→RdC w gs 1 (gl.map (Value.int .i64))) (hgn:gs.n = gl.length)
  (hno:(jh D gl []).2.2 = none→∀ M',x9 (jh D gl []).1 M'→HG B (zk m M'::Γ) (q none (jh D gl []).2.1))
  (hyes:∀ G,(jh D gl []).2.2 = some G→∀ M' ls vs E,x9 (jh D gl []).1 M'→E.map (fun e:GE=>e.2.2) = G→HG B (DkR kp m ep v gs ls vs::dkE m ls vs E (zk m M'::Γ)) (q (some ⟨kp,0,none⟩) 0)) :
  HG B (DkR kp m ep v gs ⟨none,0,0⟩ ⟨none,0,0⟩::zk m M::Γ) (yM (α:=Int) (fun X x=>yg.b4 q X2 X (some ⟨m,0,none⟩) gs ⟨kp,0,none⟩ x) 0):=by
 have hgr':∀ {Ψ:List zB},[Drops Ψ Γ]→∀ w,Holds B Ψ w→RdC w gs 1 (gl.map (Value.int .i64)):=fun {Ψ} _ w hw=>hgr w (hw.drops (Δ:=Γ))
 intro w0 hw0
 have h1:=((((hw0.zA6).zA6).zAv zy 1).zAv zZ 1)
 refine Go.Sep.hg h1 ?_
 clear h1 hw0 w0
 refine zI (Δ:=DkR kp m ep v gs ⟨none,0,0⟩ ⟨none,0,0⟩::SlC zZ 1 ⟨none,0,0⟩ []::SlC zy 1 ⟨none,0,0⟩ []::Sep.stars []::Sep.stars []::zk m M::Γ) ?_
 show HG B (DkR kp m ep v gs ⟨none,0,0⟩ ⟨none,0,0⟩::dkE m ⟨none,0,0⟩ ⟨none,0,0⟩ [] (zk m M::Γ)) _
 refine jm (α:=Int) (ι:=Nat×zC×zC×Sl×Sl×List GE) (fun y i=>y = (i.1:Int)∧i.1 ≤ gl.length∧OkD i.2.1∧x9 i.2.1 i.2.2.1∧i.2.2.2.2.2.length = i.1∧jh D gl [] = jh i.2.1 (gl.drop i.1) (i.2.2.2.2.2.map fun e=>e.2.2)) (fun y i=>DkR kp m ep v gs i.2.2.2.1 i.2.2.2.2.1::dkE m i.2.2.2.1 i.2.2.2.2.1 i.2.2.2.2.2 (zk m i.2.2.1::Γ)) (fun y i=>gl.length - i.1) (0,D,M,⟨none,0,0⟩,⟨none,0,0⟩,[]) ⟨rfl,Nat.zero_le _,hD,hR,rfl,rfl⟩ ?_
 rintro k' _ ⟨i,D',M',ls,vs,E⟩ ⟨rfl,hi,hD',hR',hEl,he⟩ hk'
 simp only at hi hD' hR' hEl he hk' ⊢
 unfold yg.b4
 refine yA (fun hb=>?_) fun hb=>?_
 rotate_left
 ·have hil:i = gl.length:=by simp only [decide_eq_false_iff_not] at hb; omega
  rw [hil,List.drop_length] at he
  simp only [jh] at he
  rw [he] at hyes
  exact hyes _ rfl M' ls vs E hR' rfl
 have hil:i < gl.length:=by simp only [decide_eq_true_eq] at hb; omega
 rw [List.drop_eq_getElem_cons hil,zEz] at he
 have hge:gl[i]? = some gl[i]:=List.getElem?_eq_getElem hil
 have hg2:=hg gl[i] (List.getElem_mem hil)
 generalize gl[i] = g at hge he hg2
 refine jZ (c:=Value.int .i64) (L:=gl) (j:=i) (x:=g) (fun w hw=>hgr' w hw) hge ?_
 refine vI (show IntKind.wrap .i64 (48 + g) = ((48 + g.toNat:Nat):Int) by rw [wrap64 (by omega) (by omega)]; omega) ?_
 refine vI (e':=((48 + g.toNat:Nat):Int)) (by
  rw [IntKind.wrap]
  simp only [IntKind.bits,IntKind.signed,Bool.false_and,Bool.false_eq_true,if_false]
  omega) ?_
 refine ql fun t75=>?_
 refine zN4 (xs:=[u8 (48 + g.toNat)]) (fun w hw=>?_) ?_
 ·have h1:=RdC.zD2 (n:=1) (esz:=1) hw List.mem_cons_self (vs:=[.int .u8 ((48 + g.toNat:Nat):Int)]) rfl rfl 1
  have e:([u8 (48 + g.toNat)]).map qy = [.int .u8 ((48 + g.toNat:Nat):Int)]:=by
   simp only [List.map_cons,List.map_nil,qy,u8N]
   rw [Nat.mod_eq_of_lt (by omega)]
  show RdC w _ 1 (([u8 (48 + g.toNat)]).map qy)
  rw [e]
  exact h1
 refine zOy (a:=[103]) (b:=[u8 (48 + g.toNat)]) (by simp) ?_
 show HG B _ (zw.call (some ⟨m,0,none⟩) (bs (yQ g)) 40960 _)
 refine zI (Δ:=zk m M'::DkR kp m ep v gs ls vs::dkE m ls vs E Γ) ?_
 have hldk:=zII (name:=yQ g) (size:=40960) hD'
 unfold jL at he
 have hOk1:OkD ((uG (yQ g) 40960).load D').1:=zVK hD'
 generalize hRR:(uG (yQ g) 40960).load D' = R at *
 refine zS4 (name:=yQ g) (size:=40960) (by unfold yQ; simp) (by omega) hD' hR' (fun h0 M2 h2=>?_) fun h0 l M2 h2=>?_
 ·rw [hRR] at h0 h2 ⊢
  rw [if_pos h0] at he
  simp only at he
  rw [he] at hno
  refine s_t ?_ (by simpa using h0)
  exact zI (Δ:=zk m M2::Γ) (hno rfl M2 h2)
 rw [hRR] at h0 h2 ⊢
 rw [if_neg (by simpa using h0)] at he
 refine s_f ?_ (by rfl)
 refine ql fun vb=>?_
 refine zYh (by rfl) ?_
 refine zI (Δ:=LgR l m R.2.1::xA vb 0 []::DkR kp m ep v gs ls vs::dkE m ls vs E (zk m M2::Γ)) ?_
 refine zWg hldk.small (by have:=hldk.few; omega) (fun hn=>?_) fun p V hs=>?_
 ·rw [hn] at he
  simp only at he
  rw [he] at hno
  exact zI (Δ:=zk m M2::Γ) (hno rfl M2 h2)
 rw [hs] at he
 simp only at he
 show HG B (LgR l m R.2.1::xA vb p V::DkR kp m ep v gs ls vs::SlC zZ 1 ls (E.map fun e=>jr e.1)::SlC zy 1 vs (E.map fun e=>jr e.2.1)::Sep.stars (E.map fun e=>LgR e.1 m e.2.2.W)::Sep.stars (E.map fun e=>xA e.2.1 e.2.2.p e.2.2.V)::zk m M2::Γ) _
 refine vw ls fun a1 a2 a3 a4=>?_
 refine vw vs fun b1 b2 b3 b4=>?_
 rw [List.length_map,Nat.mul_one] at a1 b1
 refine yE (b:=kp) (off:=4) (l:=dkL m ep v gs ls vs) (x:=ls) ?_
 refine zKe (m:=1) (s:=ls) (E:=zZ) (esz:=1) (vs:=E.map fun e:GE=>jr e.1) (us:=[jr l]) (fun ls2 hls2=>?_) (by omega)
 refine zAd (b:=kp) (off:=4) (l:=dkL m ep v gs ls vs) (l':=dkL m ep v gs ls2 vs) ?_ rfl rfl
 refine yE (b:=kp) (off:=5) (l:=dkL m ep v gs ls2 vs) (x:=vs) ?_
 refine zKe (m:=1) (s:=vs) (E:=zy) (esz:=1) (vs:=E.map fun e:GE=>jr e.2.1) (us:=[jr vb]) (fun vs2 hvs2=>?_) (by omega)
 refine zAd (b:=kp) (off:=5) (l:=dkL m ep v gs ls2 vs) (l':=dkL m ep v gs ls2 vs2) ?_ rfl rfl
 refine zAn ?_
 have e1:(E.map fun e=>jr e.1)++[jr l] = ((E++[(l,vb,(⟨g,R.2.1,p,V⟩:GM))]).map fun e=>jr e.1):=by simp
 have e2:(E.map fun e=>jr e.2.1)++[jr vb] = ((E++[(l,vb,(⟨g,R.2.1,p,V⟩:GM))]).map fun e=>jr e.2.1):=by simp
 rw [e1,e2]
 refine zI (Δ:=LgR l m R.2.1::Sep.stars (E.map fun e=>LgR e.1 m e.2.2.W)::xA vb p V::Sep.stars (E.map fun e=>xA e.2.1 e.2.2.p e.2.2.V)::DkR kp m ep v gs ls2 vs2::SlC zZ 1 ls2 ((E++[(l,vb,(⟨g,R.2.1,p,V⟩:GM))]).map fun e=>jr e.1)::SlC zy 1 vs2 ((E++[(l,vb,(⟨g,R.2.1,p,V⟩:GM))]).map fun e=>jr e.2.1)::zk m M2::Γ) ?_
 refine zXV (F:=fun e:GE=>LgR e.1 m e.2.2.W) (x:=(l,vb,⟨g,R.2.1,p,V⟩)) ?_
 refine zI (Δ:=xA vb p V::Sep.stars (E.map fun e=>xA e.2.1 e.2.2.p e.2.2.V)::Sep.stars ((E++[(l,vb,(⟨g,R.2.1,p,V⟩:GM))]).map fun e=>LgR e.1 m e.2.2.W)::DkR kp m ep v gs ls2 vs2::SlC zZ 1 ls2 ((E++[(l,vb,(⟨g,R.2.1,p,V⟩:GM))]).map fun e=>jr e.1)::SlC zy 1 vs2 ((E++[(l,vb,(⟨g,R.2.1,p,V⟩:GM))]).map fun e=>jr e.2.1)::zk m M2::Γ) ?_
 refine zXV (F:=fun e:GE=>xA e.2.1 e.2.2.p e.2.2.V) (x:=(l,vb,⟨g,R.2.1,p,V⟩)) ?_
 refine zI (Δ:=DkR kp m ep v gs ls2 vs2::SlC zZ 1 ls2 ((E++[(l,vb,(⟨g,R.2.1,p,V⟩:GM))]).map fun e=>jr e.1)::SlC zy 1 vs2 ((E++[(l,vb,(⟨g,R.2.1,p,V⟩:GM))]).map fun e=>jr e.2.1)::Sep.stars ((E++[(l,vb,(⟨g,R.2.1,p,V⟩:GM))]).map fun e=>LgR e.1 m e.2.2.W)::Sep.stars ((E++[(l,vb,(⟨g,R.2.1,p,V⟩:GM))]).map fun e=>xA e.2.1 e.2.2.p e.2.2.V)::zk m M2::Γ) ?_
 refine hk' ((i:Int) + 1) (i + 1,R.1,M2,ls2,vs2,E++[(l,vb,⟨g,R.2.1,p,V⟩)]) ⟨by simp,by simp only; omega,hOk1,h2,by simp [hEl],?_⟩ (by simp only; omega)
 simp only
 rw [he]
 simp
theorem zS8 {n n':List UInt8} (hD:OkD D):OkD (D.rename n n').1:=by
 unfold zC.rename
 split
 ·exact hD
 cases hm:zO n D.files with
 | none=>exact hD
 | some f=>
  simp only
  split
  ·exact hD
  obtain ⟨g1,g2,g3,g4⟩:=hD.del hm
  have hfew:=hD.few
  have hus:=hD.used
  simp only
  split
  ·exact (g1.put (n:=n') (f:=f) (by simp only; omega) (zA4 hD hm).2 (by simp only; omega)).chg
  ·exact hD.chg
theorem zSD {n x:List UInt8} (hD:OkD D):OkD (D.save n x).1:=by
 have h1:=(zI3 (n:=zm n) hD).1
 have h2:=(zGG (n:=zm n) (x:=yj x) h1).1
 have h3:=(zIH (n:=zm n) h2).1
 unfold zC.save
 split
 ·exact hD
 split
 ·exact h1
 unfold zJO
 split
 ·exact h2
 unfold zK0
 split
 ·exact h3
 ·exact zS8 h3
theorem zLU {clock:Nat} {b:List UInt8} (hD:OkD D):OkD (j5 D clock b).1:=by
 unfold j5
 split
 ·exact hD
 split
 ·exact hD
 ·exact zSD hD
theorem zMx {clock:Nat} (hD:OkD D):OkD (uN D clock).1:=by
 unfold uN
 split
 ·exact zLU hD
 split
 ·exact hD
 ·exact zLU hD
def zFK (gl:List Int):Bool:=decide (2 < gl.length) || !decide gl.Nodup || gl.any fun g=>decide (g < 0) || decide (3 < g)
noncomputable def zBp (D:zC) (gl:List Int) (clock:Nat):zC×Int×Option (Nat×Bool×List GM) :=
 if zFK gl = true then (D,1,none)
 else if (uN D clock).2.2.2 ≠ 0 then ((uN D clock).1,(uN D clock).2.2.2,none)
 else ((jh (uN D clock).1 gl []).1,(jh (uN D clock).1 gl []).2.1,(jh (uN D clock).1 gl []).2.2.map fun G=>((uN D clock).2.1,(uN D clock).2.2.1,G))
theorem zP2 {clock:Nat} {gl:List Int} {q:Option Addr→Int→K} (hD:OkD D) (hR:x9 D M) (hc:clock < 18446744073709551616) (hl:(D.read uD).1.length ≤ 100000) (hgr:∀ w,Holds B Γ w→RdC w gs 1 (gl.map (Value.int .i64))) (hgn:gs.n = gl.length)
  (hno:(zBp D gl clock).2.2 = none→∀ M',x9 (zBp D gl clock).1 M'→HG B (zk m M'::Γ) (q none (zBp D gl clock).2.1))
  (hyes:∀ ep v G,(zBp D gl clock).2.2 = some (ep,v,G)→∀ kp M' ls vs E,x9 (zBp D gl clock).1 M'→E.map (fun e:GE=>e.2.2) = G→HG B (DkR kp m ep v gs ls vs::dkE m ls vs E (zk m M'::Γ)) (q (some ⟨kp,0,none⟩) 0)) :
  HG B (zk m M::Γ) (yg.call (some ⟨m,0,none⟩) gs (clock:Int) q):=by
 refine fun w hw=>zLr _ _ _ _ _ ?_
 refine hg hw ?_
 clear hw w
 unfold zBp at hno hyes
 have hgr':∀ {Ψ:List zB},[Drops Ψ Γ]→∀ w,Holds B Ψ w→RdC w gs 1 (gl.map (Value.int .i64)):=fun {Ψ} _ w hw=>hgr w (hw.drops (Δ:=Γ))
 have bad:zFK gl = true→HG B (zk m M::Γ) (q none 1):=fun h=>by
  rw [if_pos h] at hno
  exact hno rfl M hR
 have main:gl.length ≤ 2→gl.Nodup→HG B (zk m M::Γ) (yg.s1 q (some ⟨m,0,none⟩) gs (clock:Int) false):=fun hg2 hnd=>by
  unfold yg.s1
  refine s_f ?_ (by rfl)
  refine jm (α:=Int) (ι:=Nat) (fun y i=>y = (i:Int)∧i ≤ gl.length∧∀ g ∈ gl.take i,0 ≤ g∧g ≤ 3) (fun y i=>zk m M::Γ) (fun y i=>gl.length - i) 0 ⟨rfl,Nat.zero_le _,by simp⟩ ?_
  rintro k' _ i ⟨rfl,hi,hin⟩ hk'
  unfold yg.b2
  refine yA (fun hb=>?_) fun hb=>?_
  ·have hil:i < gl.length:=by simp only [decide_eq_true_eq] at hb; omega
   have hge:gl[i]? = some gl[i]:=List.getElem?_eq_getElem hil
   have hmem:gl[i] ∈ gl:=List.getElem_mem hil
   have htk:gl.take (i + 1) = gl.take i++[gl[i]]:=List.take_succ_eq_append_getElem hil
   generalize gl[i] = g at hge hmem htk
   have hbad:(g < 0∨3 < g)→zFK gl = true:=fun h=>by
    unfold zFK
    rw [Bool.or_eq_true]
    exact .inr (List.any_eq_true.2 ⟨g,hmem,by simpa using h⟩)
   refine jZ (c:=Value.int .i64) (L:=gl) (j:=i) (x:=g) (fun w hw=>hgr' w hw) hge ?_
   unfold yg.s3
   refine yA (fun h0=>?_) fun h0=>?_
   ·refine s_t ?_ (by rfl)
    exact bad (hbad (.inl (by simpa using h0)))
   refine jZ (c:=Value.int .i64) (L:=gl) (j:=i) (x:=g) (fun w hw=>hgr' w hw) hge ?_
   refine yA (fun h3=>?_) fun h3=>?_
   ·exact bad (hbad (.inr (by simpa using h3)))
   simp only [decide_eq_false_iff_not] at h0 h3
   refine zAn ?_
   refine hk' _ (i + 1) ⟨rfl,by omega,fun x hx=>?_⟩ (by omega)
   rw [htk] at hx
   rcases List.mem_append.1 hx with hx | hx
   ·exact hin x hx
   ·simp only [List.mem_singleton] at hx; subst hx; omega
  have hil:i = gl.length:=by simp only [decide_eq_false_iff_not] at hb; omega
  rw [hil,List.take_length] at hin
  have hgood:¬ zFK gl = true:=by
   unfold zFK
   rw [Bool.or_eq_true,Bool.or_eq_true]
   rintro ((h | h) | h)
   ·simp only [decide_eq_true_eq] at h; omega
   ·simp only [Bool.not_eq_true',decide_eq_false_iff_not] at h; exact h hnd
   ·obtain ⟨g,hg,h⟩:=List.any_eq_true.1 h
    have:=hin g hg
    simp only [Bool.or_eq_true,decide_eq_true_eq] at h
    omega
  rw [if_neg hgood] at hno hyes
  refine ql fun kp=>?_
  have hb1:=zMx (clock:=clock) hD
  refine zI (Δ:=DkR kp m 0 false gs ⟨none,0,0⟩ ⟨none,0,0⟩::zk m M::Γ) ?_
  refine zS6 hD hR hc hl (fun h0 M' h'=>?_) fun h0 M' h'=>?_
  ·rw [if_pos h0] at hno
   refine s_t ?_ (by simpa using h0)
   exact hno rfl M' h'
  ·rw [if_neg (by simpa using h0)] at hno hyes
   refine s_f ?_ (by rfl)
   refine zP1 hb1 h' hin hg2 hgr hgn (fun hn M2 h2=>hno (by rw [hn]; rfl) M2 h2) fun G hG M2 ls vs E h2 hE=>hyes _ _ G (by rw [hG]; rfl) kp M2 ls vs E h2 hE
 unfold yg
 refine zAQ ?_
 refine yA (fun h2=>?_) fun h2=>?_
 ·unfold yg.s1
  refine s_t ?_ (by rfl)
  refine bad ?_
  unfold zFK
  simp only [decide_eq_true_eq] at h2
  simp only [Bool.or_eq_true,decide_eq_true_eq]
  exact .inl (.inl (by omega))
 simp only [decide_eq_false_iff_not] at h2
 refine yA (fun h2e=>?_) fun h2e=>?_
 ·match gl,hgn with
  | [a,b],hgn=>
   refine jZ (c:=Value.int .i64) (L:=[a,b]) (j:=0) (x:=a) (fun w hw=>hgr' w hw) rfl ?_
   refine jZ (c:=Value.int .i64) (L:=[a,b]) (j:=1) (x:=b) (fun w hw=>hgr' w hw) rfl ?_
   by_cases hab:a = b
   ·rw [show decide (a = b) = true by simpa using hab]
    unfold yg.s1
    refine s_t ?_ (by rfl)
    refine bad ?_
    unfold zFK
    simp [hab]
   ·rw [show decide (a = b) = false by simpa using hab]
    exact main (by simp) (by simp [hab])
  | [],hgn=>simp only [decide_eq_true_eq] at h2e; simp at hgn; omega
  | [_],hgn=>simp only [decide_eq_true_eq] at h2e; simp at hgn; omega
  | _::_::_::_,hgn=>simp only [decide_eq_true_eq] at h2e; simp at hgn; omega
 ·have hl1:gl.length ≤ 1:=by simp only [decide_eq_false_iff_not] at h2e; omega
  refine main (by omega) ?_
  match gl,hl1 with
  | [],_=>simp
  | [_],_=>simp
  | _::_::_,h=>simp at h
end
end
section
open Go Go.Sep Go.Sep.Bt
abbrev gE:=Nat×GM
abbrev gmM (E:List gE):List (Int×Option Addr):=E.map fun e=>(e.2.g,some ⟨e.1,0,none⟩)
abbrev gmO (d:Nat) (E:List gE):zB:=Sep.stars (E.map fun e=>zDf e.1 d e.2.W e.2.p e.2.V)
theorem zSE {E:List gE} {g:Int} (h:g ∉ E.map fun e=>e.2.g):zO g (gmM E) = none:=by
 induction E with
 | nil=>rfl
 | cons p E ih=>
  simp only [List.map_cons,List.mem_cons,not_or] at h
  simp only [gmM,List.map_cons,zO]
  rw [if_neg h.1]
  exact ih h.2
section
variable {B:World} {Γ Δ:List zB} {k:K} {d:Nat} {D:zC} {s:Sl}
theorem zVL {clock:Nat} {gl:List Int} {q:Option Addr→Int→K} (hD:OkD D) (hc:clock < 18446744073709551616) (hl:(D.read uD).1.length ≤ 100000) (hr:∀ w,Holds B Γ w→RdC w s 1 (gl.map (Value.int .i64)))
  (hno:(zBp D gl clock).2.2 = none→OkD (zBp D gl clock).1→HG B (zJ d (zBp D gl clock).1::Γ) (q none (zBp D gl clock).2.1))
  (hyes:∀ ep v G,(zBp D gl clock).2.2 = some (ep,v,G)→OkD (zBp D gl clock).1→∀ kp mb E,E.map (fun e:gE=>e.2) = G→E.map (fun e:gE=>e.2.g) = gl→gl.Nodup→HG B (KpR kp d ep v mb::qM (Value.int .i64) Value.pointer mb (gmM E)::gmO d E::zJ d (zBp D gl clock).1::Γ) (q (some ⟨kp,0,none⟩) 0)) :
  HG B (zJ d D::Γ) (yR.call (some ⟨d,0,none⟩) s (clock:Int) q):=fun w hw=>by
 refine zE7 _ _ _ _ _ ?_
 have hsn:s.n = gl.length:=by have:=(hr w hw.tail).len; rw [List.length_map] at this; omega
 refine hg hw ?_
 clear hw w
 unfold zBp at hno hyes
 unfold yR
 refine zKB (enc:=Value.int .i64) (cV:=Value.int .i64) fun sb=>?_
 have bad:∀ {Ψ:List zB},[Drops Ψ (zJ d D::Γ)]→zFK gl = true→HG B Ψ (q none 1):=fun {Ψ} _ h=>by
  rw [if_pos h] at hno
  exact zI (Δ:=zJ d D::Γ) (hno rfl hD)
 refine jm (α:=Int) (ι:=Nat×List (Int×Int)) (fun y i=>y = (i.1:Int)∧i.1 ≤ gl.length∧(∀ g ∈ gl.take i.1,0 ≤ g∧g ≤ 3)∧(gl.take i.1).Nodup∧(gl.length ≤ 2∨i.1 = 0)∧∀ g,zO g i.2 = if g ∈ gl.take i.1 then some 1 else none) (fun y i=>qM (Value.int .i64) (Value.int .i64) sb i.2::zJ d D::Γ) (fun y i=>gl.length - i.1) (0,[]) ⟨rfl,Nat.zero_le _,by simp,by simp,.inr rfl,fun g=>by simp [zO]⟩ ?_
 rintro k' _ ⟨i,M⟩ ⟨rfl,hi,hin,hnd,h2,hM⟩ hk'
 simp only at hi hin hnd h2 hM hk' ⊢
 unfold yR.b1
 refine yA (fun hb=>?_) fun hb=>?_
 ·have hil:i < gl.length:=by simp only [decide_eq_true_eq] at hb; omega
  have hge:gl[i]? = some gl[i]:=List.getElem?_eq_getElem hil
  have hmem:gl[i] ∈ gl:=List.getElem_mem hil
  have htk:gl.take (i + 1) = gl.take i++[gl[i]]:=List.take_succ_eq_append_getElem hil
  generalize gl[i] = g at hge hmem htk
  have hbad:(g < 0∨3 < g)→zFK gl = true:=fun h=>by
   unfold zFK
   rw [Bool.or_eq_true]
   exact .inr (List.any_eq_true.2 ⟨g,hmem,by simpa using h⟩)
  refine jZ (L:=gl) (c:=Value.int .i64) (j:=i) (x:=g) (fun w hw=>hr w (hw.drops (Δ:=Γ))) hge ?_
  refine zDj (b:=sb) (m:=M) (a:=g) (cV:=Value.int .i64) (cG:=Value.int .i64) (g:=id) (z:=(0:Int)) (enc:=Value.int .i64) (fun _=>rfl) zJT (zAr .i64) zBz ?_
  unfold yR.s2
  by_cases hdup:g ∈ gl.take i
  ·rw [hM g,if_pos hdup,Option.getD_some]
   have hbd:zFK gl = true:=by
    unfold zFK
    rw [Bool.or_eq_true,Bool.or_eq_true]
    refine .inl (.inr ?_)
    simp only [Bool.not_eq_true',decide_eq_false_iff_not]
    intro hn
    have h1:=hn
    rw [← List.take_append_drop (i + 1) gl,htk] at h1
    have h3:=(List.nodup_append.1 h1).1
    exact (List.nodup_append.1 h3).2.2 g hdup g (by simp) rfl
   refine vI (show IntKind.wrap .i64 (id (1:Int) + 1) = 2 by rfl) ?_
   refine zO9 (b:=sb) (m:=M) (a:=g) (cV:=Value.int .i64) (enc:=Value.int .i64) (v:=(2:Int)) (cG:=Value.int .i64) rfl zJT (zAr .i64) ?_
   refine yA (fun _=>s_t (bad hbd) (by rfl)) fun _=>?_
   refine yA (fun _=>s_t (bad hbd) (by rfl)) fun _=>?_
   refine zDj (b:=sb) (m:=qR g 2 M) (a:=g) (cV:=Value.int .i64) (cG:=Value.int .i64) (g:=id) (z:=(0:Int)) (enc:=Value.int .i64) (fun _=>rfl) zJT (zAr .i64) zBz ?_
   rw [xK,if_pos rfl,Option.getD_some]
   refine s_t ?_ (by rfl)
   exact s_t (bad hbd) (by rfl)
  rw [hM g,if_neg hdup,Option.getD_none]
  refine vI (show IntKind.wrap .i64 (id (0:Int) + 1) = 1 by rfl) ?_
  refine zO9 (b:=sb) (m:=M) (a:=g) (cV:=Value.int .i64) (enc:=Value.int .i64) (v:=(1:Int)) (cG:=Value.int .i64) rfl zJT (zAr .i64) ?_
  refine yA (fun h0=>s_t (bad (hbad (.inl (by simpa using h0)))) (by rfl)) fun h0=>?_
  refine yA (fun h3=>s_t (bad (hbad (.inr (by simpa using h3)))) (by rfl)) fun h3=>?_
  simp only [decide_eq_false_iff_not] at h0 h3
  refine zDj (b:=sb) (m:=qR g 1 M) (a:=g) (cV:=Value.int .i64) (cG:=Value.int .i64) (g:=id) (z:=(0:Int)) (enc:=Value.int .i64) (fun _=>rfl) zJT (zAr .i64) zBz ?_
  rw [xK,if_pos rfl,Option.getD_some]
  refine s_f ?_ (by rfl)
  refine yA (fun h4=>?_) fun h4=>?_
  ·refine bad ?_
   unfold zFK
   simp only [decide_eq_true_eq] at h4
   simp only [Bool.or_eq_true,decide_eq_true_eq]
   exact .inl (.inl (by omega))
  simp only [decide_eq_false_iff_not] at h4
  refine zAn ?_
  refine hk' ((i:Int) + 1) (i + 1,qR g 1 M) ⟨by simp,hil,fun x hx=>?_,?_,.inl (by omega),fun x=>?_⟩ (by simp only; omega)
  ·simp only at hx
   rw [htk] at hx
   rcases List.mem_append.1 hx with hx | hx
   ·exact hin x hx
   ·simp only [List.mem_singleton] at hx; subst hx; omega
  ·simp only
   rw [htk]
   refine List.nodup_append.2 ⟨hnd,by simp,fun a ha b hb=>?_⟩
   simp only [List.mem_singleton] at hb
   subst hb
   rintro rfl
   exact hdup ha
  ·simp only
   rw [xK,htk]
   by_cases e:x = g
   ·rw [if_pos e,if_pos (by simp [e])]
   ·rw [if_neg e,hM x]
    simp [e]
 have hil:i = gl.length:=by simp only [decide_eq_false_iff_not] at hb; omega
 rw [hil,List.take_length] at hin hnd
 have hl2:gl.length ≤ 2:=by omega
 have hgood:¬ zFK gl = true:=by
  unfold zFK
  rw [Bool.or_eq_true,Bool.or_eq_true]
  rintro ((h | h) | h)
  ·simp only [decide_eq_true_eq] at h; omega
  ·simp only [Bool.not_eq_true',decide_eq_false_iff_not] at h; exact h hnd
  ·obtain ⟨g,hg,h⟩:=List.any_eq_true.1 h
   have:=hin g hg
   simp only [Bool.or_eq_true,decide_eq_true_eq] at h
   omega
 rw [if_neg hgood] at hno hyes
 refine zI (Δ:=zJ d D::Γ) ?_
 refine zKB (enc:=Value.int .i64) (cV:=Value.pointer) fun mb=>?_
 refine ql fun kp=>?_
 refine zI (Δ:=KpR kp d 0 false mb::zJ d D::qM (Value.int .i64) Value.pointer mb ([]:List (Int×Option Addr))::Γ) ?_
 refine zS5 hD hc hl (fun h0=>?_) fun h0 ho=>?_
 ·rw [if_pos h0] at hno
  refine s_t ?_ (by simpa using h0)
  exact zI (Δ:=zJ d (uN D clock).1::Γ) (hno rfl (zMx hD))
 rw [if_neg (by simpa using h0)] at hno hyes
 refine s_f ?_ (by rfl)
 generalize uN D clock = R at *
 refine fun w hw=>hg (show Holds B (gmO d []::_) w from hw.zA6) ?_
 clear hw w
 refine zI (Δ:=KpR kp d R.2.1 R.2.2.1 mb::qM (Value.int .i64) Value.pointer mb ([]:List (Int×Option Addr))::zJ d R.1::gmO d []::Γ) ?_
 refine jm (α:=Int) (ι:=Nat×zC×List gE) (fun y i=>y = (i.1:Int)∧i.1 ≤ gl.length∧OkD i.2.1∧(i.2.2.map fun e=>e.2.g) = gl.take i.1∧jh R.1 gl [] = jh i.2.1 (gl.drop i.1) (i.2.2.map fun e=>e.2)) (fun y i=>KpR kp d R.2.1 R.2.2.1 mb::qM (Value.int .i64) Value.pointer mb (gmM i.2.2)::zJ d i.2.1::gmO d i.2.2::Γ) (fun y i=>gl.length - i.1) (0,R.1,[]) ⟨rfl,Nat.zero_le _,ho,rfl,rfl⟩ ?_
 rintro k2 _ ⟨i2,D',E⟩ ⟨rfl,hi2,hD',hG,he⟩ hk2
 simp only at hi2 hD' hG he hk2 ⊢
 unfold yR.b3
 refine yA (fun hb2=>?_) fun hb2=>?_
 ·have hil:i2 < gl.length:=by simp only [decide_eq_true_eq] at hb2; omega
  have hge:gl[i2]? = some gl[i2]:=List.getElem?_eq_getElem hil
  have hmem:gl[i2] ∈ gl:=List.getElem_mem hil
  have htk:gl.take (i2 + 1) = gl.take i2++[gl[i2]]:=List.take_succ_eq_append_getElem hil
  have hnot:gl[i2] ∉ gl.take i2:=fun hm=>by
   have h1:=hnd
   rw [← List.take_append_drop i2 gl] at h1
   exact (List.nodup_append.1 h1).2.2 _ hm _ (by rw [List.drop_eq_getElem_cons hil]; exact List.mem_cons_self) rfl
  obtain ⟨g0,g3⟩:=hin _ hmem
  rw [List.drop_eq_getElem_cons hil,zEz] at he
  generalize gl[i2] = g at hge htk hnot g0 g3 he
  refine jZ (L:=gl) (c:=Value.int .i64) (j:=i2) (x:=g) (fun w hw=>hr w (hw.drops (Δ:=Γ))) hge ?_
  refine zS7 g0 g3 hD' (fun hne hD2=>?_) fun W p V gb heq hD2=>?_
  ·have hn:(jL D' g).2.2 = none:=by
    unfold jL at hne ⊢
    split
    ·rfl
    ·rename_i h
     rw [if_neg h] at hne
     cases hr:jd 0 [] ((uG (yQ g) 40960).load D').2.1.recs with
     | none=>rfl
     | some x=>rw [hr] at hne; exact absurd rfl hne
   rw [hn] at he
   simp only at he
   rw [he] at hno
   refine s_t ?_ (by simpa using hne)
   exact zI (Δ:=zJ d (jL D' g).1::Γ) (hno rfl hD2)
  ·have hs:(jL D' g).2.2 = some (W,p,V):=by rw [heq]
   rw [hs] at he
   simp only at he
   refine s_f ?_ (by rfl)
   refine zAn ?_
   rw [zAV (zSE (by rw [hG]; exact hnot))]
   refine zI (Δ:=zDf gb d W p V::gmO d E::KpR kp d R.2.1 R.2.2.1 mb::qM (Value.int .i64) Value.pointer mb (gmM E++[(g,some ⟨gb,0,none⟩)])::zJ d (jL D' g).1::Γ) ?_
   have:=hk2 ((i2:Int) + 1) (i2 + 1,(jL D' g).1,E++[(gb,⟨g,W,p,V⟩)]) ⟨by simp,hil,hD2,by simp only; rw [List.map_append,hG,htk]; rfl,by simp only; rw [he]; simp⟩ (by simp only; omega)
   refine zN5 (F:=fun e:gE=>zDf e.1 d e.2.W e.2.p e.2.V) (A:=E) (x:=(gb,⟨g,W,p,V⟩)) ?_
   rw [show gmM E++[(g,some ⟨gb,0,none⟩)] = gmM (E++[(gb,⟨g,W,p,V⟩)]) by simp [gmM]]
   exact zI this
 ·have hil:i2 = gl.length:=by simp only [decide_eq_false_iff_not] at hb2; omega
  rw [hil,List.take_length] at hG
  rw [hil,List.drop_length] at he
  simp only [jh] at he
  rw [he] at hyes
  exact zI (hyes _ _ _ rfl hD' kp mb E rfl hG hnd)
end
end
section
open Go Go.Sep
theorem zDZ {n n':List UInt8} (hn:n' ≠ n):∀ fs:Files,zO n' (vJ n fs) = zO n' fs
 | []=>rfl
 | p::fs=>by
  unfold vJ
  split
  ·rename_i h
   rw [zO,if_neg (by rw [← h]; exact hn)]
  ·simp only [zO]
   split
   ·rfl
   ·exact zDZ hn fs
theorem zLV {n:List UInt8} {p:List UInt8×vK}:∀ {fs:Files},p ∈ vJ n fs→p ∈ fs
 | [],h=>h
 | x::fs,h=>by
  unfold vJ at h
  split at h
  ·exact List.mem_cons_of_mem _ h
  ·rcases List.mem_cons.1 h with rfl | h
   ·exact List.mem_cons_self
   ·exact List.mem_cons_of_mem _ (zLV h)
theorem zGI {n:List UInt8} {v:vK} {p:List UInt8×vK}:∀ {fs:Files},p ∈ qR n v fs→p = (n,v)∨p ∈ fs
 | [],h=>.inl (by simpa [qR] using h)
 | x::fs,h=>by
  unfold qR at h
  split at h
  ·rcases List.mem_cons.1 h with rfl | h
   ·exact .inl rfl
   ·exact .inr (List.mem_cons_of_mem _ h)
  ·rcases List.mem_cons.1 h with rfl | h
   ·exact .inr List.mem_cons_self
   ·exact (zGI h).imp id (List.mem_cons_of_mem _)
theorem zDu (a:DkA) (hd:a.down = false):(chg a).1.room = a.room∧((chg a).2 = 0∧(chg a).1.down = false∨(chg a).2 = 3∧(chg a).1.down = true):=by
 unfold chg
 split
 ·exact ⟨rfl,.inr ⟨rfl,rfl⟩⟩
 split
 ·exact ⟨rfl,.inl ⟨rfl,hd⟩⟩
 ·exact ⟨rfl,.inl ⟨rfl,hd⟩⟩
def sfF (x:List UInt8):vK:=⟨yj x,(yj x).length⟩
structure Saved (D:zC) (n x:List UInt8) (R:zC×Int):Prop where
 room:R.1.a.room = D.a.room
 two:(R.2 = 0∧zO n R.1.files = some (sfF x)∧R.1.a.down = false)∨(R.2 = 3∧zO n R.1.files = zO n D.files∧R.1.a.down = true)
 oth:∀ m,m ≠ n→m ≠ zm n→zO m R.1.files = zO m D.files
 mem:∀ p ∈ R.1.files,p ∈ D.files∨((p.1 = n∨p.1 = zm n)∧p.2.data = yj x)
theorem zP3 (n:List UInt8):n ≠ zm n:=fun h=>by have:=congrArg List.length h; simp [zm] at this
theorem zVM {D:zC} {n x:List UInt8} (hD:OkD D) (hd:D.a.down = false) (hn:1 ≤ n.length∧n.length ≤ 15) (hf:D.files.length < 32) (hr:(yc D.files:Int) + (yj x).length ≤ D.a.room):Saved D n x (D.save n x):=by
 have hne:=zP3 n
 have hn0:n ≠ []:=fun h=>by rw [h] at hn; simp at hn
 have hnn:named n = true:=by unfold named; simp [hn0]; omega
 have hnx:named (zm n) = true:=by unfold named zm; simp; omega
 unfold zC.save
 rw [if_neg (by
         rintro (h | h); · exact hn0 h
         ·omega)]
 have h0:∀ E:zC,OkD E→E.a.down = false→E.a.room = D.a.room→E.files.length < 32→(yc E.files:Int) ≤ yc D.files→zO (zm n) E.files = none→(∀ m,m ≠ zm n→zO m E.files = zO m D.files)→(∀ p ∈ E.files,p ∈ D.files)→Saved D n x (zJO E n x):=by
  intro E hE e1 e2 e3 e4 e5 e6 e7
  obtain ⟨c1,c2⟩:=zDu E.a e1
  unfold zJO
  have hap:E.append (zm n) (yj x) = (⟨(chg E.a).1,qR (zm n) ⟨yj x,0⟩ E.files⟩,(chg E.a).2):=by
   unfold zC.append
   rw [if_neg (by rw [e1]; decide),if_neg (by rw [hnx]; decide),if_neg (by rw [e2]; omega),e5]
   rfl
  rw [hap]
  have oth1:∀ (v:vK) m,m ≠ n→m ≠ zm n→zO m (qR (zm n) v E.files) = zO m D.files:=fun v m h1 h2=>by rw [xK,if_neg h2]; exact e6 m h2
  have mem1:∀ (v:vK),v.data = yj x→∀ p ∈ qR (zm n) v E.files,p ∈ D.files∨((p.1 = n∨p.1 = zm n)∧p.2.data = yj x):=fun v hv p hp=>by
   rcases zGI hp with rfl | hp
   ·exact .inr ⟨.inr rfl,hv⟩
   ·exact .inl (e7 p hp)
  rcases c2 with ⟨c2,c3⟩ | ⟨c2,c3⟩
  rotate_left
  ·rw [if_pos (by rw [c2]; decide)]
   exact ⟨by simp only; rw [c1,e2],.inr ⟨c2,by simp only; rw [xK,if_neg hne]; exact e6 n hne,c3⟩,oth1 _,mem1 _ rfl⟩
  rw [if_neg (by rw [c2]; decide)]
  simp only
  unfold zK0
  obtain ⟨d1,d2⟩:=zDu (chg E.a).1 c3
  have hsy:(⟨(chg E.a).1,qR (zm n) ⟨yj x,0⟩ E.files⟩:zC).sync (zm n) = (⟨(chg (chg E.a).1).1,if (chg (chg E.a).1).2 = 0 then qR (zm n) (sfF x) (qR (zm n) ⟨yj x,0⟩ E.files) else qR (zm n) ⟨yj x,0⟩ E.files⟩,(chg (chg E.a).1).2):=by
   unfold zC.sync
   rw [if_neg (by simp only; rw [c3]; decide)]
   simp only
   rw [xK,if_pos rfl]
   rfl
  rw [hsy]
  rcases d2 with ⟨d2,d3⟩ | ⟨d2,d3⟩
  rotate_left
  ·rw [if_pos (by simp only; rw [d2]; decide)]
   rw [if_neg (by rw [d2]; decide)]
   exact ⟨by simp only; rw [d1,c1,e2],.inr ⟨d2,by simp only; rw [xK,if_neg hne]; exact e6 n hne,d3⟩,oth1 _,mem1 _ rfl⟩
  rw [if_neg (by simp only; rw [d2]; decide)]
  simp only
  rw [if_pos d2]
  unfold zPO
  obtain ⟨f1,f2⟩:=zDu (chg (chg E.a).1).1 d3
  have hrn:(⟨(chg (chg E.a).1).1,qR (zm n) (sfF x) (qR (zm n) ⟨yj x,0⟩ E.files)⟩:zC).rename (zm n) n = (⟨(chg (chg (chg E.a).1).1).1,if (chg (chg (chg E.a).1).1).2 = 0 then qR n (sfF x) (vJ (zm n) (qR (zm n) (sfF x) (qR (zm n) ⟨yj x,0⟩ E.files))) else qR (zm n) (sfF x) (qR (zm n) ⟨yj x,0⟩ E.files)⟩,(chg (chg (chg E.a).1).1).2):=by
   unfold zC.rename
   rw [if_neg (by simp only; rw [d3]; decide)]
   simp only
   rw [xK,if_pos rfl]
   simp only
   rw [if_neg (by rw [hnn]; decide)]
  rw [hrn]
  have oth2:∀ m,m ≠ n→m ≠ zm n→zO m (qR (zm n) (sfF x) (qR (zm n) ⟨yj x,0⟩ E.files)) = zO m D.files:=fun m h1 h2=>by rw [xK,if_neg h2]; exact oth1 _ m h1 h2
  have mem2:∀ p ∈ qR (zm n) (sfF x) (qR (zm n) ⟨yj x,0⟩ E.files),p ∈ D.files∨((p.1 = n∨p.1 = zm n)∧p.2.data = yj x):=fun p hp=>by
   rcases zGI hp with rfl | hp
   ·exact .inr ⟨.inr rfl,rfl⟩
   ·exact mem1 _ rfl p hp
  rcases f2 with ⟨f2,f3⟩ | ⟨f2,f3⟩
  rotate_left
  ·rw [if_neg (by rw [f2]; decide)]
   exact ⟨by simp only; rw [f1,d1,c1,e2],.inr ⟨f2,by simp only; rw [xK,if_neg hne,xK,if_neg hne]; exact e6 n hne,f3⟩,oth2,mem2⟩
  rw [if_pos f2]
  refine ⟨by simp only; rw [f1,d1,c1,e2],.inl ⟨f2,by simp only; rw [xK,if_pos rfl],f3⟩,fun m h1 h2=>?_,fun p hp=>?_⟩
  ·simp only
   rw [xK,if_neg h1,zDZ h2]
   exact oth2 m h1 h2
  ·simp only at hp
   rcases zGI hp with rfl | hp
   ·exact .inr ⟨.inl rfl,rfl⟩
   ·exact mem2 p (zLV hp)
 cases hm:zO (zm n) D.files with
 | none=>
  have hrm:D.remove (zm n) = (D,60):=by unfold zC.remove; rw [if_neg (by rw [hd]; decide),hm]
  rw [hrm,if_neg (by simp)]
  exact h0 D hD hd rfl hf (Int.le_refl _) hm (fun _ _=>rfl) fun p hp=>hp
 | some f=>
  obtain ⟨c1,c2⟩:=zDu D.a hd
  have hrm:D.remove (zm n) = (⟨(chg D.a).1,if (chg D.a).2 = 0 then vJ (zm n) D.files else D.files⟩,(chg D.a).2):=by unfold zC.remove; rw [if_neg (by rw [hd]; decide),hm]
  rw [hrm]
  rcases c2 with ⟨c2,c3⟩ | ⟨c2,c3⟩
  ·rw [if_neg (by rw [c2]; simp),if_pos c2]
   obtain ⟨g1,g2,g3,g4⟩:=hD.del hm
   refine h0 _ (OkD.chg g1) c3 c1 ?_ ?_ g2 (fun m hmn=>zDZ hmn _) fun p hp=>zLV hp
   ·simp only; omega
   ·simp only; omega
  ·rw [if_pos (by rw [c2]; decide)]
   rw [if_neg (by rw [c2]; decide)]
   exact ⟨c1,.inr ⟨c2,rfl,c3⟩,fun _ _ _=>rfl,fun p hp=>.inl hp⟩
end
section
open Go Go.Sep
set_option maxHeartbeats 4000000
attribute [local irreducible] G Gp Cx Tx Ex Sx Dx Ox Ax Lx Rx Fx Bx Bj Al Do Ld LdN St StN New zX Ar DoU Rd Rd2 Pu Cd Ite Fv zAk j6 zAY qD jT zCN zDC zDc Ext Dead Dr xW Sv LdS zBt RdS zDw Nn Idx zCO zDx Fld Bld Slc zDy Cat All yM zAC zAD zAl
instance:AT Tryz.prog 56 7:=⟨by kernel_rfl⟩
instance:CB Tryz.prog 10:=⟨by kernel_rfl⟩
instance:CB Tryz.prog 13:=⟨by kernel_rfl⟩
instance:CB Tryz.prog 14:=⟨by kernel_rfl⟩
instance:CB Tryz.prog 15:=⟨by kernel_rfl⟩
instance:CB Tryz.prog 16:=⟨by kernel_rfl⟩
instance:CB Tryz.prog 44:=⟨by kernel_rfl⟩
instance:CB Tryz.prog 45:=⟨by kernel_rfl⟩
instance:CB Tryz.prog 47:=⟨by kernel_rfl⟩
instance:CB Tryz.prog 48:=⟨by kernel_rfl⟩
instance:CB Tryz.prog 49:=⟨by kernel_rfl⟩
instance:CB Tryz.prog 50:=⟨by kernel_rfl⟩
instance:CB Tryz.prog 7:=⟨by kernel_rfl⟩
instance:CB Tryz.prog 8:=⟨by kernel_rfl⟩
instance:CB Tryz.prog 9:=⟨by kernel_rfl⟩
instance:FT Tryz.prog 56 0 0 1:=⟨by kernel_rfl⟩
instance:FT Tryz.prog 56 1 1 1:=⟨by kernel_rfl⟩
instance:FT Tryz.prog 56 2 2 1:=⟨by kernel_rfl⟩
instance:FT Tryz.prog 56 4 4 1:=⟨by kernel_rfl⟩
instance:FT Tryz.prog 56 5 5 1:=⟨by kernel_rfl⟩
instance:FT Tryz.prog 56 6 6 1:=⟨by kernel_rfl⟩
instance:SLT Tryz.prog 46 56 7:=⟨by kernel_rfl⟩
instance:SZ Tryz.prog 56 7:=⟨by kernel_rfl⟩
instance:UN Tryz.prog 24 (.pointer 62):=⟨Tryz.underlying24⟩
instance:UN Tryz.prog 29 (.pointer 68):=⟨Tryz.underlying29⟩
instance:UN Tryz.prog 4 .bool:=⟨Tryz.underlying4⟩
instance:ZT Tryz.prog 56 (.agg #[(.int .i64 0),(.int .i64 0),(.int .i64 0),(.int .i64 0),(.int .u64 0),(.string ⟨#[]⟩),(Sl.val ⟨none,0,0⟩)]):=⟨Tryz.t56,by kernel_rfl,by kernel_rfl⟩
def qd.s2 (Q:Bool→K) (a:Bool): K :=
 Q a
def qd.s1 (Q:Bool→K) (k l:Pt) (m:Bool): K :=
 Ite m
  (Q false)
  (New 3 #[.int .i64 0] fun c=>
  yR.call k (Sl.mk (some c) 1 1) 0 fun a n=>
  New 3 #[.int .i64 0] fun d=>
  yR.call l (Sl.mk (some d) 1 1) 7 fun b o=>
  Ite (!(a).isNone)
   (Ite (!(b).isNone)
    (vE.call a fun f=>
    Ite (decide (f = 1))
     (vF.call a fun g=>
     Ite g
      (vE.call b fun i=>
      Ite (decide (i = 8))
       (vF.call b fun j=>
       qd.s2 Q (!j))
       (qd.s2 Q false))
      (qd.s2 Q false))
     (qd.s2 Q false))
    (qd.s2 Q false))
   (qd.s2 Q false))
def qd  (Q:Bool→K): K :=
 zAM.call 1000 fun a d=>
 zAM.call 1000 fun b f=>
 Ite ((a).isNone)
  (qd.s1 Q a b true)
  (Ite ((b).isNone)
   (qd.s1 Q a b true)
   (ji.call a fun c=>
   qd.s1 Q a b (decide (c ≠ 0))))
theorem zJs (Q w) (h:qd  Q w):qd.call  Q w:=by
 have:JH 1000007 fun D=>D [] (fun C=>∀ c,C [(0,.bool c)] (qd.s2 Q c)):=⟨fun _ h=>⟨_,_,h⟩⟩
 have:JH 4 fun D=>∃ a b,D [(1,.pointer a),(3,.pointer b)] (fun C=>∀ d,C [(1,.pointer a),(3,.pointer b),(27,.bool d)] (qd.s1 Q a b d)):=⟨fun _ ⟨_,_,h⟩=>⟨_,_,h⟩⟩
 exact zS 65 h Tryz.func6
def vv.s2 (Q:Bool→K) (b:Int→K) (f:Sl) (g c:Int) (d:Bool): K :=
 Ite d
  (Q true)
  (Ar (IntKind.wrap .i64 (c + 1)) fun a=>
  b a)
def vv.b1 (Q:Bool→K) (f:Int→K) (c:Sl) (d a:Int): K :=
 Ite (decide (a < d))
  (Idx c a 7 fun g=>
  LdN g 7 fun i=>
  New 56 #[.int .i64 0,.int .i64 0,.int .i64 0,.int .i64 0,.int .u64 0,(.string ⟨#[]⟩),Sl.val ⟨none,0,0⟩] fun b=>
  StN b 7 i<|
  Ld (b.add 5) Value.string fun j=>
  Ite (decide ((5000:Int) < (j.size:Int)))
   (vv.s2 Q f c d a true)
   (Ld (b.add 6) Sl.val fun k=>
   vv.s2 Q f c d a (decide ((50:Int) < (k.n:Int)))))
  (Q false)
def vv (a:Sl) (Q:Bool→K): K :=
 Ite (decide ((60:Int) < (a.n:Int)))
  (Q true)
  (yM (α:=Int) (fun X x=>vv.b1 Q X a (a.n:Int) x) 0)
theorem zLW (d Q w) (h:vv d Q w):vv.call d Q w:=by
 have:∀ f,XH 4 f→JH 7 fun D=>∃ a b c,D [(8,Sl.val a),(9,.int .i64 b),(10,.int .i64 c)] (fun C=>∀ g,C [(8,Sl.val a),(9,.int .i64 b),(10,.int .i64 c),(23,.bool g)] (vv.s2 Q f a b c g)):=by intros; exact ⟨fun _ ⟨_,_,_,h⟩=>⟨_,_,h⟩⟩
 have:∀ i j,LH 4 (fun x:Int=>[(8,Sl.val i),(9,.int .i64 j),(10,.int .i64 x)]) (fun X x=>vv.b1 Q X i j x):=fun _ _=>⟨⟩
 exact zS 25 h Tryz.func17
def xU.s2 (Q:Bool→K) (b:Int→K) (f:Pt) (g:Addr) (i j:Sl) (k c:Int) (d:Bool): K :=
 Ite d
  (Q false)
  (Ar (IntKind.wrap .i64 (c + 1)) fun a=>
  b a)
def xU.b1 (Q:Bool→K) (j:Int→K) (c:Pt) (d:Addr) (f g:Sl) (i a:Int): K :=
 Ite (decide (a < i))
  (Idx g a 3 fun k=>
  LdN k 3 fun l=>
  New 116 #[(.string ⟨#[]⟩),Sl.val ⟨none,0,0⟩,.int .i64 0] fun b=>
  StN b 3 l<|
  Ld b Value.string fun m=>
  jk.call c m fun n o=>
  Ld b Value.string fun p=>
  uw.call (some d) p fun q r=>
  Dr<|
  Idx f a 1 fun s=>
  Ld s Value.string fun t=>
  Ld b Value.string fun u=>
  Ite (!(t.toList == u.toList))
   (xU.s2 Q j c d f g i a true)
   (Ite (decide (o ≠ r))
    (xU.s2 Q j c d f g i a true)
    (Rd Tryz.prog (convert 22 9 (Sl.val n)) Value.string fun v=>
    Rd Tryz.prog (convert 22 9 (Sl.val q)) Value.string fun x=>
    xU.s2 Q j c d f g i a (!(v.toList == x.toList)))))
  (Q true)
def xU (d g:Pt) (Q:Bool→K): K :=
 j4.call d fun b=>
 Nn g fun a=>
 Ld (a.add 1) Sl.val fun f=>
 Ite (decide ((b.n:Int) ≠ (f.n:Int)))
  (Q false)
  (Ld (a.add 1) Sl.val fun c=>
  yM (α:=Int) (fun X x=>xU.b1 Q X d a b c (c.n:Int) x) 0)
theorem zLX (i j Q w) (h:xU i j Q w):xU.call i j Q w:=by
 have:∀ k,XH 5 k→JH 10 fun D=>∃ a b c d f g,D [(0,.pointer a),(1,(.pointer (some b))),(5,Sl.val c),(25,Sl.val d),(26,.int .i64 f),(27,.int .i64 g)] (fun C=>∀ l,C [(0,.pointer a),(1,(.pointer (some b))),(5,Sl.val c),(25,Sl.val d),(26,.int .i64 f),(27,.int .i64 g),(64,.bool l)] (xU.s2 Q k a b c d f g l)):=by intros; exact ⟨fun _ ⟨_,_,_,_,_,_,h⟩=>⟨_,_,h⟩⟩
 have:∀ m n o p q,LH 5 (fun x:Int=>[(0,.pointer m),(1,(.pointer (some n))),(5,Sl.val o),(25,Sl.val p),(26,.int .i64 q),(27,.int .i64 x)]) (fun X x=>xU.b1 Q X m n o p q x):=fun _ _ _ _ _=>⟨⟩
 exact zS 66 h Tryz.func21
def yT.s2 (Q:Bool→K) (a:Bool): K :=
 Q a
def yT.s1 (Q:Bool→K) (a c:Pt) (d:Addr): K :=
 Dr <| xW fun S=>
 LdS S (d.add 1) (Value.int .i64) fun f=>
 LdS S (d.add 1) (Value.int .i64) fun g=>
 vZ.call a f fun i=>
 Sv S<|
 uY.call c g fun j=>
 Sv S<|
 Ite (decide (i = j))
  (Nn c fun b=>
  LdS S (b.add 1) (Value.int .u64) fun k=>
  vE.call a fun l=>
  Sv S<|
  Ite (decide (l = k))
   (LdS S (b.add 2) Value.bool fun m=>
   vF.call a fun n=>
   Sv S<|
   yT.s2 Q (n == m))
   (yT.s2 Q false))
  (yT.s2 Q false)
def yT.s3 (Q:Bool→K) (a b:Pt) (c:Addr) (d:Bool): K :=
 Ite d
  (Q false)
  (yT.s1 Q a b c)
def yT.s4 (Q:Bool→K) (a:Pt) (b c:Addr) (d:Bool): K :=
 Ite d
  (Q false)
  (yT.s1 Q a (some b) c)
def yT.s5 (Q:Bool→K) (a b:Pt) (c:Addr) (d:Bool): K :=
 Ite d
  (Q false)
  (yT.s1 Q a b c)
def yT (b c:Pt) (az:Av) (Q:Bool→K): K :=
 New 56 az fun a=>
 Ld a (Value.int .i64) fun o=>
 Ar (bitsOf .and .i64 o 3) fun m=>
 Ite (decide (m = 0))
  (Ld (a.add 1) (Value.int .i64) fun p=>
  Ld (a.add 4) (Value.int .u64) fun q=>
  Ld (a.add 2) (Value.int .i64) fun r=>
  yI.call b p q r fun s t u=>
  Ld (a.add 1) (Value.int .i64) fun v=>
  Ld (a.add 4) (Value.int .u64) fun x=>
  Ld (a.add 2) (Value.int .i64) fun y=>
  yF.call c v x y fun z aa ab=>
  Ite (!(t == aa))
   (yT.s3 Q b c a true)
   (Ite (decide (u ≠ ab))
    (yT.s3 Q b c a true)
    (uQ.call s z fun ac=>
    yT.s3 Q b c a (!ac))))
  (Ite (decide (m = 1))
   (jO.call b fun ad ae=>
   Nn c fun d=>
   Ld d Value.pointer fun af=>
   zBL.call af ⟨#[115,116,97,116,101]⟩ fun ag ah=>
   Dr <| xW fun S=>
   Ite (decide (ae ≠ ah))
    (yT.s4 Q b d a true)
    (RdS Tryz.prog S (convert 22 9 (Sl.val ad)) Value.string fun aj=>
    RdS Tryz.prog S (convert 22 9 (Sl.val ag)) Value.string fun ak=>
    Ite (!(aj.toList == ak.toList))
     (yT.s4 Q b d a true)
     (LdS S (a.add 5) Value.string fun n=>
     LdS S d Value.pointer fun k=>
     LdS S (a.add 5) Value.string fun l=>
     All [
      (Do Tryz.prog (convert 9 22 (.string n)) Sl.val fun j=>
      Sv S<|
      All [
       (xu.call b j fun f=>
       Sv S<|
       Do Tryz.prog (convert 9 22 (.string l)) Sl.val fun g=>
       Sv S<|
       xB.call k ⟨#[115,116,97,116,101]⟩ g fun i=>
       yT.s4 Q b d a (decide (f ≠ i))),
       (Do Tryz.prog (convert 9 22 (.string l)) Sl.val fun g=>
       Sv S<|
       xu.call b j fun f=>
       Sv S<|
       xB.call k ⟨#[115,116,97,116,101]⟩ g fun i=>
       yT.s4 Q b d a (decide (f ≠ i)))
       ]),
      (Do Tryz.prog (convert 9 22 (.string l)) Sl.val fun g=>
      Sv S<|
      Do Tryz.prog (convert 9 22 (.string n)) Sl.val fun j=>
      Sv S<|
      xu.call b j fun f=>
      Sv S<|
      xB.call k ⟨#[115,116,97,116,101]⟩ g fun i=>
      yT.s4 Q b d a (decide (f ≠ i)))
      ])))
   (Ld (a.add 1) (Value.int .i64) fun al=>
   Ld (a.add 2) (Value.int .i64) fun am=>
   Ld (a.add 4) (Value.int .u64) fun an=>
   Ld (a.add 5) Value.string fun ao=>
   yh.call b al #[.int .i64 am,.int .u64 an,.string ao] fun ap aq=>
   Ld (a.add 1) (Value.int .i64) fun ar=>
   Ld (a.add 2) (Value.int .i64) fun au=>
   Ld (a.add 4) (Value.int .u64) fun av=>
   Ld (a.add 5) Value.string fun aw=>
   yN.call c ar #[.int .i64 au,.int .u64 av,.string aw] fun ax ay=>
   Ite (!(ap == ax))
    (yT.s5 Q b c a true)
    (yT.s5 Q b c a (decide (aq ≠ ay)))))
theorem zL1 (q r t Q w) (h:yT q r t Q w):yT.call q r t Q w:=by
 have:JH 1000016 fun D=>D [] (fun C=>∀ u,C [(6,.bool u)] (yT.s2 Q u)):=⟨fun _ h=>⟨_,_,h⟩⟩
 have:DH 16 2 [] (.s [0,1,4,5,2,6] (.a [(3,1,.a [(7,1,.s [8,9] (.i (.s [10,12,13,14,15] (.a [(11,1,.s [16,17,18] (.i (.s [19,21,22,23,24] (.a [(20,1,.s [25,26,27] .e)])) (.s [19,20,21,22,23,24,25,26,27] .e)))])) (.s [10,11,12,13,14,15,16,17,18,19,20,21,22,23,24,25,26,27] .e)))])])):=⟨⟩
 have:JH 16 fun D=>∃ b c d,D [(0,.pointer b),(1,.pointer c),(5,(.pointer (some d)))] (fun C=>C [(0,.pointer b),(1,.pointer c),(5,(.pointer (some d)))] (yT.s1 Q b c d)):=⟨fun _ ⟨_,_,_,h⟩=>⟨_,_,h⟩⟩
 have:JH 10 fun D=>∃ f g j,D [(0,.pointer f),(1,.pointer g),(5,(.pointer (some j)))] (fun C=>∀ v,C [(0,.pointer f),(1,.pointer g),(5,(.pointer (some j))),(99,.bool v)] (yT.s3 Q f g j v)):=⟨fun _ ⟨_,_,_,h⟩=>⟨_,_,h⟩⟩
 have:JH 15 fun D=>∃ k l m,D [(0,.pointer k),(1,(.pointer (some l))),(5,(.pointer (some m)))] (fun C=>∀ x,C [(0,.pointer k),(1,(.pointer (some l))),(5,(.pointer (some m))),(140,.bool x)] (yT.s4 Q k l m x)):=⟨fun _ ⟨_,_,_,h⟩=>⟨_,_,h⟩⟩
 have:DH 14 2 [23] (.s [0,1,2,3] (.i (.s [4,5,6,7,8,9,10,11,12,13,14,15,16,17,18,19,20,21,22,23,24,25] .e) (.s [4,6,5,7,8,9,10] (.i (.s [11,12,13,14,15,16,17,18,19,20,21,22,23,24,25] .e) (.s [11,12,16,17,18,20,13,19,21] (.a [(14,1,.a [(15,1,.a [(22,1,.a [(23,0,.s [24,25] .e)])]),(22,1,.a [(15,1,.a [(23,0,.s [24,25] .e)])])]),(22,1,.a [(14,1,.a [(15,1,.a [(23,0,.s [24,25] .e)])])])])))))):=⟨⟩
 have:JH 5 fun D=>∃ n o p,D [(0,.pointer n),(1,.pointer o),(5,(.pointer (some p)))] (fun C=>∀ y,C [(0,.pointer n),(1,.pointer o),(5,(.pointer (some p))),(59,.bool y)] (yT.s5 Q n o p y)):=⟨fun _ ⟨_,_,_,h⟩=>⟨_,_,h⟩⟩
 exact zS 168 h Tryz.func24
def uQ.s2 (Q:Bool→K) (b:Int→K) (f g:Sl) (i c:Int) (d:Bool): K :=
 Ite d
  (Q false)
  (Ar (IntKind.wrap .i64 (c + 1)) fun a=>
  b a)
def uQ.b1 (Q:Bool→K) (f:Int→K) (b c:Sl) (d a:Int): K :=
 Ite (decide (a < d))
  (Dr<|
  Idx b a 3 fun g=>
  Ld g (Value.int .i64) fun i=>
  Idx c a 3 fun j=>
  Ld j (Value.int .i64) fun k=>
  Ite (decide (i ≠ k))
   (uQ.s2 Q f b c d a true)
   (Idx b a 3 fun l=>
   Ld (l.add 1) (Value.int .u64) fun m=>
   Idx c a 3 fun n=>
   Ld (n.add 1) (Value.int .u64) fun o=>
   Ite (decide (m ≠ o))
    (uQ.s2 Q f b c d a true)
    (Idx b a 3 fun p=>
    Ld (p.add 2) Value.string fun q=>
    Idx c a 3 fun r=>
    Ld (r.add 2) Value.string fun s=>
    uQ.s2 Q f b c d a (!(q.toList == s.toList)))))
  (Q true)
def uQ (a b:Sl) (Q:Bool→K): K :=
 Ite (decide ((a.n:Int) ≠ (b.n:Int)))
  (Q false)
  (yM (α:=Int) (fun X x=>uQ.b1 Q X a b (a.n:Int) x) 0)
theorem zL2 (f g Q w) (h:uQ f g Q w):uQ.call f g Q w:=by
 have:∀ i,XH 4 i→JH 7 fun D=>∃ a b c d,D [(0,Sl.val a),(1,Sl.val b),(12,.int .i64 c),(13,.int .i64 d)] (fun C=>∀ j,C [(0,Sl.val a),(1,Sl.val b),(12,.int .i64 c),(13,.int .i64 d),(52,.bool j)] (uQ.s2 Q i a b c d j)):=by intros; exact ⟨fun _ ⟨_,_,_,_,h⟩=>⟨_,_,h⟩⟩
 have:∀ k l m,LH 4 (fun x:Int=>[(0,Sl.val k),(1,Sl.val l),(12,.int .i64 m),(13,.int .i64 x)]) (fun X x=>uQ.b1 Q X k l m x):=fun _ _ _=>⟨⟩
 exact zS 54 h Tryz.func45
instance:CB Tryz.prog 11:=⟨by kernel_rfl⟩
instance:CB Tryz.prog 12:=⟨by kernel_rfl⟩
instance:CB Tryz.prog 6:=⟨by kernel_rfl⟩
instance:CB Tryz.prog 17:=⟨by kernel_rfl⟩
instance:CB Tryz.prog 18:=⟨by kernel_rfl⟩
instance:CB Tryz.prog 19:=⟨by kernel_rfl⟩
instance:CB Tryz.prog 20:=⟨by kernel_rfl⟩
instance:CB Tryz.prog 21:=⟨by kernel_rfl⟩
instance:CB Tryz.prog 22:=⟨by kernel_rfl⟩
instance:CB Tryz.prog 23:=⟨by kernel_rfl⟩
instance:CB Tryz.prog 24:=⟨by kernel_rfl⟩
instance:FT Tryz.prog 56 3 3 1:=⟨by kernel_rfl⟩
instance:UN Tryz.prog 51 (.pointer 99):=⟨Tryz.underlying51⟩
def zH.s5 (Q:Bool→K) (f:Pt→Pt→Pt→Pt→Int→K) (k:Sl) (a b g i:Pt) (l:Sl) (m j:Int): K :=
 xU.call a b fun c=>
 Ite (!c)
  (Q false)
  (Ar (IntKind.wrap .i64 (j + 1)) fun d=>
  f a b g i d)
def zH.s6 (Q:Bool→K) (a:Pt→Pt→Pt→Pt→Int→K) (b:Sl) (c d f g:Pt) (i:Sl) (j k:Int) (l:Bool): K :=
 Ite l
  (Q false)
  (zH.s5 Q a b c d f g i j k)
def zH.s7 (Q:Bool→K) (c:Pt→Pt→Pt→Pt→Int→K) (d:Sl) (f g a b:Pt) (n:Addr) (i:Sl) (j k:Int) (o:Bool): K :=
 Ite o
  (LdN n 7 fun l=>
  yT.call a b l fun m=>
  Ite (!m)
   (Q false)
   (zH.s5 Q c d f g a b i j k))
  (zH.s5 Q c d f g a b i j k)
def zH.b4 (Q:Bool→K) (g:Pt→Pt→Pt→Pt→Int→K) (b d:Sl) (f:Int) (i j l m:Pt) (c:Int): K :=
 Ite (decide (c < f))
  (Idx d c 7 fun r=>
  LdN r 7 fun s=>
  New 56 #[.int .i64 0,.int .i64 0,.int .i64 0,.int .i64 0,.int .u64 0,(.string ⟨#[]⟩),Sl.val ⟨none,0,0⟩] fun a=>
  StN a 7 s<|
  Ld a (Value.int .i64) fun t=>
  Ar (bitsOf .and .i64 t 7) fun u=>
  Ite (decide (u = 4))
   (Ld (a.add 3) (Value.int .i64) fun v=>
   jP.call i v<|
   Ld (a.add 3) (Value.int .i64) fun x=>
   uJ.call j x<|
   zH.s5 Q g b i j l m d f c)
   (Ld a (Value.int .i64) fun y=>
   Ar (bitsOf .and .i64 y 7) fun z=>
   Ite (decide (z = 5))
    (Dr <| xW fun S=>
    LdS S (a.add 6) Sl.val fun aa=>
    LdS S (a.add 6) Sl.val fun ab=>
    qF.call i aa fun k=>
    Sv S<|
    y7.call j ab fun n=>
    Ite ((k).isNone)
     (Q false)
     (Ld (a.add 3) (Value.int .i64) fun ac=>
     Ar (IntKind.wrap .u64 ac) fun q=>
     yR.call k b q fun o ad=>
     yg.call n b q fun p ae=>
     Ite (decide (ad ≠ ae))
      (zH.s6 Q g b k n o p d f c true)
      (zH.s6 Q g b k n o p d f c (!((o).isNone == (p).isNone)))))
    (Ite (!(l).isNone)
     (zH.s7 Q g b i j l m a d f c (!(m).isNone))
     (zH.s7 Q g b i j l m a d f c false))))
  (Q true)
def zH.s3 (Q:Bool→K) (i a:Sl) (j k l m:Pt) (o:Bool): K :=
 Ite o
  (Q false)
  (yM (α:=Pt×Pt×Pt×Pt×Int) (fun X x=>zH.b4 Q (fun b c d f g=>X (b,c,d,f,g)) i a (a.n:Int) x.1 x.2.1 x.2.2.1 x.2.2.2.1 x.2.2.2.2) (j,k,l,m,0))
def zH.s2 (Q:Bool→K) (a:Sl) (n:Int) (g:Sl) (b c:Pt) (o:Bool): K :=
 Ite o
  (Q false)
  (Ar (bitsOf .and .i64 n 3) fun j=>
  Ar (IntKind.wrap .u64 j) fun i=>
  yR.call b a i fun d k=>
  yg.call c a i fun f l=>
  Ite (decide (k ≠ l))
   (zH.s3 Q a g b c d f true)
   (Ite (!((d).isNone == (f).isNone))
    (zH.s3 Q a g b c d f true)
    (xU.call b c fun m=>
    zH.s3 Q a g b c d f (!m))))
def zH.s1 (Q:Bool→K) (d:Sl) (a:Int) (f:Sl) (o:Bool): K :=
 Ite o
  (Q true)
  (Ar (bitsOf .and .i64 a 1048575) fun g=>
  Ar (IntKind.wrap .i64 (1 + g)) fun i=>
  zAM.call i fun b p=>
  Ar (bitsOf .and .i64 a 1048575) fun j=>
  Ar (IntKind.wrap .i64 (1 + j)) fun k=>
  zCU.call k fun c=>
  Ite ((b).isNone)
   (Q false)
   (Ar (bitsOf .and .i64 a 1) fun l=>
   Ite (decide (l = 0))
    (ji.call b fun m=>
    zBW.call c fun n=>
    zH.s2 Q d a f b c (decide (m ≠ n)))
    (zH.s2 Q d a f b c false)))
def zH (a:Sl) (c:Int) (b:Sl) (Q:Bool→K): K :=
 qd.call  fun d=>
 Ite (!d)
  (Q false)
  (vv.call b fun f=>
  Ite f
   (zH.s1 Q a c b true)
   (zH.s1 Q a c b (decide ((10:Int) < (a.n:Int)))))
theorem zFL (ay az a0 Q w) (h:zH ay az a0 Q w):zH.call ay az a0 Q w:=by
 have:∀ (b:(Pt×Pt×Pt×Pt×Int)→K),XH 17 b→JH 34 fun D=>∃ j k l m,D [(0,Sl.val j),(82,Sl.val k),(83,.int .i64 l),(84,.int .i64 m)] (fun C=>∀ a1 a2 a3 a4,C [(0,Sl.val j),(7,.pointer a1),(9,.pointer a2),(11,.pointer a3),(13,.pointer a4),(82,Sl.val k),(83,.int .i64 l),(84,.int .i64 m)] (zH.s5 Q (fun c d f g i=>b (c,d,f,g,i)) j a1 a2 a3 a4 k l m)):=by intros; exact ⟨fun _ ⟨_,_,_,_,h⟩=>⟨_,_,h⟩⟩
 have:∀ (b:(Pt×Pt×Pt×Pt×Int)→K),XH 17 b→JH 30 fun D=>∃ n o p q r t u v,D [(0,Sl.val n),(7,.pointer o),(9,.pointer p),(11,.pointer q),(13,.pointer r),(82,Sl.val t),(83,.int .i64 u),(84,.int .i64 v)] (fun C=>∀ a5,C [(0,Sl.val n),(7,.pointer o),(9,.pointer p),(11,.pointer q),(13,.pointer r),(82,Sl.val t),(83,.int .i64 u),(84,.int .i64 v),(142,.bool a5)] (zH.s6 Q (fun c d f g i=>b (c,d,f,g,i)) n o p q r t u v a5)):=by intros; exact ⟨fun _ ⟨_,_,_,_,_,_,_,_,h⟩=>⟨_,_,h⟩⟩
 have:DH 23 2 [7] (.s [0,1,4,5,2,6] (.a [(3,1,.a [(7,0,.s [8,9] .e)])])):=⟨⟩
 have:∀ (b:(Pt×Pt×Pt×Pt×Int)→K),XH 17 b→JH 32 fun D=>∃ y z aa ab ac ad ae af ag,D [(0,Sl.val y),(7,.pointer z),(9,.pointer aa),(11,.pointer ab),(13,.pointer ac),(16,(.pointer (some ad))),(82,Sl.val ae),(83,.int .i64 af),(84,.int .i64 ag)] (fun C=>∀ a6,C [(0,Sl.val y),(7,.pointer z),(9,.pointer aa),(11,.pointer ab),(13,.pointer ac),(16,(.pointer (some ad))),(82,Sl.val ae),(83,.int .i64 af),(84,.int .i64 ag),(143,.bool a6)] (zH.s7 Q (fun c d f g i=>b (c,d,f,g,i)) y z aa ab ac ad ae af ag a6)):=by intros; exact ⟨fun _ ⟨_,_,_,_,_,_,_,_,_,h⟩=>⟨_,_,h⟩⟩
 have:∀ a7 a8 a9,LH 17 (fun x:Pt×Pt×Pt×Pt×Int=>[(0,Sl.val a7),(7,.pointer x.1),(9,.pointer x.2.1),(11,.pointer x.2.2.1),(13,.pointer x.2.2.2.1),(82,Sl.val a8),(83,.int .i64 a9),(84,.int .i64 x.2.2.2.2)]) (fun X x=>zH.b4 Q (fun c d f g i=>X (c,d,f,g,i)) a7 a8 a9 x.1 x.2.1 x.2.2.1 x.2.2.2.1 x.2.2.2.2):=fun _ _ _=>⟨⟩
 have:JH 15 fun D=>∃ ah aj ak al am an,D [(0,Sl.val ah),(2,Sl.val aj),(7,.pointer ak),(9,.pointer al),(11,.pointer am),(13,.pointer an)] (fun C=>∀ ba,C [(0,Sl.val ah),(2,Sl.val aj),(7,.pointer ak),(9,.pointer al),(11,.pointer am),(13,.pointer an),(81,.bool ba)] (zH.s3 Q ah aj ak al am an ba)):=⟨fun _ ⟨_,_,_,_,_,_,h⟩=>⟨_,_,h⟩⟩
 have:JH 10 fun D=>∃ ao ap aq ar au,D [(0,Sl.val ao),(1,.int .i64 ap),(2,Sl.val aq),(7,.pointer ar),(9,.pointer au)] (fun C=>∀ bb,C [(0,Sl.val ao),(1,.int .i64 ap),(2,Sl.val aq),(7,.pointer ar),(9,.pointer au),(48,.bool bb)] (zH.s2 Q ao ap aq ar au bb)):=⟨fun _ ⟨_,_,_,_,_,h⟩=>⟨_,_,h⟩⟩
 have:JH 4 fun D=>∃ av aw ax,D [(0,Sl.val av),(1,.int .i64 aw),(2,Sl.val ax)] (fun C=>∀ bc,C [(0,Sl.val av),(1,.int .i64 aw),(2,Sl.val ax),(25,.bool bc)] (zH.s1 Q av aw ax bc)):=⟨fun _ ⟨_,_,_,h⟩=>⟨_,_,h⟩⟩
 exact zS 160 h Tryz.func5
end
section
open Go Go.Sep
theorem zLY {α:Type} [DecidableEq α]:∀ {l S:List α},l.Nodup→(∀ x ∈ l,x ∈ S)→l.length ≤ S.length
 | [],_,_,_=>Nat.zero_le _
 | x::l,S,hn,h=>by
  obtain ⟨h1,h2⟩:=List.nodup_cons.1 hn
  have hx:=h x List.mem_cons_self
  have h3:=zLY (l:=l) (S:=S.erase x) h2 fun y hy=>(List.mem_erase_of_ne (fun e=>h1 (by rw [← e]; exact hy))).2 (h y (List.mem_cons_of_mem _ hy))
  rw [List.length_erase_of_mem hx] at h3
  have:=List.length_pos_of_mem hx
  simp only [List.length_cons]; omega
def zIK (D:zC) (S:List (List UInt8)) (b:Nat):Prop:=∀ p ∈ D.files,p.1 ∈ S∧p.2.data.length ≤ b
theorem zP4 {D:zC} {S:List (List UInt8)} {b:Nat} (hD:OkD D) (h:zIK D S b):D.files.length ≤ S.length∧yc D.files ≤ b * S.length:=by
 have h1:D.files.length ≤ S.length:=by
  have:=zLY hD.nodup fun x hx=>by obtain ⟨p,hp,rfl⟩:=List.mem_map.1 hx; exact (h p hp).1
  simpa using this
 have h2:∀ fs:Files,(∀ p ∈ fs,p.2.data.length ≤ b)→yc fs ≤ b * fs.length:=by
  intro fs
  induction fs with
  | nil=>intro _; simp [yc]
  | cons p fs ih=>
   intro hp
   have a1:=hp p List.mem_cons_self
   have a2:=ih fun y hy=>hp y (List.mem_cons_of_mem _ hy)
   simp only [yc,List.length_cons]
   rw [Nat.mul_succ]; omega
 have h3:=h2 D.files fun p hp=>(h p hp).2
 have h4:b * D.files.length ≤ b * S.length:=Nat.mul_le_mul_left _ h1
 exact ⟨h1,by omega⟩
theorem zQ6 {fs:Files} {n:List UInt8} (h:∀ p ∈ fs,p.1 ≠ n):zO n fs = none:=by
 induction fs with
 | nil=>rfl
 | cons p fs ih=>
  simp only [zO]
  rw [if_neg (fun e=>h p List.mem_cons_self e.symm)]
  exact ih fun y hy=>h y (List.mem_cons_of_mem _ hy)
theorem Saved.bnd {D:zC} {n x:List UInt8} {R:zC×Int} {S:List (List UInt8)} {b:Nat} (h:Saved D n x R) (hb:zIK D S b) (h1:n ∈ S) (h2:zm n ∈ S) (h3:(yj x).length ≤ b):zIK R.1 S b:=fun p hp=>by
 rcases h.mem p hp with hp | ⟨hp,hd⟩
 ·exact hb p hp
 ·refine ⟨?_,by rw [hd]; exact h3⟩
  rcases hp with hp | hp <;> rw [hp] <;> assumption
theorem zS9 {D:zC} {S:List (List UInt8)} {b:Nat} (ks:List Int) (hb:zIK D S b):zIK (D.crash ks) S b:=fun p hp=>by
 have hp:p ∈ jc ks D.file D.names:=hp
 unfold jc at hp
 obtain ⟨⟨n,i⟩,hi,rfl⟩:=List.mem_map.1 hp
 have hn:n ∈ D.names:=(List.mem_zipIdx hi).2.2 ▸ List.getElem_mem _
 obtain ⟨y,hy⟩:=zES (zGC.1 hn)
 have hm:=hb _ (zA9 hy)
 refine ⟨hm.1,?_⟩
 have hf:D.file n = y:=by unfold zC.file; rw [hy]; rfl
 simp only [jU,hf,List.length_take]
 have:=hm.2
 simp only at this
 omega
theorem zVN {D:zC} (hD:OkD D) (ks:List Int) {n x:List UInt8} (h:zO n D.files = some (sfF x)):zO n (D.crash ks).files = some (sfF x):=by
 obtain ⟨i,hi⟩:=zG5 hD ks h
 rw [hi,zPP ks i rfl]
theorem zI5 {D:zC} {name:List UInt8} (hd:D.a.down = false):∀ f part:Nat,part + f ≤ 10→(∀ i,part ≤ i→i ≤ 9→zO (zM name i) D.files = none)→zBn name f part D = (D,0)
 | 0,_,_,_=>rfl
 | f + 1,part,hp,hn=>by
  have h1:D.remove (zM name (part + f)) = (D,60):=by
   unfold zC.remove
   rw [if_neg (by rw [hd]; decide),hn _ (by omega) (by omega)]
  unfold zBn
  rw [h1,if_neg (by simp)]
  exact zI5 hd f part (by omega) hn
theorem zTA {D:zC} {name:List UInt8} {size:Int} (hd:D.a.down = false) (hn:∀ i,i ≤ 9→zO (zM name i) D.files = none):(uG name size).load D = (D,uG name size,0):=by
 have h1:D.read (zM name 0) = ([],60):=by
  unfold zC.read
  rw [if_neg (by rw [hd]; decide),hn 0 (by omega)]
 have h2:jG name 10 0 D (uG name size) = (D,uG name size,0,0):=by
  unfold jG
  rw [h1,if_pos rfl]
 unfold q8.load
 rw [show (uG name size).name = name from rfl,h2]
 simp only
 rw [if_neg (by simp),zI5 hd 10 0 (by omega) fun i _ hi=>hn i hi]
theorem zVO {g:Int}:zYc (uG (yQ g) 40960) []:=⟨⟨by simp [uG,yQ],by simp [uG],by simp [uG],by simp [uG],by simp [uG]⟩,rfl,by simp,by simp⟩
theorem zSF {D:zC} {n x:List UInt8} (hD:OkD D) (hF:Free D) (hn:1 ≤ n.length∧n.length ≤ 15) (hf:D.files.length < 32) (hr:(yc D.files:Int) + (yj x).length ≤ D.a.room):Saved D n x (D.save n x)∧(D.save n x).2 = 0∧Free (D.save n x).1:=by
 have hs:=zVM hD hF.down hn hf hr
 have hn0:n ≠ []:=fun h=>by rw [h] at hn; simp at hn
 have hml:(vJ (zm n) D.files).length ≤ D.files.length∧yc (vJ (zm n) D.files) ≤ yc D.files:=by
  cases hm:zO (zm n) D.files with
  | none=>rw [zIu hm]; exact ⟨Nat.le_refl _,Nat.le_refl _⟩
  | some f=>
   obtain ⟨_,_,g3,g4⟩:=hD.del hm
   omega
 have hq:=zSo (x:=x) hD hF.left hF.down hn0 hn.2 (by omega) (by omega)
 rw [hq] at hs ⊢
 exact ⟨hs,rfl,⟨hF.left,hF.down⟩⟩
theorem zWh {D:zC} {ep:Nat} {v:Bool} (hd:D.a.down = false) (h:zO uD D.files = some (sfF (xg ep v))):zLB D ep v:=by
 left
 unfold zC.read
 rw [if_neg (by rw [hd]; decide),h]
 rfl
theorem zTB {D:zC} (hd:D.a.down = false) (h:zO uD D.files = none):zLB D 0 false:=by
 right
 refine ⟨rfl,rfl,?_⟩
 unfold zC.read
 rw [if_neg (by rw [hd]; decide),h]
theorem zFv (g:Int) (i:Nat):∀ n ∈ [uD,zm uD,STATE,zm STATE],n ≠ zM (yQ g) i:=by
 intro n hn
 simp only [List.mem_cons,List.not_mem_nil,or_false] at hn
 rcases hn with rfl | rfl | rfl | rfl <;> simp [zM,yQ,zm]
theorem zI6 {room:Int}:Free (zC.new room):=⟨rfl,rfl⟩
abbrev S4:List (List UInt8):=[uD,zm uD,STATE,zm STATE]
theorem lpk {ep:Nat} {v:Bool} (h:ep < 18446744073709551616):(yj (xg ep v)).length ≤ 40:=by
 have h1:=zBZ (v:=v) h
 have h2:=zC5 _ (xg ep v) rfl
 have h3:=xO 0 (xg ep v).length (by omega)
 unfold yj
 rw [List.length_append,qV]
 have h4:((xg ep v).length + 1023) / 1024 ≤ 1:=by omega
 omega
section
variable {B:World} {Γ Δ:List zB} {k:K} {d:Nat} {D:zC}
theorem zP5 {s:Sl} {clock ep:Nat} {v:Bool} {q:Option Addr→Int→K} (hD:OkD D) (hF:Free D) (hb:zIK D S4 5040) (hroom:21000 ≤ D.a.room∨zIK D S4 40∧1000 ≤ D.a.room) (hr:∀ w,Holds B Γ w→RdC w s 1 ([(0:Int)].map (Value.int .i64))) (hlife:zLB D ep v) (hm:max ep clock < 1000000)
  (h:∀ kp mb D1,OkD D1→Free D1→zIK D1 S4 5040→D1.a.room = D.a.room→(∀ n,n ≠ uD→n ≠ zm uD→zO n D1.files = zO n D.files)→zO uD D1.files = some (sfF (xg (max ep clock + 1) v)) →
   HG B (KpR kp d (max ep clock + 1) v mb::zJ d D1::Γ) (q (some ⟨kp,0,none⟩) 0)) :
  HG B (zJ d D::Γ) (yR.call (some ⟨d,0,none⟩) s (clock:Int) q):=by
 obtain ⟨u1,u2⟩:=zP4 hD hb
 simp only [List.length_cons,List.length_nil] at u1 u2
 have hlp:=lpk (ep:=max ep clock + 1) (v:=v) (by omega)
 obtain ⟨s1,s2,s3⟩:=zSF (n:=uD) (x:=xg (max ep clock + 1) v) hD hF (by decide) (by omega) (by
  rcases hroom with hroom | ⟨hb40,hroom⟩
  ·omega
  ·obtain ⟨v1,v2⟩:=zP4 hD hb40
   simp only [List.length_cons,List.length_nil] at v1 v2
   omega)
 have hb1:=s1.bnd hb (by simp) (by simp) (by omega)
 refine zWb (gs:=[0]) (Wf:=fun g=>uG (yQ g) 40960) (Lf:=fun _=>[]) (by simp) (by simp) (by simp) hr hD hlife (by omega) (fun _ g hg=>⟨?_,zVO⟩) (fun hne _=>absurd s2 hne) fun kp mb G _ ho _=>?_
 ·exact zTA s3.down fun i hi=>zQ6 fun p hp=>zFv g i _ (hb1 p hp).1
 ·rcases s1.two with ⟨_,t2,_⟩ | ⟨t1,_,_⟩
  ·exact zI (h kp mb _ ho s3 hb1 s1.room s1.oth t2)
  ·rw [s2] at t1; exact absurd t1 (by decide)
theorem zLZ {kp mb ep:Nat} {v:Bool} {q:Int→K} (h:HG B (KpR kp d ep v mb::Γ) (q (ep:Int))):HG B (KpR kp d ep v mb::Γ) (vE.call (some ⟨kp,0,none⟩) q):=by
 refine fun w hw=>zEW _ _ _ ?_
 refine hg hw ?_
 clear hw w
 unfold vE
 refine xM ?_
 refine yE (b:=kp) (off:=1) (l:=kpL d ep v mb) (x:=(ep:Int)) ?_
 exact h
theorem zLa {kp mb ep:Nat} {v:Bool} {q:Bool→K} (h:HG B (KpR kp d ep v mb::Γ) (q v)):HG B (KpR kp d ep v mb::Γ) (vF.call (some ⟨kp,0,none⟩) q):=by
 refine fun w hw=>zEX _ _ _ ?_
 refine hg hw ?_
 clear hw w
 unfold vF
 refine xM ?_
 refine yE (b:=kp) (off:=2) (l:=kpL d ep v mb) (x:=v) ?_
 exact h
theorem zHH {room:Int} {q:Option Addr→Int→K} (h1:1 ≤ room) (h2:room ≤ 1048576) (h:∀ d,HG B (zJ d (.new room)::Γ) (q (some ⟨d,0,none⟩) 0)):HG B Γ (zAM.call room q):=fun w hw=>zUh hw (fun hb=>by omega) fun d w _ _ hw=>h d w hw
theorem zSG {room:Int} (h1:1 ≤ room) (h2:room ≤ 1048576):OkD (.new room):=okN h1 h2
theorem zQ7 {room:Int} {q:Int→K} (h1:1000 ≤ room) (h2:room ≤ 1048576) (h:∀ D1,OkD D1→Free D1→zIK D1 S4 40→D1.a.room = room→zO uD D1.files = some (sfF (xg 0 true))→(∀ n,n ≠ uD→n ≠ zm uD→zO n D1.files = none)→HG B (zJ d D1::Γ) (q 0)) :
  HG B (zJ d (.new room)::Γ) (ji.call (some ⟨d,0,none⟩) q):=by
 have hlp:=lpk (ep:=0) (v:=true) (by omega)
 obtain ⟨s1,s2,s3⟩:=zSF (D:=.new room) (n:=uD) (x:=xg 0 true) (zSG (by omega) h2) zI6 (by decide) (by simp [zC.new]) (by
  show ((0:Nat):Int) + _ ≤ room
  omega)
 refine zMm (zSG (by omega) h2) fun ho=>?_
 rw [s2]
 refine h _ ho s3 (s1.bnd (fun p hp=>by cases hp) (by simp) (by simp) hlp) s1.room ?_ fun n a b=>by rw [s1.oth n a b]; rfl
 rcases s1.two with ⟨_,t2,_⟩ | ⟨t1,_,_⟩
 ·exact t2
 ·rw [s2] at t1; exact absurd t1 (by decide)
theorem zIK.up {D:zC} {S:List (List UInt8)} {a b:Nat} (h:zIK D S a) (hab:a ≤ b):zIK D S b:=fun p hp=>⟨(h p hp).1,Nat.le_trans (h p hp).2 hab⟩
theorem zVP {q:Bool→K} (h:HG B Γ (q true)):HG B Γ (qd.call q):=by
 refine fun w hw=>zJs _ _ ?_
 refine hg hw ?_
 clear hw w
 unfold qd
 refine zHH (by omega) (by omega) fun d1=>?_
 refine zHH (by omega) (by omega) fun d2=>?_
 refine s_f ?_ (by rfl)
 refine s_f ?_ (by rfl)
 refine jF (zJ d1 (.new 1000)) ?_
 refine zQ7 (by omega) (by omega) fun D1 o1 f1 b1 r1 l1 _=>?_
 unfold qd.s1
 refine s_f ?_ (by rfl)
 refine ql fun t30=>?_
 refine jF (zJ d1 D1) ?_
 refine zP5 (clock:=0) (ep:=0) (v:=true) o1 f1 (b1.up (by omega)) (.inr ⟨b1,by omega⟩) (fun w hw=>?_) (zWh f1.down l1) (by omega) fun k1 m1 D1' _ _ _ _ _ _=>?_
 ·have:=zFb (B:=B) (esz:=1) (k:=1) (t:=t30) (cs:=[.int .i64 0]) rfl w hw
  exact this
 refine ql fun t36=>?_
 refine jF (zJ d2 (.new 1000)) ?_
 refine zP5 (clock:=7) (ep:=0) (v:=false) (zSG (by omega) (by omega)) zI6 (fun p hp=>by cases hp) (.inr ⟨fun p hp=>(by cases hp),by simp [zC.new]⟩) (fun w hw=>?_) (zTB rfl rfl) (by omega) fun k2 m2 D2' _ _ _ _ _ _=>?_
 ·have:=zFb (B:=B) (esz:=1) (k:=1) (t:=t36) (cs:=[.int .i64 0]) rfl w hw
  exact this
 refine s_t ?_ (by rfl)
 refine s_t ?_ (by rfl)
 refine jF (KpR k1 d1 (max 0 0 + 1) true m1) ?_
 refine zLZ ?_
 refine s_t ?_ (by rfl)
 refine zLa ?_
 refine s_t ?_ (by rfl)
 refine jF (KpR k2 d2 (max 0 7 + 1) false m2) ?_
 refine zLZ ?_
 refine s_t ?_ (by rfl)
 refine zLa ?_
 unfold qd.s2
 exact zI h
end
end
section
open Go Go.Sep
def zJV:Sh:=(.sl (.int .i64) 1)
theorem zZx:zNY Tryz.prog 9 32 = zJV:=by kernel_rfl
def zCK:Sh:=(.sl (.fld 0 1 (.int .i64) (.fld 1 1 (.int .i64) (.fld 2 1 (.int .i64) (.fld 3 1 (.int .i64) (.fld 4 1 (.int .u64) (.fld 5 1 .str (.fld 6 1 (.sl (.int .i64) 1) .nil))))))) 7)
theorem zZy:zNY Tryz.prog 9 46 = zCK:=by kernel_rfl
end
section
open Go Go.Sep
section
variable {B:World} {Γ Δ:List zB} {q:Bool→K}
theorem zVQ {d:Nat} {D:zC} {s:Sl} {ks:List Int} {q:Option Addr→K} (hD:OkD D) (hr:∀ w,Holds B Γ w→RdC w s 1 (ks.map (Value.int .i64))) (h:∀ o,HG B (zJ o (D.crash ks)::zJ d D::Γ) (q (some ⟨o,0,none⟩))):HG B (zJ d D::Γ) (qF.call (some ⟨d,0,none⟩) s q):=fun w hw=>zQh hD hw hr fun o w hw=>h o w hw
theorem zP6 {kp d ep mb:Nat} {v:Bool} {D:zC} {s:Sl} {x:List UInt8} {q:Int→K} (hD:OkD D) (hx:x.length ≤ 10000) (hcap:s.n ≤ s.c) (hr:∀ w,Holds B Γ w→RdB w s x) (h:OkD (D.save STATE x).1→HG B (KpR kp d ep v mb::zJ d (D.save STATE x).1::Γ) (q (D.save STATE x).2)) :
  HG B (KpR kp d ep v mb::zJ d D::Γ) (xu.call (some ⟨kp,0,none⟩) s q):=by
 refine fun w hw=>zEq _ _ _ _ ?_
 refine hg hw ?_
 clear hw w
 unfold xu
 refine xM ?_
 refine yE (b:=kp) (l:=kpL d ep v mb) (x:=some ⟨d,0,none⟩) ?_
 refine jF (zJ d D) ?_
 refine zKG (n:=STATE) hD hx hcap (fun w hw=>hr w hw.tail) fun ho=>?_
 refine jF (KpR kp d ep v mb) ?_
 exact zI (h ho)
end
end
section
open Go Go.Sep
abbrev G20:List UInt8:=zM (yQ 2) 0
abbrev S3:List (List UInt8):=[uD,zm uD,G20]
theorem zIL {n:Nat} (h:n < 18446744073709551616):(zAH n).length ≤ 11:=by
 have:=xO 9 n (by omega)
 unfold zAH; simp; omega
def zZz (D:zC) (L:List Nat):Prop:=(zO G20 D.files = none∧L = [])∨zO G20 D.files = some ⟨zPQ (L.map zAH),(zPQ (L.map zAH)).length⟩
def zXW (D:zC) (ep:Nat) (v:Bool):Prop:=zO uD D.files = some (sfF (xg ep v))∨(ep = 0∧v = false∧zO uD D.files = none)
structure LvI (D:zC) (last:Nat) (v:Bool) (b:Nat):Prop where
 ok:OkD D
 fr:Free D
 room:D.a.room = 10000
 bd:zIK D S3 60
 life:zXW D last v
 log:∃ L:List Nat,(L = []∨L = [b])∧zZz D L
structure LvM (D:zC) (last:Nat) (v:Bool) (b:Nat):Prop where
 room:D.a.room = 10000
 bd:zIK D S3 60
 life:zXW D last v
 log:(∃ L:List Nat,(L = []∨L = [b])∧zZz D L)∨zO G20 D.files = some ⟨yP (zAH b),0⟩
theorem zMy {D:zC} (hD:OkD D) {n:List UInt8} {f:vK} (h:zO n D.files = some f):zO n (D.crash []).files = some ⟨f.data.take f.last,f.last⟩:=by
 obtain ⟨i,hi⟩:=zG5 hD [] h
 rw [hi]
 have h0:zAG [] i f = 0:=rfl
 unfold jU
 rw [h0]; rfl
theorem LvM.crash {D:zC} {last b:Nat} {v:Bool} (hD:OkD D) (h:LvM D last v b):LvI (D.crash []) last v b:=by
 refine ⟨hD.crash [],zK4,h.room,zS9 [] h.bd,?_,?_⟩
 ·rcases h.life with h1 | ⟨h1,h2,h3⟩
  ·exact .inl (zVN hD [] h1)
  ·exact .inr ⟨h1,h2,zDp [] h3⟩
 ·rcases h.log with ⟨L,h1,h2⟩ | h2
  ·refine ⟨L,h1,?_⟩
   rcases h2 with ⟨h2,h3⟩ | h2
   ·exact .inl ⟨zDp [] h2,h3⟩
   ·right
    rw [zMy hD h2]
    simp
  ·refine ⟨[],.inl rfl,.inr ?_⟩
   rw [zMy hD h2]
   rfl
def qN (W:q8) (D:zC) (r:List UInt8):zC×q8×Int :=
 if (W.app D r).2.2 ≠ 0 then W.app D r else (W.app D r).2.1.vV (W.app D r).1
end
section
open Go Go.Sep Go.Sep.Bt
section
variable {B:World} {Γ Δ:List zB} {D M:zC} {W:q8} {r:List UInt8}
theorem zP7 {g p d l vb:Nat} {q:Int→K} (hD:OkD D) (hW:OkW W) (hr:r.length ≤ 4096) (hW2:OkW (W.app D r).2.1)
  (h:OkD (qN W D r).1→HG B (blk g (.cells (zBR l vb).toArray yL (0,0))::uU l d (qN W D r).2.1::zJ d (qN W D r).1::Γ) (q (qN W D r).2.2)) :
  HG B (zFF p r::blk g (.cells (zBR l vb).toArray yL (0,0))::uU l d W::zJ d D::Γ) (u6.call (some ⟨g,0,none⟩) (some ⟨p,0,none⟩) q):=by
 refine fun w hw=>zFH _ _ _ _ ?_
 refine hg hw ?_
 clear hw w
 unfold u6
 refine zAQ ?_
 refine zKk [blk g (.cells (zBR l vb).toArray yL (0,0))] ?_
 refine xM ?_
 refine jR (b:=g) (l:=zBR l vb) (x:=some ⟨l,0,none⟩) ?_
 refine zRr (by omega) fun s=>?_
 refine zBb ?_
 refine zI (Δ:=uU l d W::zJ d D::Bytes zF s r::blk g (.cells (zBR l vb).toArray yL (0,0))::Γ) ?_
 refine fun w hw=>zJi hD hW (by omega) (fun w hw=>Bytes.rd hw List.mem_cons_self) hw fun w o1 hw=>?_
 refine hg hw ?_
 clear hw w
 by_cases he:(W.app D r).2.2 ≠ 0
 ·have hn:qN W D r = W.app D r:=by unfold qN; rw [if_pos he]
  rw [hn] at h
  refine s_t ?_ (by simpa using he)
  exact zI (Δ:=blk g (.cells (zBR l vb).toArray yL (0,0))::uU l d (W.app D r).2.1::zJ d (W.app D r).1::Γ) (h o1)
 ·have hn:qN W D r = (W.app D r).2.1.vV (W.app D r).1:=by unfold qN; rw [if_neg he]
  rw [hn] at h
  refine s_f ?_ (by simpa using he)
  refine yE (b:=g) (l:=zBR l vb) (x:=some ⟨l,0,none⟩) ?_
  refine fun w hw=>zGg o1 hW2 hw fun w o2 hw=>?_
  refine hg hw ?_
  clear hw w
  exact zI (Δ:=blk g (.cells (zBR l vb).toArray yL (0,0))::uU l d ((W.app D r).2.1.vV (W.app D r).1).2.1::zJ d ((W.app D r).2.1.vV (W.app D r).1).1::Γ) (h o2)
theorem zOD {part used:Nat} (hD:OkD D):OkD (W.put D part used r).1:=by
 unfold q8.put
 split <;> exact (zGG hD).1
theorem zI7 (hD:OkD D):OkD (W.vV D).1:=by
 unfold q8.vV
 split
 ·exact hD
 ·exact (zIH hD).1
theorem zWi (hD:OkD D):OkD (W.app D r).1:=by
 unfold q8.app
 split
 ·split
  ·exact hD
  split
  ·exact zI7 hD
  ·exact zOD (zI7 hD)
 ·exact zOD hD
theorem zP8 {kp m ep l i:Nat} {v:Bool} {gs ls vs s:Sl} {E:List GE} {x:GE} {q:Int→K} (hD:OkD D) (hR:x9 D M) (hW:OkW W) (hW2:OkW (W.app D r).2.1) (hl:r.length ≤ 4096) (hu:W.used = zGZ D (zM W.name W.part)∨D.a.down = true∧W.part ≤ 8) (hx:E[i]? = some x) (hxl:x.1 = l) (hr:∀ w,Holds B Γ w→RdB w s r)
  (h:∀ M',x9 (qN W D r).1 M'→HG B (DkR kp m ep v gs ls vs::SlC zZ 1 ls (E.map fun e:GE=>jr e.1)::LgR l m (qN W D r).2.1::zk m M'::Γ) (q (qN W D r).2.2)) :
  HG B (DkR kp m ep v gs ls vs::SlC zZ 1 ls (E.map fun e:GE=>jr e.1)::LgR l m W::zk m M::Γ) (jK.call (some ⟨kp,0,none⟩) (i:Int) s q):=by
 subst hxl
 refine fun w hw=>zFl _ _ _ _ _ ?_
 refine hg hw ?_
 clear hw w
 unfold jK
 have hfew:=hW.few
 refine xM ?_
 refine yE (b:=kp) (off:=4) (l:=dkL m ep v gs ls vs) (x:=ls) ?_
 have hxm:(E.map fun e:GE=>(some ⟨e.1,0,none⟩:Option Addr))[i]? = some (some ⟨x.1,0,none⟩):=by rw [List.getElem?_map,hx]; rfl
 refine jZ (c:=Value.pointer) (L:=E.map fun e:GE=>(some ⟨e.1,0,none⟩:Option Addr)) (j:=i) (x:=some ⟨x.1,0,none⟩) (fun w hw=>by rw [List.map_map]; exact (uL (s:=ls) hw).1) hxm ?_
 refine zI (Δ:=LgR x.1 m W::zk m M::DkR kp m ep v gs ls vs::SlC zZ 1 ls (E.map fun e:GE=>jr e.1)::Γ) ?_
 refine zVI hD hR hW hl hfew hu (fun w hw=>hr w (hw.drops (Δ:=Γ))) fun M1 h1=>?_
 by_cases he:(W.app D r).2.2 ≠ 0
 ·have hn:qN W D r = W.app D r:=by unfold qN; rw [if_pos he]
  rw [hn] at h
  refine s_t ?_ (by simpa using he)
  exact zI (Δ:=DkR kp m ep v gs ls vs::SlC zZ 1 ls (E.map fun e:GE=>jr e.1)::LgR x.1 m (W.app D r).2.1::zk m M1::Γ) (h M1 h1)
 ·have hn:qN W D r = (W.app D r).2.1.vV (W.app D r).1:=by unfold qN; rw [if_neg he]
  rw [hn] at h
  refine s_f ?_ (by simpa using he)
  refine yE (b:=kp) (off:=4) (l:=dkL m ep v gs ls vs) (x:=ls) ?_
  refine jZ (c:=Value.pointer) (L:=E.map fun e:GE=>(some ⟨e.1,0,none⟩:Option Addr)) (j:=i) (x:=some ⟨x.1,0,none⟩) (fun w hw=>by rw [List.map_map]; exact (uL (s:=ls) hw).1) hxm ?_
  refine zI (Δ:=LgR x.1 m (W.app D r).2.1::zk m M1::DkR kp m ep v gs ls vs::SlC zZ 1 ls (E.map fun e:GE=>jr e.1)::Γ) ?_
  refine zMu (zWi hD) h1 hW2.part (by have:=hW2.name; omega) fun M2 h2=>?_
  exact zI (Δ:=DkR kp m ep v gs ls vs::SlC zZ 1 ls (E.map fun e:GE=>jr e.1)::LgR x.1 m ((W.app D r).2.1.vV (W.app D r).1).2.1::zk m M2::Γ) (h M2 h2)
end
end
section
open Go Go.Sep Go.Sep.Bt
theorem zIM (n:Int):∀ E:List gE,(∀ e ∈ E,e.2.g ≠ n)∨∃ A e C,E = A++e::C∧e.2.g = n∧∀ a ∈ A,a.2.g ≠ n
 | []=>.inl (by simp)
 | e::E=>by
  by_cases h:e.2.g = n
  ·exact .inr ⟨[],e,E,rfl,h,by simp⟩
  ·rcases zIM n E with h1 | ⟨A,x,C,h1,h2,h3⟩
   ·exact .inl (List.forall_mem_cons.2 ⟨h,h1⟩)
   ·exact .inr ⟨e::A,x,C,by rw [h1]; rfl,h2,List.forall_mem_cons.2 ⟨h,h3⟩⟩
theorem zIN {n:Int} {e:gE} {C:List gE} (he:e.2.g = n):∀ {A:List gE},(∀ a ∈ A,a.2.g ≠ n)→zO n (gmM (A++e::C)) = some (some ⟨e.1,0,none⟩)
 | [],_=>by simp [gmM,zO,he]
 | a::A,h=>by
  have h1:=h a (by simp)
  show (if n = a.2.g then _ else zO n (gmM (A++e::C))) = _
  rw [if_neg fun h2=>h1 h2.symm]
  exact zIN he fun x hx=>h x (by simp [hx])
section
variable {B:World} {Γ Δ:List zB} {kp d ep mb:Nat} {v:Bool} {D:zC} {E:List gE}
theorem zLb {n:Int} (h:∀ e ∈ E,e.2.g ≠ n):zO n (gmM E) = none:=zSE fun hm=>by
 obtain ⟨e,he,h2⟩:=List.mem_map.1 hm
 exact h e he h2
def zB4 (G:List GM) (n:Int):Int:=match G with
 | []=>0
 | x::G=>if x.g = n then x.p else zB4 G n
theorem zCt {n:Int} {x:GM} {C:List GM} (hx:x.g = n):∀ {A:List GM},(∀ a ∈ A,a.g ≠ n)→zB4 (A++x::C) n = x.p
 | [],_=>by simp [zB4,hx]
 | a::A,h=>by
  have h1:=h a (by simp)
  show (if a.g = n then _ else zB4 (A++x::C) n) = _
  rw [if_neg h1]
  exact zCt hx fun y hy=>h y (by simp [hy])
theorem zDa {n:Int}:∀ {G:List GM},(∀ a ∈ G,a.g ≠ n)→zB4 G n = 0
 | [],_=>rfl
 | a::G,h=>by
  show (if a.g = n then _ else zB4 G n) = _
  rw [if_neg (h a (by simp))]
  exact zDa fun y hy=>h y (by simp [hy])
theorem zOE {n:Int} {q:Int→K} (h:HG B (KpR kp d ep v mb::qM (Value.int .i64) Value.pointer mb (gmM E)::gmO d E::Γ) (q (zB4 (E.map fun e=>e.2) n))):HG B (KpR kp d ep v mb::qM (Value.int .i64) Value.pointer mb (gmM E)::gmO d E::Γ) (vZ.call (some ⟨kp,0,none⟩) n q):=by
 refine fun w hw=>zDQ _ _ _ _ ?_
 refine hg hw ?_
 clear hw w
 unfold vZ
 refine xM ?_
 refine yE (b:=kp) (off:=3) (l:=kpL d ep v mb) (x:=some mb) ?_
 refine zDj (b:=mb) (m:=gmM E) (a:=n) (cV:=Value.pointer) (cG:=Value.pointer) (g:=id) (z:=(none:Option Addr)) (enc:=Value.int .i64) (fun _=>rfl) zPb (zAr .i64) zAp ?_
 rcases zIM n E with hn | ⟨A,e,C,rfl,he,hA⟩
 ·rw [zLb hn]
  refine s_f ?_ (by rfl)
  rw [zDa fun a ha=>by
   obtain ⟨e,he,rfl⟩:=List.mem_map.1 ha
   exact hn e he] at h
  exact h
 ·rw [zIN he hA]
  rw [List.map_append,List.map_cons,zCt he fun a ha=>by
   obtain ⟨e,he,rfl⟩:=List.mem_map.1 ha
   exact hA e he] at h
  refine s_t ?_ (by rfl)
  refine xM ?_
  refine jF (gmO d (A++e::C)) ?_
  refine zO2 (F:=fun e:gE=>zDf e.1 d e.2.W e.2.p e.2.V) ?_
  refine zQ5 fun l vb=>?_
  refine yE (b:=e.1) (off:=1) (l:=zBR l vb) (x:=some ⟨vb,0,none⟩) ?_
  refine vH vb ?_
  refine zC6 ?_
  refine zI (Δ:=blk e.1 (.cells (zBR l vb).toArray yL (0,0))::uU l d e.2.W::zAu vb e.2.p e.2.V::Sep.stars ((A++C).map fun e:gE=>zDf e.1 d e.2.W e.2.p e.2.V)::KpR kp d ep v mb::qM (Value.int .i64) Value.pointer mb (gmM (A++e::C))::Γ) ?_
  refine zIJ ?_
  refine zF7 (F:=fun e:gE=>zDf e.1 d e.2.W e.2.p e.2.V) ?_
  exact zI (Δ:=KpR kp d ep v mb::qM (Value.int .i64) Value.pointer mb (gmM (A++e::C))::gmO d (A++e::C)::Γ) h
theorem zOF {n from':Int} {b:Nat} {q:Sl→Bool→Int→K} (hb:b < 18446744073709551616) (hD:OkD D)
  (hok:∀ e ∈ E,OkW e.2.W∧OkW (e.2.W.app D (zAH b)).2.1∧e.2.V.length < 1000000)
  (habs:(v = false∨∀ e ∈ E,e.2.g ≠ n)→HG B (KpR kp d ep v mb::qM (Value.int .i64) Value.pointer mb (gmM E)::gmO d E::zJ d D::Γ) (q zAA false 0))
  (hold:∀ A gb x C,v = true→E = A++(gb,x)::C→x.g = n→(∀ a ∈ A,a.2.g ≠ n)→(b:Int) < x.p→HG B (KpR kp d ep v mb::qM (Value.int .i64) Value.pointer mb (gmM E)::gmO d E::zJ d D::Γ) (q zAA false 0))
  (heq:∀ A gb x C,v = true→E = A++(gb,x)::C→x.g = n→(∀ a ∈ A,a.2.g ≠ n)→x.p = (b:Int)→∀ s,HG B (SlC yB 3 s ((jv from' x.V).flatMap qo)::KpR kp d ep v mb::qM (Value.int .i64) Value.pointer mb (gmM E)::gmO d E::zJ d D::Γ) (q s true 0))
  (hbad:∀ A gb x C,v = true→E = A++(gb,x)::C→x.g = n→(∀ a ∈ A,a.2.g ≠ n)→x.p < (b:Int)→(qN x.W D (zAH b)).2.2 ≠ 0→OkD (qN x.W D (zAH b)).1→HG B (KpR kp d ep v mb::qM (Value.int .i64) Value.pointer mb (gmM (A++(gb,{ x with W:=(qN x.W D (zAH b)).2.1 })::C))::gmO d (A++(gb,{ x with W:=(qN x.W D (zAH b)).2.1 })::C)::zJ d (qN x.W D (zAH b)).1::Γ) (q zAA false (qN x.W D (zAH b)).2.2))
  (hgood:∀ A gb x C,v = true→E = A++(gb,x)::C→x.g = n→(∀ a ∈ A,a.2.g ≠ n)→x.p < (b:Int)→(qN x.W D (zAH b)).2.2 = 0→OkD (qN x.W D (zAH b)).1→∀ s,HG B (SlC yB 3 s ((jv from' x.V).flatMap qo)::KpR kp d ep v mb::qM (Value.int .i64) Value.pointer mb (gmM (A++(gb,{ x with W:=(qN x.W D (zAH b)).2.1,p:=(b:Int) })::C))::gmO d (A++(gb,{ x with W:=(qN x.W D (zAH b)).2.1,p:=(b:Int) })::C)::zJ d (qN x.W D (zAH b)).1::Γ) (q s true 0)) :
  HG B (KpR kp d ep v mb::qM (Value.int .i64) Value.pointer mb (gmM E)::gmO d E::zJ d D::Γ) (yI.call (some ⟨kp,0,none⟩) n (b:Int) from' q):=by
 refine fun w hw=>zDd _ _ _ _ _ _ ?_
 refine hg hw ?_
 clear hw w
 unfold yI
 refine xM ?_
 refine yE (b:=kp) (off:=3) (l:=kpL d ep v mb) (x:=some mb) ?_
 refine zDj (b:=mb) (m:=gmM E) (a:=n) (cV:=Value.pointer) (cG:=Value.pointer) (g:=id) (z:=(none:Option Addr)) (enc:=Value.int .i64) (fun _=>rfl) zPb (zAr .i64) zAp ?_
 refine yE (b:=kp) (off:=2) (l:=kpL d ep v mb) (x:=v) ?_
 unfold yI.s1
 cases v with
 | false=>
  refine s_t ?_ (by rfl)
  refine s_t ?_ (by rfl)
  exact habs (.inl rfl)
 | true=>
  refine s_f ?_ (by rfl)
  rcases zIM n E with hn | ⟨A,⟨gb,x⟩,C,rfl,he,hA⟩
  ·rw [zLb hn]
   refine s_t ?_ (by rfl)
   refine s_t ?_ (by rfl)
   exact habs (.inr hn)
  rw [zIN he hA]
  have he':x.g = n:=he
  obtain ⟨ok1,ok2,hVl⟩:=hok (gb,x) (by simp)
  simp only at ok1 ok2 hVl
  refine s_f ?_ (by rfl)
  refine xM ?_
  refine jF (gmO d (A++(gb,x)::C)) ?_
  refine zO2 (F:=fun e:gE=>zDf e.1 d e.2.W e.2.p e.2.V) ?_
  refine zQ5 fun l vb=>?_
  refine yE (b:=gb) (off:=1) (l:=zBR l vb) (x:=some ⟨vb,0,none⟩) ?_
  refine vH vb ?_
  refine zC6 ?_
  have back:∀ {y:GM} {D':zC} {Ψ Θ:List zB} {Q1:K},y.g = n→[Drops Ψ (blk gb (.cells (zBR l vb).toArray yL (0,0))::uU l d y.W::zAu vb y.p y.V::Sep.stars ((A++C).map fun e:gE=>zDf e.1 d e.2.W e.2.p e.2.V)::Θ)]→HG B (gmO d (A++(gb,y)::C)::Θ) Q1→HG B Ψ Q1:=fun {y D' Ψ Θ Q1} _ _ hq=>by
   refine zI (Δ:=blk gb (.cells (zBR l vb).toArray yL (0,0))::uU l d y.W::zAu vb y.p y.V::Sep.stars ((A++C).map fun e:gE=>zDf e.1 d e.2.W e.2.p e.2.V)::Θ) ?_
   refine zIJ ?_
   exact zF7 (F:=fun e:gE=>zDf e.1 d e.2.W e.2.p e.2.V) (x:=(gb,y)) hq
  have hmm:∀ y:GM,y.g = n→gmM (A++(gb,y)::C) = gmM (A++(gb,x)::C):=fun y hy=>by simp [gmM,hy,he']
  refine yA (fun h1=>?_) fun h1=>?_
  ·refine back (y:=x) (D':=D) (Θ:=KpR kp d ep true mb::qM (Value.int .i64) Value.pointer mb (gmM (A++(gb,x)::C))::zJ d D::Γ) he' ?_
   exact zI (Δ:=KpR kp d ep true mb::qM (Value.int .i64) Value.pointer mb (gmM (A++(gb,x)::C))::gmO d (A++(gb,x)::C)::zJ d D::Γ) (hold A gb x C rfl rfl he' hA (by simpa using h1))
  simp only [decide_eq_false_iff_not] at h1
  refine xM ?_
  refine yE (b:=gb) (off:=1) (l:=zBR l vb) (x:=some ⟨vb,0,none⟩) ?_
  refine vH vb ?_
  refine zC6 ?_
  unfold yI.s2
  refine yA (fun h2=>?_) fun h2=>?_
  ·have h2':x.p < (b:Int):=by simpa using h2
   have hrl:=zIL hb
   refine zIl fun p=>?_
   refine zKD (b:=1) (by simp) ?_
   refine zKs (n:=b) (by omega) (by simp) ?_
   rw [show ([]:List UInt8)++[1]++vM b = zAH b from rfl]
   refine zI (Δ:=zFF p (zAH b)::blk gb (.cells (zBR l vb).toArray yL (0,0))::uU l d x.W::zJ d D::zAu vb x.p x.V::Sep.stars ((A++C).map fun e:gE=>zDf e.1 d e.2.W e.2.p e.2.V)::KpR kp d ep true mb::qM (Value.int .i64) Value.pointer mb (gmM (A++(gb,x)::C))::Γ) ?_
   refine zP7 hD ok1 (by omega) ok2 fun o1=>?_
   have hbad':=hbad A gb x C rfl rfl he' hA h2'
   have hgood':=hgood A gb x C rfl rfl he' hA h2'
   rw [hmm _ (by exact he')] at hbad'
   generalize qN x.W D (zAH b) = N at *
   refine yA (fun h3=>?_) fun h3=>?_
   ·refine back (y:={ x with W:=N.2.1 }) (D':=D) (Θ:=KpR kp d ep true mb::qM (Value.int .i64) Value.pointer mb (gmM (A++(gb,x)::C))::zJ d N.1::Γ) he' ?_
    exact zI (Δ:=KpR kp d ep true mb::qM (Value.int .i64) Value.pointer mb (gmM (A++(gb,x)::C))::gmO d (A++(gb,{ x with W:=N.2.1 })::C)::zJ d N.1::Γ) (hbad' (by simpa using h3) o1)
   refine xM ?_
   refine yE (b:=gb) (off:=1) (l:=zBR l vb) (x:=some ⟨vb,0,none⟩) ?_
   refine vH vb ?_
   refine zFr hVl (fun h4=>by have h5:(b:Int) < x.p:=h4; omega) fun _ t=>?_
   refine back (y:={ x with W:=N.2.1,p:=(b:Int) }) (D':=D) (Θ:=SlC yB 3 t ((jv from' x.V).flatMap qo)::KpR kp d ep true mb::qM (Value.int .i64) Value.pointer mb (gmM (A++(gb,x)::C))::zJ d N.1::Γ) he' ?_
   have h5:=hgood' (by simpa using h3) o1 t
   rw [hmm _ (by exact he')] at h5
   exact zI (Δ:=SlC yB 3 t ((jv from' x.V).flatMap qo)::KpR kp d ep true mb::qM (Value.int .i64) Value.pointer mb (gmM (A++(gb,x)::C))::gmO d (A++(gb,{ x with W:=N.2.1,p:=(b:Int) })::C)::zJ d N.1::Γ) h5
  ·have h2':x.p = (b:Int):=by simp only [decide_eq_false_iff_not] at h2; omega
   refine xM ?_
   refine yE (b:=gb) (off:=1) (l:=zBR l vb) (x:=some ⟨vb,0,none⟩) ?_
   refine vH vb ?_
   refine zFr hVl (fun h4=>by have h5:(b:Int) < x.p:=h4; omega) fun _ t=>?_
   rw [← h2']
   refine back (y:=x) (D':=D) (Θ:=SlC yB 3 t ((jv from' x.V).flatMap qo)::KpR kp d ep true mb::qM (Value.int .i64) Value.pointer mb (gmM (A++(gb,x)::C))::zJ d D::Γ) he' ?_
   exact zI (Δ:=SlC yB 3 t ((jv from' x.V).flatMap qo)::KpR kp d ep true mb::qM (Value.int .i64) Value.pointer mb (gmM (A++(gb,x)::C))::gmO d (A++(gb,x)::C)::zJ d D::Γ) (heq A gb x C rfl rfl he' hA h2' t)
end
end
end Go.Proofs.YtgmbfnboiobeaaaGreat
namespace Go.Sep
section
open Go Go.RowKit
def zVR (P:Program) (T U E:TypeId):Bool:=(match P.underlying T with | some .string=>true | _=>false) && (match P.underlying U with | some (.slice e)=>Nat.beq e E | _=>false) && (match P.underlying E with | some (.int .u8)=>true | _=>false)
theorem zQ8 {P:Program} {T U E:TypeId} (h:zVR P T U E = true):P.underlying T = some .string∧P.underlying U = some (.slice E)∧P.underlying E = some (.int .u8):=by
 unfold zVR at h
 simp only [Bool.and_eq_true] at h
 obtain ⟨⟨h1,h2⟩,h3⟩:=h
 refine ⟨?_,?_,?_⟩
 ·split at h1 <;> first | assumption | cases h1
 ·split at h2
  ·rename_i e he; rw [he,Nat.eq_of_beq_eq_true h2]
  ·cases h2
 ·split at h3 <;> first | assumption | cases h3
theorem zE0 {P:Program} {B:World} {Γ:List zB} {T U E:TypeId} {xs:List UInt8} {k:Sl→K} (h:∀ s,s.n = xs.length→HG B (SlC E 1 s (xs.map qy)::Γ) (k s)) (hT:zVR P T U E = true:=by kernel_rfl) :
  HG B Γ (Do P (convert T U (.string (bs xs))) Sl.val k):=fun w hw=>by
 obtain ⟨h1,h2,h3⟩:=zQ8 hT
 have hrun:=Go.Lib.run_convert_string_bytes w T U E (bs xs) h1 h2 h3
 have hsz:(bs xs).size = xs.length:=rfl
 have hcap:xs.length ≤ grownCap w xs.length 0 E:=by
  unfold grownCap Question.cut
  simp only
  omega
 refine ⟨⟨some ⟨w.heap.size,0,none⟩,xs.length,grownCap w xs.length 0 E⟩,_,hrun,h _ rfl _ ?_⟩
 have h4:=hw.alloc (.cells (Go.Lib.bytesCells w E (bs xs)) E ((Go.Lib.bytesCells w E (bs xs)).size,(Go.Lib.bytesCells w E (bs xs)).size + 1))
 have h5:Holds B (blk w.heap.size (.cells (Go.Lib.bytesCells w E (bs xs)) E ((Go.Lib.bytesCells w E (bs xs)).size,(Go.Lib.bytesCells w E (bs xs)).size + 1))::Γ) (Go.Lib.bytesWorld w E (bs xs)):=by
  refine h4.zRC ?_ rfl rfl rfl
  apply Array.ext_getElem?
  intro j
  simp only [Array.getElem?_push]
  by_cases hj:j = w.heap.size
  ·subst hj
   rw [Go.Lib.bytesWorld_at_new,if_pos rfl]
  ·rw [if_neg hj]
   by_cases hl:j < w.heap.size
   ·exact Go.Lib.bytesWorld_at_old w E (bs xs) j hl
   ·have hs:=Go.Lib.bytesWorld_size w E (bs xs)
    rw [Array.getElem?_eq_none (by omega),Array.getElem?_eq_none (by omega)]
 have hlen:(Go.Lib.bytesCells w E (bs xs)).size = xs.length + (grownCap w xs.length 0 E - xs.length):=by
  simp [Go.Lib.bytesCells,hsz]
 refine zNb (a:=⟨w.heap.size,0,none⟩) (cs:=Go.Lib.bytesCells w E (bs xs)) rfl h5 ⟨rfl,fun i _ hi=>?_,?_,fun i hi=>?_,?_,hcap⟩
 ·simp only at hi ⊢; omega
 ·simp only; omega
 ·simp only [List.length_map] at hi
  simp only [Nat.zero_add,Go.Lib.bytesCells]
  rw [Array.getElem?_append_left (by simp [hsz]; omega)]
  simp only [Array.getElem?_map,List.getElem?_map,List.getElem?_toArray]; rfl
 ·simp
end
end Go.Sep
namespace Go.Proofs.YtgmbfnboiobeaaaGreat
section
open Go Go.Sep Go.Sep.Bt
def uo (s b:Nat) (x:List UInt8):List UInt8:=[2]++vM s++vM b++vM x.length++x
theorem zGJ {s b:Nat} {x:List UInt8} (hs:s < 64) (hb:b < 18446744073709551616) (hx:x.length ≤ 4000):(uo s b x).length ≤ 4096:=by
 have h1:=xO 9 s (by omega)
 have h2:=xO 9 b (by omega)
 have h3:=xO 9 x.length (by omega)
 unfold uo
 simp only [List.length_append,List.length_cons,List.length_nil]
 omega
section
variable {B:World} {Γ Δ:List zB} {kp d ep mb:Nat} {v:Bool} {D:zC} {E:List gE}
theorem zP9 {n sl:Int} {b:Nat} {xv:List UInt8} {q:Bool→Int→K} (hb:b < 18446744073709551616) (hD:OkD D)
  (hok:∀ e ∈ E,OkW e.2.W∧(∀ i:Nat,i < 64→xv.length ≤ 4000→OkW (e.2.W.app D (uo i b xv)).2.1)∧e.2.V.length < 1000000)
  (habs:(v = false∨(∀ e ∈ E,e.2.g ≠ n)∨∃ A gb x C,E = A++(gb,x)::C∧x.g = n∧(∀ a ∈ A,a.2.g ≠ n)∧((b:Int) < x.p∨sl < 0∨64 ≤ sl))→HG B (KpR kp d ep v mb::qM (Value.int .i64) Value.pointer mb (gmM E)::gmO d E::zJ d D::Γ) (q false 0))
  (hlong:∀ A gb x C,v = true→E = A++(gb,x)::C→x.g = n→(∀ a ∈ A,a.2.g ≠ n)→x.p ≤ (b:Int)→0 ≤ sl→sl < 64→4000 < xv.length→HG B (KpR kp d ep v mb::qM (Value.int .i64) Value.pointer mb (gmM E)::gmO d E::zJ d D::Γ) (q false 1))
  (hbad:∀ A gb x C (i:Nat),v = true→E = A++(gb,x)::C→x.g = n→(∀ a ∈ A,a.2.g ≠ n)→x.p ≤ (b:Int)→sl = (i:Int)→i < 64→xv.length ≤ 4000→(qN x.W D (uo i b xv)).2.2 ≠ 0→OkD (qN x.W D (uo i b xv)).1→HG B (KpR kp d ep v mb::qM (Value.int .i64) Value.pointer mb (gmM (A++(gb,{ x with W:=(qN x.W D (uo i b xv)).2.1 })::C))::gmO d (A++(gb,{ x with W:=(qN x.W D (uo i b xv)).2.1 })::C)::zJ d (qN x.W D (uo i b xv)).1::Γ) (q false (qN x.W D (uo i b xv)).2.2))
  (hgood:∀ A gb x C (i:Nat),v = true→E = A++(gb,x)::C→x.g = n→(∀ a ∈ A,a.2.g ≠ n)→x.p ≤ (b:Int)→sl = (i:Int)→i < 64→xv.length ≤ 4000→(qN x.W D (uo i b xv)).2.2 = 0→OkD (qN x.W D (uo i b xv)).1→HG B (KpR kp d ep v mb::qM (Value.int .i64) Value.pointer mb (gmM (A++(gb,{ x with W:=(qN x.W D (uo i b xv)).2.1,p:=(b:Int),V:=zBE (sl,(b:Int),xv) x.V })::C))::gmO d (A++(gb,{ x with W:=(qN x.W D (uo i b xv)).2.1,p:=(b:Int),V:=zBE (sl,(b:Int),xv) x.V })::C)::zJ d (qN x.W D (uo i b xv)).1::Γ) (q true 0)) :
  HG B (KpR kp d ep v mb::qM (Value.int .i64) Value.pointer mb (gmM E)::gmO d E::zJ d D::Γ) (yh.call (some ⟨kp,0,none⟩) n (qo (sl,(b:Int),xv)).toArray q):=by
 refine fun w hw=>zD5 _ _ _ _ _ ?_
 refine hg hw ?_
 clear hw w
 unfold yh
 refine ql fun v5=>?_
 refine xM ?_
 refine yE (b:=kp) (off:=3) (l:=kpL d ep v mb) (x:=some mb) ?_
 refine zDj (b:=mb) (m:=gmM E) (a:=n) (cV:=Value.pointer) (cG:=Value.pointer) (g:=id) (z:=(none:Option Addr)) (enc:=Value.int .i64) (fun _=>rfl) zPb (zAr .i64) zAp ?_
 unfold yh.s1
 have same:∀ {Ψ:List zB} {ok:Bool} {e:Int},[Drops Ψ (KpR kp d ep v mb::qM (Value.int .i64) Value.pointer mb (gmM E)::gmO d E::zJ d D::Γ)]→HG B (KpR kp d ep v mb::qM (Value.int .i64) Value.pointer mb (gmM E)::gmO d E::zJ d D::Γ) (q ok e)→HG B Ψ (q ok e):=fun {Ψ ok e} _ h=>zI h
 rcases zIM n E with hn | ⟨A,⟨gb,x⟩,C,rfl,he,hA⟩
 ·rw [zLb hn]
  refine zAQ ?_
  refine zIc ?_
  refine jR (b:=kp) (off:=2) (l:=kpL d ep v mb) (x:=v) ?_
  refine yA (fun _=>?_) fun _=>?_
  ·exact s_t (same (habs (.inr (.inl hn)))) (by rfl)
  ·refine s_t ?_ (by rfl)
   exact s_t (same (habs (.inr (.inl hn)))) (by rfl)
 rw [zIN he hA]
 have he':x.g = n:=he
 obtain ⟨ok1,ok2,hVl⟩:=hok (gb,x) (by simp)
 simp only at ok1 ok2 hVl
 refine jF (gmO d (A++(gb,x)::C)) ?_
 refine zO2 (F:=fun e:gE=>zDf e.1 d e.2.W e.2.p e.2.V) ?_
 refine zQ5 fun l vb=>?_
 have back:∀ {y:GM} {Ψ Θ:List zB} {Q1:K},y.g = n→[Drops Ψ (blk gb (.cells (zBR l vb).toArray yL (0,0))::uU l d y.W::zAu vb y.p y.V::Sep.stars ((A++C).map fun e:gE=>zDf e.1 d e.2.W e.2.p e.2.V)::Θ)]→HG B (gmO d (A++(gb,y)::C)::Θ) Q1→HG B Ψ Q1:=fun {y Ψ Θ Q1} _ _ hq=>by
  refine zI (Δ:=blk gb (.cells (zBR l vb).toArray yL (0,0))::uU l d y.W::zAu vb y.p y.V::Sep.stars ((A++C).map fun e:gE=>zDf e.1 d e.2.W e.2.p e.2.V)::Θ) ?_
  refine zIJ ?_
  exact zF7 (F:=fun e:gE=>zDf e.1 d e.2.W e.2.p e.2.V) (x:=(gb,y)) hq
 have backx:∀ {Ψ:List zB} {ok:Bool} {e:Int},[Drops Ψ (blk gb (.cells (zBR l vb).toArray yL (0,0))::uU l d x.W::zAu vb x.p x.V::Sep.stars ((A++C).map fun e:gE=>zDf e.1 d e.2.W e.2.p e.2.V)::KpR kp d ep v mb::qM (Value.int .i64) Value.pointer mb (gmM (A++(gb,x)::C))::zJ d D::Γ)]→HG B (KpR kp d ep v mb::qM (Value.int .i64) Value.pointer mb (gmM (A++(gb,x)::C))::gmO d (A++(gb,x)::C)::zJ d D::Γ) (q ok e)→HG B Ψ (q ok e):=fun {Ψ ok e} _ h=>by
  refine back (y:=x) (Θ:=KpR kp d ep v mb::qM (Value.int .i64) Value.pointer mb (gmM (A++(gb,x)::C))::zJ d D::Γ) he' ?_
  exact zI h
 have hmm:∀ y:GM,y.g = n→gmM (A++(gb,y)::C) = gmM (A++(gb,x)::C):=fun y hy=>by simp [gmM,hy,he']
 refine zAQ ?_
 refine zIc ?_
 refine jR (b:=kp) (off:=2) (l:=kpL d ep v mb) (x:=v) ?_
 cases v with
 | false=>
  refine s_t ?_ (by rfl)
  exact s_t (backx (habs (.inl rfl))) (by rfl)
 | true=>
  refine s_f ?_ (by rfl)
  refine s_f ?_ (by rfl)
  refine xM ?_
  refine jR (b:=v5) (off:=1) (l:=qo (sl,(b:Int),xv)) (x:=(b:Int)) ?_
  refine jR (b:=gb) (off:=1) (l:=zBR l vb) (x:=some ⟨vb,0,none⟩) ?_
  refine vH vb ?_
  refine zC6 ?_
  refine zBb ?_
  have nope:((b:Int) < x.p∨sl < 0∨64 ≤ sl)→HG B (KpR kp d ep true mb::qM (Value.int .i64) Value.pointer mb (gmM (A++(gb,x)::C))::gmO d (A++(gb,x)::C)::zJ d D::Γ) (q false 0):=fun h=>habs (.inr (.inr ⟨A,gb,x,C,rfl,he',hA,h⟩))
  refine yA (fun h1=>s_t (backx (nope (.inl (by simpa using h1)))) (by rfl)) fun h1=>?_
  refine jR (b:=v5) (l:=qo (sl,(b:Int),xv)) (x:=sl) ?_
  refine yA (fun h2=>s_t (backx (nope (.inr (.inl (by simpa using h2))))) (by rfl)) fun h2=>?_
  refine jR (b:=v5) (l:=qo (sl,(b:Int),xv)) (x:=sl) ?_
  refine yA (fun h3=>backx (nope (.inr (.inr (by simpa using h3))))) fun h3=>?_
  have h1':x.p ≤ (b:Int):=by
                   have:¬ (b:Int) < x.p:=by simpa using h1
                   omega
  simp only [decide_eq_false_iff_not] at h2 h3
  obtain ⟨i,rfl⟩:∃ i:Nat,sl = (i:Int):=⟨sl.toNat,by omega⟩
  have hi:i < 64:=by omega
  have hsz:((bs xv).size:Int) = xv.length:=by simp [bs,ByteArray.size]
  refine yE (b:=v5) (off:=2) (l:=qo ((i:Int),(b:Int),xv)) (x:=bs xv) ?_
  refine yA (fun h4=>backx (hlong A gb x C rfl rfl he' hA h1' (by omega) (by omega) (by simp only [decide_eq_true_eq] at h4; omega))) fun h4=>?_
  have hx4:xv.length ≤ 4000:=by simp only [decide_eq_false_iff_not] at h4; omega
  have hrl:=zGJ hi hb hx4
  refine zIl fun p=>?_
  refine zKD (b:=2) (by simp) ?_
  refine yE (b:=v5) (l:=qo ((i:Int),(b:Int),xv)) (x:=(i:Int)) ?_
  refine vI (xI (by omega) (by omega)) ?_
  refine vH p ?_
  refine zKs (n:=i) (by omega) (by simp) ?_
  refine yE (b:=v5) (off:=1) (l:=qo ((i:Int),(b:Int),xv)) (x:=(b:Int)) ?_
  refine vH p ?_
  have hl1:=xO 9 i (by omega)
  have hl2:=xO 9 b (by omega)
  refine zKs (n:=b) (by omega) (by simp; omega) ?_
  refine yE (b:=v5) (off:=2) (l:=qo ((i:Int),(b:Int),xv)) (x:=bs xv) ?_
  refine zE0 (E:=zF) (xs:=xv) fun t68 ht68=>?_
  refine vH p ?_
  refine zWQ (ys:=xv) (fun w hw=>Bytes.rd hw List.mem_cons_self) (by omega) (by simp; omega) ?_
  rw [show ([]:List UInt8)++[2]++vM i++vM b++vM xv.length++xv = uo i b xv from rfl]
  refine zI (Δ:=zFF p (uo i b xv)::blk gb (.cells (zBR l vb).toArray yL (0,0))::uU l d x.W::zJ d D::blk v5 (.cells (qo ((i:Int),(b:Int),xv)).toArray yB (0,0))::zAu vb x.p x.V::Sep.stars ((A++C).map fun e:gE=>zDf e.1 d e.2.W e.2.p e.2.V)::KpR kp d ep true mb::qM (Value.int .i64) Value.pointer mb (gmM (A++(gb,x)::C))::Γ) ?_
  refine zP7 hD ok1 (by omega) (ok2 i hi hx4) fun o1=>?_
  have hbad':=hbad A gb x C i rfl rfl he' hA h1' rfl hi hx4
  have hgood':=hgood A gb x C i rfl rfl he' hA h1' rfl hi hx4
  rw [hmm _ (by exact he')] at hbad'
  generalize qN x.W D (uo i b xv) = N at *
  refine yA (fun h5=>?_) fun h5=>?_
  ·refine back (y:={ x with W:=N.2.1 }) (Θ:=KpR kp d ep true mb::qM (Value.int .i64) Value.pointer mb (gmM (A++(gb,x)::C))::zJ d N.1::Γ) he' ?_
   exact zI (Δ:=KpR kp d ep true mb::qM (Value.int .i64) Value.pointer mb (gmM (A++(gb,x)::C))::gmO d (A++(gb,{ x with W:=N.2.1 })::C)::zJ d N.1::Γ) (hbad' (by simpa using h5) o1)
  refine zAQ ?_
  refine xM ?_
  refine yE (b:=gb) (off:=1) (l:=zBR l vb) (x:=some ⟨vb,0,none⟩) ?_
  refine zDH (b:=v5) (off:=0) (l:=qo ((i:Int),(b:Int),xv)) (l':=qo ((i:Int),(b:Int),xv)) ?_ rfl rfl
  refine vH vb ?_
  refine zK6 (v:=((i:Int),(b:Int),xv)) hVl (fun h6=>?_) fun _ _ _=>?_
  ·exfalso
   simp only at h6
   have h7:(b:Int) < x.p∨(i:Int) < 0∨64 ≤ (i:Int):=h6
   omega
  refine back (y:={ x with W:=N.2.1,p:=(b:Int),V:=zBE ((i:Int),(b:Int),xv) x.V }) (Θ:=KpR kp d ep true mb::qM (Value.int .i64) Value.pointer mb (gmM (A++(gb,x)::C))::zJ d N.1::Γ) he' ?_
  have h8:=hgood' (by simpa using h5) o1
  rw [hmm _ (by exact he')] at h8
  exact zI (Δ:=KpR kp d ep true mb::qM (Value.int .i64) Value.pointer mb (gmM (A++(gb,x)::C))::gmO d (A++(gb,{ x with W:=N.2.1,p:=(b:Int),V:=zBE ((i:Int),(b:Int),xv) x.V })::C)::zJ d N.1::Γ) h8
end
end
section
open Go Go.Sep Go.Sep.Bt
section
variable {B:World} {Γ Δ:List zB} {kp m ep:Nat} {v:Bool} {gs ls vs:Sl} {gl:List Int}
theorem zYi {n:Int} {q:Int→K} (hgr:∀ w,Holds B Γ w→RdC w gs 1 (gl.map (Value.int .i64))) (hgn:gs.n = gl.length) (hl:gl.length ≤ 1000) (hno:(∀ g ∈ gl,g ≠ n)→HG B (DkR kp m ep v gs ls vs::Γ) (q (-1)))
  (hyes:∀ A C,gl = A++n::C→(∀ a ∈ A,a ≠ n)→HG B (DkR kp m ep v gs ls vs::Γ) (q (A.length:Int))) :
  HG B (DkR kp m ep v gs ls vs::Γ) (xS.call (some ⟨kp,0,none⟩) n q):=by
 refine fun w hw=>zG7 _ _ _ _ ?_
 refine hg hw ?_
 clear hw w
 unfold xS
 refine jm (α:=Int) (ι:=Nat) (fun y i=>y = (i:Int)∧i ≤ gl.length∧∀ g ∈ gl.take i,g ≠ n) (fun y i=>DkR kp m ep v gs ls vs::Γ) (fun y i=>gl.length - i) 0 ⟨rfl,Nat.zero_le _,by simp⟩ ?_
 rintro k' _ i ⟨rfl,hi,hin⟩ hk'
 unfold xS.b1
 refine xM ?_
 refine yE (b:=kp) (off:=3) (l:=dkL m ep v gs ls vs) (x:=gs) ?_
 refine yA (fun hb=>?_) fun hb=>?_
 ·have hil:i < gl.length:=by simp only [decide_eq_true_eq] at hb; omega
  have hge:gl[i]? = some gl[i]:=List.getElem?_eq_getElem hil
  have htk:gl.take (i + 1) = gl.take i++[gl[i]]:=List.take_succ_eq_append_getElem hil
  have hsp:gl = gl.take i++gl[i]::gl.drop (i + 1):=by
   have:=(List.take_append_drop i gl).symm
   rw [List.drop_eq_getElem_cons hil] at this
   exact this
  generalize gl[i] = g at hge htk hsp
  refine yE (b:=kp) (off:=3) (l:=dkL m ep v gs ls vs) (x:=gs) ?_
  refine jZ (c:=Value.int .i64) (L:=gl) (j:=i) (x:=g) (fun w hw=>hgr w hw.tail) hge ?_
  refine yA (fun h0=>?_) fun h0=>?_
  ·have h0':g = n:=by simpa using h0
   subst h0'
   have:=hyes (gl.take i) (gl.drop (i + 1)) hsp hin
   rw [List.length_take,Nat.min_eq_left (by omega)] at this
   exact this
  ·refine zAn ?_
   refine hk' _ (i + 1) ⟨rfl,by omega,fun x hx=>?_⟩ (by omega)
   rw [htk] at hx
   rcases List.mem_append.1 hx with hx | hx
   ·exact hin x hx
   ·simp only [List.mem_singleton] at hx; subst hx; simpa using h0
 ·have hil:i = gl.length:=by simp only [decide_eq_false_iff_not] at hb; omega
  rw [hil,List.take_length] at hin
  exact hno hin
end
end
section
open Go Go.Sep Go.Sep.Bt
def zJt (n:Int):List GM→Option GM
 | []=>none
 | x::G=>if x.g = n then some x else zJt n G
def zQA (n:Int) (f:GM→GM):List GM→List GM
 | []=>[]
 | x::G=>if x.g = n then f x::G else x::zQA n f G
theorem zI8 {n:Int}:∀ {G:List GM},(∀ a ∈ G,a.g ≠ n)→zJt n G = none
 | [],_=>rfl
 | a::G,h=>by
  show (if a.g = n then _ else zJt n G) = _
  rw [if_neg (h a (by simp))]
  exact zI8 fun y hy=>h y (by simp [hy])
theorem zE1 {n:Int} {x:GM} {C:List GM} (hx:x.g = n):∀ {A:List GM},(∀ a ∈ A,a.g ≠ n)→zJt n (A++x::C) = some x
 | [],_=>by simp [zJt,hx]
 | a::A,h=>by
  show (if a.g = n then _ else zJt n (A++x::C)) = _
  rw [if_neg (h a (by simp))]
  exact zE1 hx fun y hy=>h y (by simp [hy])
theorem zDb {n:Int} {x:GM} {C:List GM} {f:GM→GM} (hx:x.g = n):∀ {A:List GM},(∀ a ∈ A,a.g ≠ n)→zQA n f (A++x::C) = A++f x::C
 | [],_=>by simp [zQA,hx]
 | a::A,h=>by
  show (if a.g = n then _ else a::zQA n f (A++x::C)) = _
  rw [if_neg (h a (by simp)),zDb hx fun y hy=>h y (by simp [hy])]
  rfl
structure zZ0 where
 D:zC
 G:List GM
 votes:List qU
 ok:Bool
 code:Int
def zBF (D:zC) (G:List GM) (v:Bool) (n:Int) (b:Nat) (fr:Int):zZ0 :=
 if v = false then ⟨D,G,[],false,0⟩ else match zJt n G with
 | none=>⟨D,G,[],false,0⟩
 | some x=>if (b:Int) < x.p then ⟨D,G,[],false,0⟩ else if x.p = (b:Int) then ⟨D,G,jv fr x.V,true,0⟩
  else if (qN x.W D (zAH b)).2.2 ≠ 0 then ⟨(qN x.W D (zAH b)).1,zQA n (fun x=>{ x with W:=(qN x.W D (zAH b)).2.1 }) G,[],false,(qN x.W D (zAH b)).2.2⟩
  else ⟨(qN x.W D (zAH b)).1,zQA n (fun x=>{ x with W:=(qN x.W D (zAH b)).2.1,p:=(b:Int) }) G,jv fr x.V,true,0⟩
def zEd (D:zC) (G:List GM) (v:Bool) (n sl:Int) (b:Nat) (xv:List UInt8):zZ0 :=
 if v = false then ⟨D,G,[],false,0⟩ else match zJt n G with
 | none=>⟨D,G,[],false,0⟩
 | some x=>if (b:Int) < x.p∨sl < 0∨64 ≤ sl then ⟨D,G,[],false,0⟩ else if 4000 < xv.length then ⟨D,G,[],false,1⟩
  else if (qN x.W D (uo sl.toNat b xv)).2.2 ≠ 0 then ⟨(qN x.W D (uo sl.toNat b xv)).1,zQA n (fun x=>{ x with W:=(qN x.W D (uo sl.toNat b xv)).2.1 }) G,[],false,(qN x.W D (uo sl.toNat b xv)).2.2⟩
  else ⟨(qN x.W D (uo sl.toNat b xv)).1,zQA n (fun x=>{ x with W:=(qN x.W D (uo sl.toNat b xv)).2.1,p:=(b:Int),V:=zBE (sl,(b:Int),xv) x.V }) G,[],true,0⟩
section
variable {D:zC} {G A C:List GM} {v:Bool} {n fr sl:Int} {b:Nat} {xv:List UInt8} {x:GM}
theorem zGK (h:v = false∨∀ a ∈ G,a.g ≠ n):zBF D G v n b fr = ⟨D,G,[],false,0⟩:=by
 unfold zBF
 split
 ·rfl
 ·rename_i hv
  rcases h with h | h
  ·exact absurd h hv
  ·rw [zI8 h]
theorem zLc (hv:v = true) (hx:x.g = n) (hA:∀ a ∈ A,a.g ≠ n):zBF D (A++x::C) v n b fr = if (b:Int) < x.p then ⟨D,A++x::C,[],false,0⟩ else if x.p = (b:Int) then ⟨D,A++x::C,jv fr x.V,true,0⟩
  else if (qN x.W D (zAH b)).2.2 ≠ 0 then ⟨(qN x.W D (zAH b)).1,A++{ x with W:=(qN x.W D (zAH b)).2.1 }::C,[],false,(qN x.W D (zAH b)).2.2⟩
  else ⟨(qN x.W D (zAH b)).1,A++{ x with W:=(qN x.W D (zAH b)).2.1,p:=(b:Int) }::C,jv fr x.V,true,0⟩:=by
 subst hv
 unfold zBF
 rw [if_neg (by decide),zE1 hx hA,zDb hx hA,zDb hx hA]
theorem zEe (h:v = false∨(∀ a ∈ G,a.g ≠ n)∨∃ A x C,G = A++x::C∧x.g = n∧(∀ a ∈ A,a.g ≠ n)∧((b:Int) < x.p∨sl < 0∨64 ≤ sl)):zEd D G v n sl b xv = ⟨D,G,[],false,0⟩:=by
 unfold zEd
 split
 ·rfl
 ·rename_i hv
  rcases h with h | h | ⟨A,x,C,rfl,hx,hA,h⟩
  ·exact absurd h hv
  ·rw [zI8 h]
  ·rw [zE1 hx hA]
   simp only
   rw [if_pos h]
theorem zOG (hv:v = true) (hx:x.g = n) (hA:∀ a ∈ A,a.g ≠ n) (h:¬ ((b:Int) < x.p∨sl < 0∨64 ≤ sl)):zEd D (A++x::C) v n sl b xv = if 4000 < xv.length then ⟨D,A++x::C,[],false,1⟩
  else if (qN x.W D (uo sl.toNat b xv)).2.2 ≠ 0 then ⟨(qN x.W D (uo sl.toNat b xv)).1,A++{ x with W:=(qN x.W D (uo sl.toNat b xv)).2.1 }::C,[],false,(qN x.W D (uo sl.toNat b xv)).2.2⟩
  else ⟨(qN x.W D (uo sl.toNat b xv)).1,A++{ x with W:=(qN x.W D (uo sl.toNat b xv)).2.1,p:=(b:Int),V:=zBE (sl,(b:Int),xv) x.V }::C,[],true,0⟩:=by
 subst hv
 unfold zEd
 rw [if_neg (by decide),zE1 hx hA,zDb hx hA,zDb hx hA]
 simp only
 rw [if_neg h]
end
section
variable {B:World} {Γ Δ:List zB} {k:K} {kp d m ep mb:Nat} {v:Bool} {D M:zC} {E:List gE} {F:List GE} {gs ls vs:Sl} {gl:List Int}
abbrev kaS (kp d ep:Nat) (v:Bool) (mb:Nat) (E:List gE) (D:zC) (Γ:List zB):List zB:=KpR kp d ep v mb::qM (Value.int .i64) Value.pointer mb (gmM E)::gmO d E::zJ d D::Γ
abbrev kdS (kp m ep:Nat) (v:Bool) (gs ls vs:Sl) (F:List GE) (M:zC) (Γ:List zB):List zB:=DkR kp m ep v gs ls vs::dkE m ls vs F (zk m M::Γ)
theorem zOH {n fr:Int} {b:Nat} {q:Sl→Bool→Int→K} (hb:b < 18446744073709551616) (hD:OkD D)
  (hok:∀ e ∈ E,OkW e.2.W∧OkW (e.2.W.app D (zAH b)).2.1∧e.2.V.length < 1000000)
  (h:∀ s E',E'.map (fun e=>e.2) = (zBF D (E.map fun e=>e.2) v n b fr).G→OkD (zBF D (E.map fun e=>e.2) v n b fr).D→HG B (SlC yB 3 s ((zBF D (E.map fun e=>e.2) v n b fr).votes.flatMap qo)::kaS kp d ep v mb E' (zBF D (E.map fun e=>e.2) v n b fr).D Γ) (q s (zBF D (E.map fun e=>e.2) v n b fr).ok (zBF D (E.map fun e=>e.2) v n b fr).code)) :
  HG B (kaS kp d ep v mb E D Γ) (yI.call (some ⟨kp,0,none⟩) n (b:Int) fr q):=by
 have nil:∀ {E':List gE} {D':zC} {Q:K},HG B (SlC yB 3 zAA (([]:List qU).flatMap qo)::kaS kp d ep v mb E' D' Γ) Q→HG B (kaS kp d ep v mb E' D' Γ) Q:=fun {E' D' Q} h w hw=>h w (hw.zAv _ _)
 refine zOF hb hD hok (fun ha=>?_) (fun A gb x C hv he hx hA hlt=>?_) (fun A gb x C hv he hx hA hp s=>?_) (fun A gb x C hv he hx hA hlt hc o=>?_) (fun A gb x C hv he hx hA hlt hc o s=>?_)
 ·rw [zGK (ha.imp id fun h a ha=>by
   obtain ⟨e,he,rfl⟩:=List.mem_map.1 ha
   exact h e he)] at h
  exact nil (h zAA E rfl hD)
 all_goals
  subst he
  have hA':∀ a ∈ A.map (fun e=>e.2),a.g ≠ n:=fun a ha=>by
   obtain ⟨e,he,rfl⟩:=List.mem_map.1 ha
   exact hA e he
  rw [List.map_append,List.map_cons,zLc hv hx hA'] at h
 ·rw [if_pos hlt] at h
  exact nil (h zAA _ (by simp) hD)
 ·rw [if_neg (by omega),if_pos hp] at h
  exact h s _ (by simp) hD
 ·rw [if_neg (by omega),if_neg (by omega),if_pos hc] at h
  exact nil (h zAA _ (by simp) o)
 ·rw [if_neg (by omega),if_neg (by omega),if_neg (by simpa using hc)] at h
  exact h s _ (by simp) o
theorem zQB {n sl:Int} {b:Nat} {xv:List UInt8} {q:Bool→Int→K} (hb:b < 18446744073709551616) (hD:OkD D)
  (hok:∀ e ∈ E,OkW e.2.W∧(∀ i:Nat,i < 64→xv.length ≤ 4000→OkW (e.2.W.app D (uo i b xv)).2.1)∧e.2.V.length < 1000000)
  (h:∀ E',E'.map (fun e=>e.2) = (zEd D (E.map fun e=>e.2) v n sl b xv).G→OkD (zEd D (E.map fun e=>e.2) v n sl b xv).D→HG B (kaS kp d ep v mb E' (zEd D (E.map fun e=>e.2) v n sl b xv).D Γ) (q (zEd D (E.map fun e=>e.2) v n sl b xv).ok (zEd D (E.map fun e=>e.2) v n sl b xv).code)) :
  HG B (kaS kp d ep v mb E D Γ) (yh.call (some ⟨kp,0,none⟩) n (qo (sl,(b:Int),xv)).toArray q):=by
 refine zP9 hb hD hok (fun ha=>?_) (fun A gb x C hv he hx hA hp h0 h1 hl=>?_) (fun A gb x C i hv he hx hA hp hi hi2 hl hc o=>?_) (fun A gb x C i hv he hx hA hp hi hi2 hl hc o=>?_)
 ·rw [zEe (by
   rcases ha with ha | ha | ⟨A,gb,x,C,rfl,hx,hA,h⟩
   ·exact .inl ha
   ·exact .inr (.inl fun a h=>by
     obtain ⟨e,he,rfl⟩:=List.mem_map.1 h
     exact ha e he)
   ·exact .inr (.inr ⟨A.map (fun e=>e.2),x,C.map (fun e=>e.2),by simp,hx,fun a h=>by
     obtain ⟨e,he,rfl⟩:=List.mem_map.1 h
     exact hA e he,h⟩))] at h
  exact h E rfl hD
 all_goals
  subst he
  have hA':∀ a ∈ A.map (fun e=>e.2),a.g ≠ n:=fun a ha=>by
   obtain ⟨e,he,rfl⟩:=List.mem_map.1 ha
   exact hA e he
  rw [List.map_append,List.map_cons,zOG hv hx hA' (by omega)] at h
 ·rw [if_pos hl] at h
  exact h _ (by simp) hD
 ·subst hi
  rw [if_neg (by omega),Int.toNat_natCast,if_pos hc] at h
  exact h _ (by simp) o
 ·subst hi
  rw [if_neg (by omega),Int.toNat_natCast,if_neg (by simpa using hc)] at h
  exact h _ (by simp) o
theorem zKI {A C:List GE} {e:GE} (h:HG B (xA e.2.1 e.2.2.p e.2.2.V::LgR e.1 m e.2.2.W::DkR kp m ep v gs ls vs::SlC zZ 1 ls ((A++e::C).map fun e=>jr e.1)::SlC zy 1 vs ((A++e::C).map fun e=>jr e.2.1)::Sep.stars ((A++C).map fun e=>LgR e.1 m e.2.2.W)::Sep.stars ((A++C).map fun e=>xA e.2.1 e.2.2.p e.2.2.V)::zk m M::Γ) k):HG B (kdS kp m ep v gs ls vs (A++e::C) M Γ) k:=by
 refine jF (Sep.stars ((A++e::C).map fun e:GE=>LgR e.1 m e.2.2.W)) ?_
 refine zO2 (F:=fun e:GE=>LgR e.1 m e.2.2.W) ?_
 refine jF (Sep.stars ((A++e::C).map fun e:GE=>xA e.2.1 e.2.2.p e.2.2.V)) ?_
 refine zO2 (F:=fun e:GE=>xA e.2.1 e.2.2.p e.2.2.V) ?_
 exact zI h
theorem zDv {A C:List GE} {e:GE} {y:GM} (h:HG B (kdS kp m ep v gs ls vs (A++(e.1,e.2.1,y)::C) M Γ) k):HG B (xA e.2.1 y.p y.V::LgR e.1 m y.W::DkR kp m ep v gs ls vs::SlC zZ 1 ls ((A++e::C).map fun e=>jr e.1)::SlC zy 1 vs ((A++e::C).map fun e=>jr e.2.1)::Sep.stars ((A++C).map fun e=>LgR e.1 m e.2.2.W)::Sep.stars ((A++C).map fun e=>xA e.2.1 e.2.2.p e.2.2.V)::zk m M::Γ) k:=by
 have e1:(A++e::C).map (fun e:GE=>jr e.1) = (A++(e.1,e.2.1,y)::C).map fun e:GE=>jr e.1:=by simp
 have e2:(A++e::C).map (fun e:GE=>jr e.2.1) = (A++(e.1,e.2.1,y)::C).map fun e:GE=>jr e.2.1:=by simp
 rw [e1,e2]
 refine zI (Δ:=xA e.2.1 y.p y.V::Sep.stars ((A++C).map fun e:GE=>xA e.2.1 e.2.2.p e.2.2.V)::LgR e.1 m y.W::Sep.stars ((A++C).map fun e:GE=>LgR e.1 m e.2.2.W)::DkR kp m ep v gs ls vs::SlC zZ 1 ls ((A++(e.1,e.2.1,y)::C).map fun e:GE=>jr e.1)::SlC zy 1 vs ((A++(e.1,e.2.1,y)::C).map fun e:GE=>jr e.2.1)::zk m M::Γ) ?_
 refine zF7 (F:=fun e:GE=>xA e.2.1 e.2.2.p e.2.2.V) (x:=(e.1,e.2.1,y)) ?_
 refine zI (Δ:=LgR e.1 m y.W::Sep.stars ((A++C).map fun e:GE=>LgR e.1 m e.2.2.W)::Sep.stars ((A++(e.1,e.2.1,y)::C).map fun e:GE=>xA e.2.1 e.2.2.p e.2.2.V)::DkR kp m ep v gs ls vs::SlC zZ 1 ls ((A++(e.1,e.2.1,y)::C).map fun e:GE=>jr e.1)::SlC zy 1 vs ((A++(e.1,e.2.1,y)::C).map fun e:GE=>jr e.2.1)::zk m M::Γ) ?_
 refine zF7 (F:=fun e:GE=>LgR e.1 m e.2.2.W) (x:=(e.1,e.2.1,y)) ?_
 exact zI h
theorem zOI {n:Int} {q:Int→K} (hgr:∀ w,Holds B Γ w→RdC w gs 1 (gl.map (Value.int .i64))) (hgn:gs.n = gl.length) (hgl:gl.length ≤ 1000) (hF:F.map (fun e=>e.2.2.g) = gl) (hno:(∀ e ∈ F,e.2.2.g ≠ n)→HG B (DkR kp m ep v gs ls vs::Γ) (q (-1)))
  (hyes:∀ A e C,F = A++e::C→e.2.2.g = n→(∀ a ∈ A,a.2.2.g ≠ n)→HG B (DkR kp m ep v gs ls vs::Γ) (q (A.length:Int))) :
  HG B (DkR kp m ep v gs ls vs::Γ) (xS.call (some ⟨kp,0,none⟩) n q):=by
 refine zYi hgr hgn hgl (fun h=>hno fun e he h2=>h _ (by rw [← hF]; exact List.mem_map_of_mem he) h2) fun A C he hA=>?_
 rw [he] at hF
 obtain ⟨A',T,rfl,h1,h2⟩:=List.map_eq_append_iff.1 hF
 obtain ⟨e,C',rfl,h3,h4⟩:=List.map_eq_cons_iff.1 h2
 have:=hyes A' e C' rfl h3 fun a ha h5=>hA _ (by rw [← h1]; exact List.mem_map_of_mem ha) h5
 rw [← h1,List.length_map]
 exact this
theorem zHI {A C:List GE} {e:GE}:((A++e::C).map fun e:GE=>(some ⟨e.2.1,0,none⟩:Option Addr))[A.length]? = some (some ⟨e.2.1,0,none⟩):=by simp
theorem zOJ {n:Int} {q:Int→K} (hgr:∀ w,Holds B Γ w→RdC w gs 1 (gl.map (Value.int .i64))) (hgn:gs.n = gl.length) (hgl:gl.length ≤ 1000) (hF:F.map (fun e=>e.2.2.g) = gl) (h:HG B (kdS kp m ep v gs ls vs F M Γ) (q (zB4 (F.map fun e=>e.2.2) n))):HG B (kdS kp m ep v gs ls vs F M Γ) (uY.call (some ⟨kp,0,none⟩) n q):=by
 refine fun w hw=>zD6 _ _ _ _ ?_
 refine hg hw ?_
 clear hw w
 unfold uY
 refine zOI (fun w hw=>hgr w hw.tail.tail.tail.tail.tail) hgn hgl hF (fun hn=>?_) fun A e C he hx hA=>?_
 ·refine s_t ?_ (by rfl)
  rw [zDa fun a ha=>by
   obtain ⟨e,he,rfl⟩:=List.mem_map.1 ha
   exact hn e he] at h
  exact h
 ·subst he
  refine s_f ?_ (by simp)
  rw [List.map_append,List.map_cons,zCt hx fun a ha=>by
   obtain ⟨e,he,rfl⟩:=List.mem_map.1 ha
   exact hA e he] at h
  refine zKI ?_
  refine xM ?_
  refine yE (b:=kp) (off:=5) (l:=dkL m ep v gs ls vs) (x:=vs) ?_
  refine jZ (c:=Value.pointer) (L:=(A++e::C).map fun e:GE=>(some ⟨e.2.1,0,none⟩:Option Addr)) (j:=A.length) (x:=some ⟨e.2.1,0,none⟩) (fun w hw=>by rw [List.map_map]; exact (uL (s:=vs) hw).1) zHI ?_
  refine xM ?_
  refine zQr fun h1 h2=>?_
  refine yE (b:=e.2.1) (l:=dvL e.2.2.p e.2.2.V) (x:=e.2.2.p) ?_
  refine zD7 h1 h2 ?_
  exact zDv (y:=e.2.2) h
theorem zTC {s:Sl} {ys:List UInt8} {q:Sl→K} (hr:∀ w,Holds B Γ w→RdB w s ys) (hy:ys.length ≤ 1000000) (h:∀ t,HG B (Bytes zF t (vM ys.length++ys)::Γ) (q t)):HG B Γ (zCW.call s q):=fun w hw=>by
 have hsn:s.n = ys.length:=by have:=(hr w hw).len; simpa using this.symm
 refine zLq _ _ _ ?_
 refine hg hw ?_
 clear hw w
 unfold zCW
 rw [hsn]
 refine vI (xI (by omega) (by omega)) ?_
 refine zFu (by omega) fun t=>?_
 refine vw t fun a1 a2 a3 a4=>?_
 have hl1:=xO 9 ys.length (by omega)
 rw [List.length_map,Nat.mul_one] at a1
 refine zBO (esz:=1) (us:=ys.map qy) (E:=zF) (vs:=(vM ys.length).map qy) (fun w hw=>hr w (hw.drops (Δ:=Γ))) (fun u hu=>?_) (by omega) fun t2 _=>?_
 ·obtain ⟨b,_,rfl⟩:=List.mem_map.1 hu; rfl
 rw [← List.map_append]
 exact h t2
end
end
section
open Go Go.Sep Go.Sep.Bt
section
variable {B:World} {Γ Δ:List zB} {k:K} {kp m ep:Nat} {v:Bool} {D M:zC} {F:List GE} {gs ls vs:Sl} {gl:List Int}
theorem zEC {A C:List GE} {e:GE}:(A++e::C).map (fun e:GE=>e.2.2) = A.map (fun e:GE=>e.2.2)++e.2.2::C.map fun e:GE=>e.2.2:=by simp
theorem zXX {A C:List GE} {e:GE}:(A++e::C)[A.length]? = some e:=by simp
theorem zGL {T U Tr:TypeId} {s x:Sl} {a b:List UInt8} {k:Sl→K} (hr:∀ w,Holds B Γ w→RdB w x b) (hl:a.length + b.length ≤ 1000000) (h:∀ s',HG B (Bytes zF s' (a++b)::Δ) (k s')) [p:zCs s Γ (SlC zF 1 s (a.map qy)) Δ] (hT:zHf Tryz.prog T U zF 1 = true:=by kernel_rfl) :
  HG B Γ (Do Tryz.prog (Builtin.append_ #[T,U] Tr #[s.val,x.val]) Sl.val k):=by
 refine vw s fun a1 _ _ _=>?_
 rw [List.length_map,Nat.mul_one] at a1
 intro w0 hw0
 have hx:b.length = x.n:=by have:=(hr w0 hw0).len; simpa using this
 revert w0
 show HG B Γ _
 refine zBO (esz:=1) (us:=b.map qy) (E:=zF) (vs:=a.map qy) hr (fun u hu=>?_) (by omega) (hT:=hT) fun t2 _=>?_
 ·obtain ⟨b,_,rfl⟩:=List.mem_map.1 hu; rfl
 rw [← List.map_append]
 exact h t2
theorem zVS {t:Nat} {b:UInt8} (h:HG B (Bytes zF ⟨some ⟨t,0,none⟩,1,1⟩ [b]::Γ) k):HG B (blk t (.cells [.int .u8 ((b.toNat:Nat):Int)].toArray zF (0,0))::Γ) k:=fun w hw=>h w (hw.imp (zA0 rfl rfl))
theorem zL3 {n fr:Int} {b:Nat} {q:Sl→Bool→Int→K} (hb:b < 18446744073709551616) (hD:OkD D) (hR:x9 D M) (hgr:∀ w,Holds B Γ w→RdC w gs 1 (gl.map (Value.int .i64))) (hgn:gs.n = gl.length) (hgl:gl.length ≤ 1000) (hF:F.map (fun e=>e.2.2.g) = gl)
  (hok:∀ e ∈ F,OkW e.2.2.W∧OkW (e.2.2.W.app D (zAH b)).2.1∧(e.2.2.W.used = zGZ D (zM e.2.2.W.name e.2.2.W.part)∨D.a.down = true∧e.2.2.W.part ≤ 8))
  (h:∀ s F' M',F'.map (fun e=>e.2.2) = (zBF D (F.map fun e=>e.2.2) v n b fr).G→x9 (zBF D (F.map fun e=>e.2.2) v n b fr).D M'→HG B (SlC z8 3 s ((zBF D (F.map fun e=>e.2.2) v n b fr).votes.flatMap qo)::kdS kp m ep v gs ls vs F' M' Γ) (q s (zBF D (F.map fun e=>e.2.2) v n b fr).ok (zBF D (F.map fun e=>e.2.2) v n b fr).code)) :
  HG B (kdS kp m ep v gs ls vs F M Γ) (yF.call (some ⟨kp,0,none⟩) n (b:Int) fr q):=by
 refine fun w hw=>zEa _ _ _ _ _ _ ?_
 refine hg hw ?_
 clear hw w
 unfold yF
 have hrl:=zIL hb
 have hnl:=xO 9 b (by omega)
 have nil:∀ {t:Nat} {F':List GE} {M':zC} {Ψ:List zB} {Q:K},[dd:Drops Ψ (blk t (.cells (#[]:Array Value) z8 (0,0))::kdS kp m ep v gs ls vs F' M' Γ)]→HG B (SlC z8 3 ⟨some ⟨t,0,none⟩,0,0⟩ (([]:List qU).flatMap qo)::kdS kp m ep v gs ls vs F' M' Γ) Q→HG B Ψ Q:=fun {t F' M' Ψ Q} dd hq=>by
  refine zI (Δ:=blk t (.cells (#[]:Array Value) z8 (0,0))::kdS kp m ep v gs ls vs F' M' Γ) ?_
  exact fun w hw=>hq w (hw.imp (zA0 rfl rfl))
 refine zOI (fun w hw=>hgr w hw.tail.tail.tail.tail.tail) hgn hgl hF (fun hn=>?_) fun A e C he hx hA=>?_
 ·rw [zGK (.inr fun a ha=>by
   obtain ⟨e,he,rfl⟩:=List.mem_map.1 ha
   exact hn e he)] at h
  refine ql fun t=>?_
  refine xM ?_
  refine yE (b:=kp) (off:=2) (l:=dkL m ep v gs ls vs) (x:=v) ?_
  cases v with
  | false=>
   refine s_t ?_ (by rfl)
   unfold yF.s1
   refine s_t ?_ (by rfl)
   exact nil (h _ F M rfl hR)
  | true=>
   refine s_f ?_ (by rfl)
   refine s_t ?_ (by rfl)
   unfold yF.s1
   refine s_t ?_ (by rfl)
   exact nil (h _ F M rfl hR)
 subst he
 refine ql fun t=>?_
 refine xM ?_
 refine yE (b:=kp) (off:=2) (l:=dkL m ep v gs ls vs) (x:=v) ?_
 cases v with
 | false=>
  rw [zGK (.inl rfl)] at h
  refine s_t ?_ (by rfl)
  unfold yF.s1
  refine s_t ?_ (by rfl)
  exact nil (h _ _ M rfl hR)
 | true=>
 have hA':∀ a ∈ A.map (fun e:GE=>e.2.2),a.g ≠ n:=fun a ha=>by
  obtain ⟨e,he,rfl⟩:=List.mem_map.1 ha
  exact hA e he
 rw [zEC,zLc rfl hx hA'] at h
 obtain ⟨ok1,ok2,ok3⟩:=hok e (by simp)
 refine s_f ?_ (by rfl)
 refine s_f ?_ (by simp)
 refine zI (Δ:=kdS kp m ep true gs ls vs (A++e::C) M (blk t (.cells (#[]:Array Value) z8 (0,0))::Γ)) ?_
 refine zKI ?_
 refine yE (b:=kp) (off:=5) (l:=dkL m ep true gs ls vs) (x:=vs) ?_
 refine jZ (c:=Value.pointer) (L:=(A++e::C).map fun e:GE=>(some ⟨e.2.1,0,none⟩:Option Addr)) (j:=A.length) (x:=some ⟨e.2.1,0,none⟩) (fun w hw=>by rw [List.map_map]; exact (uL (s:=vs) hw).1) zHI ?_
 refine xM ?_
 refine zQr fun v1 v2=>?_
 refine yE (b:=e.2.1) (l:=dvL e.2.2.p e.2.2.V) (x:=e.2.2.p) ?_
 refine zD7 v1 v2 ?_
 unfold yF.s1
 refine yA (fun h1=>?_) fun h1=>?_
 ·have h1':(b:Int) < e.2.2.p:=by simpa using h1
  rw [if_pos h1'] at h
  refine zDv (y:=e.2.2) ?_
  exact nil (h _ (A++e::C) M zEC hR)
 have h1':¬ (b:Int) < e.2.2.p:=by simpa using h1
 rw [if_neg h1'] at h
 refine xM ?_
 refine yE (b:=kp) (off:=5) (l:=dkL m ep true gs ls vs) (x:=vs) ?_
 refine jZ (c:=Value.pointer) (L:=(A++e::C).map fun e:GE=>(some ⟨e.2.1,0,none⟩:Option Addr)) (j:=A.length) (x:=some ⟨e.2.1,0,none⟩) (fun w hw=>by rw [List.map_map]; exact (uL (s:=vs) hw).1) zHI ?_
 refine xM ?_
 refine zQr fun v1 v2=>?_
 refine yE (b:=e.2.1) (l:=dvL e.2.2.p e.2.2.V) (x:=e.2.2.p) ?_
 refine zD7 v1 v2 ?_
 refine yA (fun h2=>?_) fun h2=>?_
 ·have h2':e.2.2.p < (b:Int):=by simpa using h2
  rw [if_neg (by omega)] at h
  refine ql fun t58=>?_
  refine zFu hb fun t60=>?_
  refine vH t58 ?_
  refine zVS (b:=1) ?_
  refine zGL (s:=⟨some ⟨t58,0,none⟩,1,1⟩) (a:=[1]) (b:=vM b) (fun w hw=>Bytes.rd hw (List.mem_cons_of_mem _ List.mem_cons_self)) (by simp; omega) fun t61=>?_
  show HG B (Bytes zF t61 (zAH b)::_) _
  refine zI (Δ:=DkR kp m ep true gs ls vs::SlC zZ 1 ls ((A++e::C).map fun e:GE=>jr e.1)::LgR e.1 m e.2.2.W::zk m M::Bytes zF t61 (zAH b)::xA e.2.1 e.2.2.p e.2.2.V::SlC zy 1 vs ((A++e::C).map fun e:GE=>jr e.2.1)::Sep.stars ((A++C).map fun e:GE=>LgR e.1 m e.2.2.W)::Sep.stars ((A++C).map fun e:GE=>xA e.2.1 e.2.2.p e.2.2.V)::blk t (.cells (#[]:Array Value) z8 (0,0))::Γ) ?_
  refine zP8 hD hR ok1 ok2 (by omega) ok3 zXX rfl (fun w hw=>Bytes.rd hw List.mem_cons_self) fun M' hM'=>?_
  generalize qN e.2.2.W D (zAH b) = N at *
  refine yA (fun h3=>?_) fun h3=>?_
  ·rw [if_pos (by simpa using h3)] at h
   refine zI (Δ:=xA e.2.1 e.2.2.p e.2.2.V::LgR e.1 m N.2.1::DkR kp m ep true gs ls vs::SlC zZ 1 ls ((A++e::C).map fun e:GE=>jr e.1)::SlC zy 1 vs ((A++e::C).map fun e:GE=>jr e.2.1)::Sep.stars ((A++C).map fun e:GE=>LgR e.1 m e.2.2.W)::Sep.stars ((A++C).map fun e:GE=>xA e.2.1 e.2.2.p e.2.2.V)::zk m M'::blk t (.cells (#[]:Array Value) z8 (0,0))::Γ) ?_
   refine zDv (e:=e) (y:={ e.2.2 with W:=N.2.1 }) ?_
   exact nil (h _ (A++(e.1,e.2.1,{ e.2.2 with W:=N.2.1 })::C) M' zEC hM')
  rw [if_neg (by simpa using h3)] at h
  unfold yF.s2
  refine xM ?_
  refine yE (b:=kp) (off:=5) (l:=dkL m ep true gs ls vs) (x:=vs) ?_
  refine jZ (c:=Value.pointer) (L:=(A++e::C).map fun e:GE=>(some ⟨e.2.1,0,none⟩:Option Addr)) (j:=A.length) (x:=some ⟨e.2.1,0,none⟩) (fun w hw=>by rw [List.map_map]; exact (uL (s:=vs) hw).1) zHI ?_
  refine vH e.2.1 ?_
  refine zFs (fun h4=>by omega) fun _ s=>?_
  refine zI (Δ:=xA e.2.1 (b:Int) e.2.2.V::LgR e.1 m N.2.1::DkR kp m ep true gs ls vs::SlC zZ 1 ls ((A++e::C).map fun e:GE=>jr e.1)::SlC zy 1 vs ((A++e::C).map fun e:GE=>jr e.2.1)::Sep.stars ((A++C).map fun e:GE=>LgR e.1 m e.2.2.W)::Sep.stars ((A++C).map fun e:GE=>xA e.2.1 e.2.2.p e.2.2.V)::zk m M'::SlC z8 3 s ((jv fr e.2.2.V).flatMap qo)::Γ) ?_
  refine zDv (e:=e) (y:={ e.2.2 with W:=N.2.1,p:=(b:Int) }) ?_
  exact zI (h s (A++(e.1,e.2.1,{ e.2.2 with W:=N.2.1,p:=(b:Int) })::C) M' zEC hM')
 ·have h2':e.2.2.p = (b:Int):=by simp only [decide_eq_false_iff_not] at h2; omega
  rw [if_pos h2'] at h
  unfold yF.s2
  refine xM ?_
  refine yE (b:=kp) (off:=5) (l:=dkL m ep true gs ls vs) (x:=vs) ?_
  refine jZ (c:=Value.pointer) (L:=(A++e::C).map fun e:GE=>(some ⟨e.2.1,0,none⟩:Option Addr)) (j:=A.length) (x:=some ⟨e.2.1,0,none⟩) (fun w hw=>by rw [List.map_map]; exact (uL (s:=vs) hw).1) zHI ?_
  refine vH e.2.1 ?_
  refine zFs (fun h4=>by omega) fun _ s=>?_
  rw [← h2']
  refine zI (Δ:=xA e.2.1 e.2.2.p e.2.2.V::LgR e.1 m e.2.2.W::DkR kp m ep true gs ls vs::SlC zZ 1 ls ((A++e::C).map fun e:GE=>jr e.1)::SlC zy 1 vs ((A++e::C).map fun e:GE=>jr e.2.1)::Sep.stars ((A++C).map fun e:GE=>LgR e.1 m e.2.2.W)::Sep.stars ((A++C).map fun e:GE=>xA e.2.1 e.2.2.p e.2.2.V)::zk m M::SlC z8 3 s ((jv fr e.2.2.V).flatMap qo)::Γ) ?_
  refine zDv (e:=e) (y:=e.2.2) ?_
  exact zI (h s (A++e::C) M zEC hR)
end
end
section
open Go Go.Sep Go.Sep.Bt
section
variable {B:World} {Γ Δ:List zB} {k:K} {kp m ep:Nat} {v:Bool} {D M:zC} {F:List GE} {gs ls vs:Sl} {gl:List Int}
theorem zOK {n sl:Int} {b:Nat} {xv:List UInt8} {q:Bool→Int→K} (hb:b < 18446744073709551616) (hD:OkD D) (hR:x9 D M) (hgr:∀ w,Holds B Γ w→RdC w gs 1 (gl.map (Value.int .i64))) (hgn:gs.n = gl.length) (hgl:gl.length ≤ 1000) (hF:F.map (fun e=>e.2.2.g) = gl)
  (hok:∀ e ∈ F,OkW e.2.2.W∧(∀ i:Nat,i < 64→xv.length ≤ 4000→OkW (e.2.2.W.app D (uo i b xv)).2.1)∧(e.2.2.W.used = zGZ D (zM e.2.2.W.name e.2.2.W.part)∨D.a.down = true∧e.2.2.W.part ≤ 8))
  (h:∀ F' M',F'.map (fun e=>e.2.2) = (zEd D (F.map fun e=>e.2.2) v n sl b xv).G→x9 (zEd D (F.map fun e=>e.2.2) v n sl b xv).D M'→HG B (kdS kp m ep v gs ls vs F' M' Γ) (q (zEd D (F.map fun e=>e.2.2) v n sl b xv).ok (zEd D (F.map fun e=>e.2.2) v n sl b xv).code)) :
  HG B (kdS kp m ep v gs ls vs F M Γ) (yN.call (some ⟨kp,0,none⟩) n (qo (sl,(b:Int),xv)).toArray q):=by
 refine fun w hw=>zEt _ _ _ _ _ ?_
 refine hg hw ?_
 clear hw w
 unfold yN
 refine ql fun v5=>?_
 have hsz:((bs xv).size:Int) = xv.length:=by simp [bs,ByteArray.size]
 refine zI (Δ:=DkR kp m ep v gs ls vs::dkE m ls vs F (zk m M::blk v5 (.cells (qo (sl,(b:Int),xv)).toArray z8 (0,0))::Γ)) ?_
 refine zOI (fun w hw=>hgr w hw.tail.tail.tail.tail.tail.tail) hgn hgl hF (fun hn=>?_) fun A e C he hx hA=>?_
 ·rw [zEe (.inr (.inl fun a ha=>by
   obtain ⟨e,he,rfl⟩:=List.mem_map.1 ha
   exact hn e he))] at h
  refine zAQ ?_
  refine xM ?_
  refine yE (b:=kp) (off:=2) (l:=dkL m ep v gs ls vs) (x:=v) ?_
  cases v with
  | false=>
   refine s_t ?_ (by rfl)
   unfold yN.s1
   refine s_t ?_ (by rfl)
   exact zI (h F M rfl hR)
  | true=>
   refine s_f ?_ (by rfl)
   refine s_t ?_ (by rfl)
   unfold yN.s1
   refine s_t ?_ (by rfl)
   exact zI (h F M rfl hR)
 subst he
 refine zAQ ?_
 refine xM ?_
 refine yE (b:=kp) (off:=2) (l:=dkL m ep v gs ls vs) (x:=v) ?_
 cases v with
 | false=>
  rw [zEe (.inl rfl)] at h
  refine s_t ?_ (by rfl)
  unfold yN.s1
  refine s_t ?_ (by rfl)
  exact zI (h _ M rfl hR)
 | true=>
 have hA':∀ a ∈ A.map (fun e:GE=>e.2.2),a.g ≠ n:=fun a ha=>by
  obtain ⟨e,he,rfl⟩:=List.mem_map.1 ha
  exact hA e he
 obtain ⟨ok1,ok2,ok3⟩:=hok e (by simp)
 refine s_f ?_ (by rfl)
 refine s_f ?_ (by simp)
 refine yE (b:=v5) (off:=1) (l:=qo (sl,(b:Int),xv)) (x:=(b:Int)) ?_
 refine zI (Δ:=kdS kp m ep true gs ls vs (A++e::C) M (blk v5 (.cells (qo (sl,(b:Int),xv)).toArray z8 (0,0))::Γ)) ?_
 have nope:∀ {Ψ:List zB},[Drops Ψ (kdS kp m ep true gs ls vs (A++e::C) M Γ)]→((b:Int) < e.2.2.p∨sl < 0∨64 ≤ sl)→HG B Ψ (yN.s1 q (some ⟨kp,0,none⟩) ⟨v5,0,none⟩ (A.length:Int) true):=fun {Ψ} _ hc=>by
  rw [zEe (.inr (.inr ⟨A.map (fun e:GE=>e.2.2),e.2.2,C.map (fun e:GE=>e.2.2),zEC,hx,hA',hc⟩))] at h
  unfold yN.s1
  refine s_t ?_ (by rfl)
  exact zI (h _ M rfl hR)
 refine zKI ?_
 refine yE (b:=kp) (off:=5) (l:=dkL m ep true gs ls vs) (x:=vs) ?_
 refine jZ (c:=Value.pointer) (L:=(A++e::C).map fun e:GE=>(some ⟨e.2.1,0,none⟩:Option Addr)) (j:=A.length) (x:=some ⟨e.2.1,0,none⟩) (fun w hw=>by rw [List.map_map]; exact (uL (s:=vs) hw).1) zHI ?_
 refine xM ?_
 refine zQr fun v1 v2=>?_
 refine yE (b:=e.2.1) (l:=dvL e.2.2.p e.2.2.V) (x:=e.2.2.p) ?_
 refine zD7 v1 v2 ?_
 refine zDv (y:=e.2.2) ?_
 refine yA (fun h1=>nope (.inl (by simpa using h1))) fun h1=>?_
 refine yE (b:=v5) (l:=qo (sl,(b:Int),xv)) (x:=sl) ?_
 refine yA (fun h2=>nope (.inr (.inl (by simpa using h2)))) fun h2=>?_
 refine yE (b:=v5) (l:=qo (sl,(b:Int),xv)) (x:=sl) ?_
 by_cases h3:63 < sl
 ·rw [decide_eq_true h3]
  exact nope (.inr (.inr (by omega)))
 rw [decide_eq_false h3]
 simp only [decide_eq_false_iff_not] at h1 h2
 rw [zEC,zOG rfl hx hA' (by omega)] at h
 obtain ⟨i,rfl⟩:∃ i:Nat,sl = (i:Int):=⟨sl.toNat,by omega⟩
 rw [Int.toNat_natCast] at h
 have hi:i < 64:=by omega
 unfold yN.s1
 refine s_f ?_ (by rfl)
 refine yE (b:=v5) (off:=2) (l:=qo ((i:Int),(b:Int),xv)) (x:=bs xv) ?_
 refine yA (fun h4=>?_) fun h4=>?_
 ·rw [if_pos (by simp only [decide_eq_true_eq] at h4; omega)] at h
  exact zI (h (A++e::C) M zEC hR)
 have hx4:xv.length ≤ 4000:=by simp only [decide_eq_false_iff_not] at h4; omega
 rw [if_neg (by omega)] at h
 have hrl:=zGJ hi hb hx4
 have hn1:=xO 9 i (by omega)
 have hn2:=xO 9 b (by omega)
 have hn3:=xO 9 xv.length (by omega)
 refine ql fun t52=>?_
 refine yE (b:=v5) (l:=qo ((i:Int),(b:Int),xv)) (x:=(i:Int)) ?_
 refine vI (xI (by omega) (by omega)) ?_
 refine zFu (by omega) fun t56=>?_
 refine vH t52 ?_
 refine zVS (b:=2) ?_
 refine zGL (s:=⟨some ⟨t52,0,none⟩,1,1⟩) (a:=[2]) (b:=vM i) (fun w hw=>Bytes.rd hw (List.mem_cons_of_mem _ List.mem_cons_self)) (by simp; omega) fun t57=>?_
 refine yE (b:=v5) (off:=1) (l:=qo ((i:Int),(b:Int),xv)) (x:=(b:Int)) ?_
 refine zFu hb fun t61=>?_
 refine zGt t57 ?_
 refine zGL (s:=t57) (a:=[2]++vM i) (b:=vM b) (fun w hw=>Bytes.rd hw (List.mem_cons_of_mem _ List.mem_cons_self)) (by simp; omega) fun t62=>?_
 refine yE (b:=v5) (off:=2) (l:=qo ((i:Int),(b:Int),xv)) (x:=bs xv) ?_
 refine zE0 (E:=zF) (xs:=xv) fun t68 ht68=>?_
 refine zTC (ys:=xv) (fun w hw=>Bytes.rd hw List.mem_cons_self) (by omega) fun t69=>?_
 refine zGt t62 ?_
 refine zGL (s:=t62) (a:=[2]++vM i++vM b) (b:=vM xv.length++xv) (fun w hw=>Bytes.rd hw (List.mem_cons_of_mem _ List.mem_cons_self)) (by simp; omega) fun t70=>?_
 rw [show [2]++vM i++vM b++(vM xv.length++xv) = uo i b xv by unfold uo; simp]
 refine zI (Δ:=kdS kp m ep true gs ls vs (A++e::C) M (blk v5 (.cells (qo ((i:Int),(b:Int),xv)).toArray z8 (0,0))::Bytes zF t70 (uo i b xv)::Γ)) ?_
 refine zKI ?_
 refine zI (Δ:=DkR kp m ep true gs ls vs::SlC zZ 1 ls ((A++e::C).map fun e:GE=>jr e.1)::LgR e.1 m e.2.2.W::zk m M::Bytes zF t70 (uo i b xv)::xA e.2.1 e.2.2.p e.2.2.V::SlC zy 1 vs ((A++e::C).map fun e:GE=>jr e.2.1)::Sep.stars ((A++C).map fun e:GE=>LgR e.1 m e.2.2.W)::Sep.stars ((A++C).map fun e:GE=>xA e.2.1 e.2.2.p e.2.2.V)::blk v5 (.cells (qo ((i:Int),(b:Int),xv)).toArray z8 (0,0))::Γ) ?_
 refine zP8 hD hR ok1 (ok2 i hi hx4) (by omega) ok3 zXX rfl (fun w hw=>Bytes.rd hw List.mem_cons_self) fun M' hM'=>?_
 generalize qN e.2.2.W D (uo i b xv) = N at *
 refine yA (fun h3=>?_) fun h3=>?_
 ·rw [if_pos (by simpa using h3)] at h
  refine zI (Δ:=xA e.2.1 e.2.2.p e.2.2.V::LgR e.1 m N.2.1::DkR kp m ep true gs ls vs::SlC zZ 1 ls ((A++e::C).map fun e:GE=>jr e.1)::SlC zy 1 vs ((A++e::C).map fun e:GE=>jr e.2.1)::Sep.stars ((A++C).map fun e:GE=>LgR e.1 m e.2.2.W)::Sep.stars ((A++C).map fun e:GE=>xA e.2.1 e.2.2.p e.2.2.V)::zk m M'::Γ) ?_
  refine zDv (e:=e) (y:={ e.2.2 with W:=N.2.1 }) ?_
  exact h (A++(e.1,e.2.1,{ e.2.2 with W:=N.2.1 })::C) M' zEC hM'
 rw [if_neg (by simpa using h3)] at h
 refine zAQ ?_
 refine xM ?_
 refine yE (b:=kp) (off:=5) (l:=dkL m ep true gs ls vs) (x:=vs) ?_
 refine jZ (c:=Value.pointer) (L:=(A++e::C).map fun e:GE=>(some ⟨e.2.1,0,none⟩:Option Addr)) (j:=A.length) (x:=some ⟨e.2.1,0,none⟩) (fun w hw=>by rw [List.map_map]; exact (uL (s:=vs) hw).1) zHI ?_
 refine zDH (b:=v5) (off:=0) (l:=qo ((i:Int),(b:Int),xv)) (l':=qo ((i:Int),(b:Int),xv)) ?_ rfl rfl
 refine vH e.2.1 ?_
 refine zK9 (v:=((i:Int),(b:Int),xv)) (fun h6=>?_) fun _ _ _=>?_
 ·exfalso
  have h7:(b:Int) < e.2.2.p∨(i:Int) < 0∨64 ≤ (i:Int):=h6
  omega
 refine zI (Δ:=xA e.2.1 (b:Int) (zBE ((i:Int),(b:Int),xv) e.2.2.V)::LgR e.1 m N.2.1::DkR kp m ep true gs ls vs::SlC zZ 1 ls ((A++e::C).map fun e:GE=>jr e.1)::SlC zy 1 vs ((A++e::C).map fun e:GE=>jr e.2.1)::Sep.stars ((A++C).map fun e:GE=>LgR e.1 m e.2.2.W)::Sep.stars ((A++C).map fun e:GE=>xA e.2.1 e.2.2.p e.2.2.V)::zk m M'::Γ) ?_
 refine zDv (e:=e) (y:={ e.2.2 with W:=N.2.1,p:=(b:Int),V:=zBE ((i:Int),(b:Int),xv) e.2.2.V }) ?_
 exact h (A++(e.1,e.2.1,{ e.2.2 with W:=N.2.1,p:=(b:Int),V:=zBE ((i:Int),(b:Int),xv) e.2.2.V })::C) M' zEC hM'
end
end
section
open Go Go.Sep Go.Sep.Bt
structure zZ1 where
 kind:Int
 group:Int
 slot:Int
 n:Int
 ballot:Nat
 value:List UInt8
 keeps:List Int
abbrev zIO:=zZ1×Sl
abbrev qc (x:zIO):List Value:=[.int .i64 x.1.kind,.int .i64 x.1.group,.int .i64 x.1.slot,.int .i64 x.1.n,.int .u64 (x.1.ballot:Int),zAR x.1.value,x.2.val]
theorem zGM (x:zIO):(qc x).length = 7:=rfl
structure zOL (B:World) (x:zIO):Prop where
 keeps:RdC B x.2 1 (x.1.keeps.map (Value.int .i64))
 n0:-9223372036854775808 ≤ x.1.n
 n:x.1.n ≤ 9223372036854775807
 ballot:x.1.ballot < 18446744073709551616
structure zOM (x:zIO):Prop where
 value:x.1.value.length ≤ 5000
 keeps:x.1.keeps.length ≤ 50
section
variable {B:World} {Γ Δ:List zB}
theorem zIP {α β:Type} (f:α→List Value) {esz off:Nat} {L:List α} {s:Sl} {j:Nat} {jj:Int} {x:α} {c:β→Value} {v:β} {k:β→K} (hf:∀ x,(f x).length = esz) (hr:∀ w,Holds B Γ w→RdC w s esz (L.flatMap f)) (hx:L[j]? = some x) (hv:(f x)[off]? = some (c v)) (h:HG B Γ (k v)) (hj:jj = (j:Int):=by first | rfl | omega) :
  HG B Γ (Idx s jj esz fun t=>Ld (t.add off) c k):=fun w hw=>by
 subst hj
 have hrw:=hr w hw
 have hj:j < L.length:=(List.getElem?_eq_some_iff.1 hx).1
 have ho:off < esz:=by rw [← hf x]; exact (List.getElem?_eq_some_iff.1 hv).1
 have hn:L.length = s.n:=by
  have:=hrw.len; rw [yu f esz hf] at this
  exact Nat.eq_of_mul_eq_mul_right (by omega) this
 cases ha:s.a with
 | none=>have:=hrw.nil ha; omega
 | some a=>
  refine ⟨a,_,ha,by omega,by omega,rfl,v,?_,h w hw⟩
  simp only [Int.toNat_natCast]
  have h2:=zNZ f esz hf hrw ha hx off (by simpa [hf] using ho)
  rw [h2]
  simpa using hv
theorem zSH {α β:Type} (f:α→List Value) {esz:Nat} {L:List α} {s:Sl} {j:Nat} {jj:Int} {x:α} {c:β→Value} {v:β} {k:β→K} (hf:∀ x,(f x).length = esz) (hr:∀ w,Holds B Γ w→RdC w s esz (L.flatMap f)) (hx:L[j]? = some x) (hv:(f x)[0]? = some (c v)) (h:HG B Γ (k v)) (hj:jj = (j:Int):=by first | rfl | omega) :
  HG B Γ (Idx s jj esz fun t=>Ld t c k):=fun w hw=>by
 obtain ⟨a,t,h1,h2,h3,h4,h5⟩:=zIP f (off:=0) hf hr hx hv h hj w hw
 rw [add0] at h5
 exact ⟨a,t,h1,h2,h3,h4,h5⟩
theorem zQ9 {s:Sl} {L:List zIO} {q:Bool→K} (hs:∀ w,Holds B Γ w→RdC w s 7 (L.flatMap qc)) (hsn:s.n = L.length) (hL:∀ x ∈ L,x.2.n = x.1.keeps.length) (h1:HG B Γ (q true)) (h2:L.length ≤ 60→(∀ x ∈ L,zOM x)→HG B Γ (q false)):HG B Γ (vv.call s q):=fun w hw=>by
 refine zLW _ _ _ ?_
 refine hg hw ?_
 clear hw w
 unfold vv
 refine yA (fun _=>h1) fun hb0=>?_
 simp only [decide_eq_false_iff_not] at hb0
 refine jm (α:=Int) (ι:=Nat) (fun y i=>y = (i:Int)∧i ≤ L.length∧∀ x ∈ L.take i,zOM x) (fun y i=>Γ) (fun y i=>L.length - i) 0 ⟨rfl,Nat.zero_le _,by simp⟩ ?_
 rintro k' _ j ⟨rfl,hj,hfit⟩ hk'
 unfold vv.b1
 refine yA (fun hb=>?_) fun hb=>?_
 ·have hjl:j < L.length:=by simp only [decide_eq_true_eq] at hb; omega
  have hx:L[j]? = some L[j]:=List.getElem?_eq_getElem hjl
  have htk:L.take (j + 1) = L.take j++[L[j]]:=List.take_succ_eq_append_getElem hjl
  have hxl:=hL L[j] (List.getElem_mem hjl)
  generalize L[j] = x at hx htk hxl
  refine zUR qc zGM hs hx ?_
  refine ql fun o4=>?_
  refine zDI (b:=o4) (l':=qc x) ?_
  refine yE (b:=o4) (off:=5) (l:=qc x) (x:=bs x.1.value) ?_
  unfold vv.s2
  have hsz:((bs x.1.value).size:Int) = x.1.value.length:=by simp [bs,ByteArray.size]
  refine yA (fun h3=>s_t (zI h1) (by rfl)) fun h3=>?_
  refine yE (b:=o4) (off:=6) (l:=qc x) (x:=x.2) ?_
  refine yA (fun h4=>zI h1) fun h4=>?_
  simp only [decide_eq_false_iff_not] at h3 h4
  refine zAn ?_
  refine zI (hk' _ (j + 1) ⟨by simp,by omega,fun y hy=>?_⟩ (by omega))
  rw [htk] at hy
  rcases List.mem_append.1 hy with hy | hy
  ·exact hfit y hy
  ·simp only [List.mem_singleton] at hy
   subst hy
   exact ⟨by omega,by omega⟩
 ·have:L.take j = L:=List.take_of_length_le (by simp only [decide_eq_false_iff_not] at hb; omega)
  rw [this] at hfit
  exact h2 (by omega) hfit
theorem zTD {a b:Sl} {V:List qU} {q:Bool→K} (hV:V.length ≤ 1000000) (h:HG B Γ (q true)):HG B (SlC z8 3 b (V.flatMap qo)::SlC yB 3 a (V.flatMap qo)::Γ) (uQ.call a b q):=by
 refine fun w hw=>zL2 _ _ _ _ ?_
 refine hg hw ?_
 clear hw w
 refine vw b fun b1 _ _ _=>?_
 refine vw a fun a1 _ _ _=>?_
 rw [yu _ 3 zCF] at a1 b1
 unfold uQ
 refine s_f ?_ (by simp; omega)
 refine jm (α:=Int) (ι:=Nat) (fun y i=>y = (i:Int)∧i ≤ V.length) (fun y i=>SlC z8 3 b (V.flatMap qo)::SlC yB 3 a (V.flatMap qo)::Γ) (fun y i=>V.length - i) 0 ⟨rfl,Nat.zero_le _⟩ ?_
 rintro k' _ j ⟨rfl,hj⟩ hk'
 unfold uQ.b1
 refine yA (fun hb=>?_) fun hb=>zI h
 have hjl:j < V.length:=by simp only [decide_eq_true_eq] at hb; omega
 have hx:V[j]? = some V[j]:=List.getElem?_eq_getElem hjl
 generalize V[j] = x at hx
 refine zAQ ?_
 refine zSH qo zCF (fun w hw=>(uL (s:=a) hw).1) hx (v:=x.1) rfl ?_
 refine zSH qo zCF (fun w hw=>(uL (s:=b) hw).1) hx (v:=x.1) rfl ?_
 refine s_f ?_ (by simp)
 refine zIP qo zCF (fun w hw=>(uL (s:=a) hw).1) hx (off:=1) (v:=x.2.1) rfl ?_
 refine zIP qo zCF (fun w hw=>(uL (s:=b) hw).1) hx (off:=1) (v:=x.2.1) rfl ?_
 refine s_f ?_ (by simp)
 refine zIP qo zCF (fun w hw=>(uL (s:=a) hw).1) hx (off:=2) (v:=bs x.2.2) rfl ?_
 refine zIP qo zCF (fun w hw=>(uL (s:=b) hw).1) hx (off:=2) (v:=bs x.2.2) rfl ?_
 unfold uQ.s2
 refine s_f ?_ (by simp)
 refine zAn ?_
 exact hk' _ (j + 1) ⟨by simp,by omega⟩ (by omega)
end
section
variable {B w:World} {Γ:List zB} {m d:Nat} {M D:zC}
theorem zON {k:Bool→K} (hD:OkD D) (hR:x9 D M) (h:Holds B (zJ d D::zk m M::Γ) w) (hk:∀ w,Holds B (zJ d D::zk m M::Γ) w→k true w):xU.call (some ⟨d,0,none⟩) (some ⟨m,0,none⟩) k w:=by
 have hM:=hR.ok hD
 refine zLX _ _ _ _ ?_
 unfold xU
 refine zKz hD h fun t13 w h=>?_
 have htn:D.names.length = t13.n:=by have:=h.zAm.1; simpa using this
 replace h:=P1 h
 replace h:=P1 h
 replace h:=P2 h
 try simp only [N1,N2,N3,N4,N5,N6,N7] at h
 obtain ⟨s,fs,L,hp,hc,h⟩:=zk.opens h
 have hfl:fs.length = M.files.length:=by rw [← hp]; simp
 have hn:=zPe h
 have hpl:=hR.perm.length_eq
 have hnl:=zIt D
 have hfew:=hM.few
 have hu:=hM.used
 have hro:=hM.roomN
 refine zAZ rfl ?_
 try simp only [zR,Nat.zero_add,Nat.reduceAdd]
 refine xQ (x:=s) h rfl (by first | with_reducible exact M0 | with_reducible exact M1 | with_reducible exact M2 | with_reducible exact M3 | with_reducible exact M4 | with_reducible exact M5 | with_reducible exact M6 | with_reducible exact M7 | with_reducible exact M8 | with_reducible exact M9 | with_reducible exact M10 | with_reducible exact M11 | with_reducible exact M12) ?_ ?_
 ·exact rfl
 refine yH (by simp only [decide_eq_false_iff_not,Decidable.not_not]; omega) ?_
 try simp only [zR,Nat.zero_add,Nat.reduceAdd]
 refine xQ (x:=s) h rfl (by first | with_reducible exact M0 | with_reducible exact M1 | with_reducible exact M2 | with_reducible exact M3 | with_reducible exact M4 | with_reducible exact M5 | with_reducible exact M6 | with_reducible exact M7 | with_reducible exact M8 | with_reducible exact M9 | with_reducible exact M10 | with_reducible exact M11 | with_reducible exact M12) ?_ ?_
 ·exact rfl
 replace h:=P3 h
 replace h:=P4 h
 replace h:=P4 h
 replace h:=P4 h
 replace h:=P4 h
 try simp only [N1,N2,N3,N4,N5,N6,N7] at h
 refine yM.of (fun t w=>∃ j:Nat,t = (j:Int)∧j ≤ fs.length∧Holds B (blk m (.cells (mA M.a s) zK (0,0))::SlC zD 3 s (List.flatMap rfF fs)::stars (List.map vX L)::(zJ d D::SlS t13 D.names::Γ)) w) (fun t _=>((s.n:Int) - t).toNat) ⟨0,rfl,by omega,h⟩ ?_
 clear h
 rintro t w ⟨j,rfl,hj,h⟩
 unfold xU.b1
 refine yJ (fun hb=>?_) (fun hb=>?_)
 ·simp only [decide_eq_true_eq] at hb
  have hjl:j < fs.length:=by omega
  have hx:fs[j]? = some fs[j]:=List.getElem?_eq_getElem hjl
  generalize fs[j] = x at hx
  have hnx:D.names[j]? = some x.1:=by
   rw [zI2 hR,← hp,List.getElem?_map,List.getElem?_map,hx]; rfl
  refine zBv (h.rdC (by first | with_reducible exact M0 | with_reducible exact M1 | with_reducible exact M2 | with_reducible exact M3 | with_reducible exact M4 | with_reducible exact M5 | with_reducible exact M6 | with_reducible exact M7 | with_reducible exact M8 | with_reducible exact M9 | with_reducible exact M10 | with_reducible exact M11 | with_reducible exact M12)) hx fun t h0 h1 h2 h3=>?_
  refine zCe (cs:=rfA x) rfl h3 ?_
  refine xE h ?_
  clear h
  intro f7 w h
  try simp only [zR,Nat.zero_add,Nat.reduceAdd]
  first | refine T0 h rfl ?_ ?_ ?_ ?_ | refine T1 h rfl ?_ ?_ ?_ ?_ | refine T2 h rfl ?_ ?_ ?_ ?_ | refine T3 h rfl ?_ ?_ ?_ ?_ | refine T4 h rfl ?_ ?_ ?_ ?_ | refine T5 h rfl ?_ ?_ ?_ ?_ | refine T6 h rfl ?_ ?_ ?_ ?_ | refine T7 h rfl ?_ ?_ ?_ ?_ | refine T8 h rfl ?_ ?_ ?_ ?_
  ·rfl
  ·rfl
  ·simp [qC]
  clear h
  intro w h
  try simp only [N1,N2,N3,N4,N5,N6,N7] at h
  refine xQ (x:=(bs x.1)) h rfl (by first | with_reducible exact M0 | with_reducible exact M1 | with_reducible exact M2 | with_reducible exact M3 | with_reducible exact M4 | with_reducible exact M5 | with_reducible exact M6 | with_reducible exact M7 | with_reducible exact M8 | with_reducible exact M9 | with_reducible exact M10 | with_reducible exact M11 | with_reducible exact M12) ?_ ?_
  ·exact rfl
  replace h:=P5 h
  replace h:=P4 h
  replace h:=P4 h
  replace h:=P4 h
  replace h:=P4 h
  replace h:=P5 h
  try simp only [N1,N2,N3,N4,N5,N6,N7] at h
  refine zIq (n:=x.1) hD h fun b w h=>?_
  refine xQ (x:=(bs x.1)) h rfl (by first | with_reducible exact M0 | with_reducible exact M1 | with_reducible exact M2 | with_reducible exact M3 | with_reducible exact M4 | with_reducible exact M5 | with_reducible exact M6 | with_reducible exact M7 | with_reducible exact M8 | with_reducible exact M9 | with_reducible exact M10 | with_reducible exact M11 | with_reducible exact M12) ?_ ?_
  ·exact rfl
  replace h:=P6 h
  replace h:=P3 h
  replace h:=P3 h
  replace h:=P3 h
  replace h:=P6 h
  replace h:=P6 h
  replace h:=P6 h
  try simp only [N1,N2,N3,N4,N5,N6,N7] at h
  have hML:(⟨M.a,xH fs⟩:zC) = M:=by rw [hp]
  refine zEA (n:=x.1) (by omega) (by rw [hp]; omega) hc h fun c w h=>?_
  rw [hML,zIE hR hD] at h ⊢
  refine zB8 h ?_
  clear h
  intro w h
  have hrn:=h.rdC (E:=jN) (esz:=1) (s:=t13) (vs:=D.names.map zAR) (by first | with_reducible exact M0 | with_reducible exact M1 | with_reducible exact M2 | with_reducible exact M3 | with_reducible exact M4 | with_reducible exact M5 | with_reducible exact M6 | with_reducible exact M7 | with_reducible exact M8 | with_reducible exact M9 | with_reducible exact M10 | with_reducible exact M11 | with_reducible exact M12)
  refine zYX hrn hnx ?_
  refine xQ (x:=(bs x.1)) h rfl (by first | with_reducible exact M0 | with_reducible exact M1 | with_reducible exact M2 | with_reducible exact M3 | with_reducible exact M4 | with_reducible exact M5 | with_reducible exact M6 | with_reducible exact M7 | with_reducible exact M8 | with_reducible exact M9 | with_reducible exact M10 | with_reducible exact M11 | with_reducible exact M12) ?_ ?_
  ·exact rfl
  rw [uT]
  refine yH (by simp) ?_
  refine yH (by simp) ?_
  refine zML (by kernel_rfl) (Bytes.rd (s:=b) (xs:=(D.read x.1).1) h (by first | with_reducible exact M0 | with_reducible exact M1 | with_reducible exact M2 | with_reducible exact M3 | with_reducible exact M4 | with_reducible exact M5 | with_reducible exact M6 | with_reducible exact M7 | with_reducible exact M8 | with_reducible exact M9 | with_reducible exact M10 | with_reducible exact M11 | with_reducible exact M12)) ?_
  refine zML (by kernel_rfl) (Bytes.rd (s:=c) (xs:=(D.read x.1).1) h (by first | with_reducible exact M0 | with_reducible exact M1 | with_reducible exact M2 | with_reducible exact M3 | with_reducible exact M4 | with_reducible exact M5 | with_reducible exact M6 | with_reducible exact M7 | with_reducible exact M8 | with_reducible exact M9 | with_reducible exact M10 | with_reducible exact M11 | with_reducible exact M12)) ?_
  simp only [uT]
  unfold xU.s2
  refine yH (by simp) ?_
  replace h:=P7 h
  replace h:=P6 h
  replace h:=P5 h
  replace h:=P5 h
  replace h:=P5 h
  replace h:=D5 h
  replace h:=D5 h
  replace h:=D5 h
  try simp only [N1,N2,N3,N4,N5,N6,N7] at h
  refine xq (by omega) (by omega) ?_
  refine ⟨⟨j + 1,by omega,by omega,?_⟩,by omega⟩
  exact h
 ·replace h:=zk.shuts (M:=M) rfl hp hc h
  replace h:=P1 h
  replace h:=D2 h
  try simp only [N1,N2,N3,N4,N5,N6,N7] at h
  exact hk _ h
end
theorem zLd {B:World} {Γ:List zB} {m d:Nat} {M D:zC} {q:Bool→K} (hD:OkD D) (hR:x9 D M) (h:HG B (zJ d D::zk m M::Γ) (q true)):HG B (zJ d D::zk m M::Γ) (xU.call (some ⟨d,0,none⟩) (some ⟨m,0,none⟩) q):=fun w hw=>zON hD hR hw fun w hw=>h w hw
end
section
open Go Go.Sep Go.Sep.Bt
def fg (D:zC) (n:List UInt8):vK:=(zO n D.files).getD ⟨[],0⟩
theorem zBG {D:zC} {n:List UInt8} (h:zO n D.files = none):fg D n = ⟨[],0⟩:=by unfold fg; rw [h]; rfl
theorem zBs {D:zC} {n:List UInt8} {f:vK} (h:zO n D.files = some f):fg D n = f:=by unfold fg; rw [h]; rfl
theorem zWj {D:zC} (hD:OkD D) (n:List UInt8):(fg D n).last ≤ (fg D n).data.length:=by
 cases hm:zO n D.files with
 | none=>rw [zBG hm]; exact Nat.le_refl _
 | some f=>rw [zBs hm]; exact hD.last (n,f) (zA9 hm)
theorem zWk (D:zC) (n:List UInt8):(fg D n).data.length ≤ yc D.files:=by
 cases hm:zO n D.files with
 | none=>rw [zBG hm]; exact Nat.zero_le _
 | some f=>rw [zBs hm]; exact zEQ (p:=(n,f)) (zA9 hm)
theorem fg_eq {D D':zC} {n:List UInt8} (h:zO n D'.files = zO n D.files):fg D' n = fg D n:=by unfold fg; rw [h]
theorem zCL {a:DkA} {fs:Files} {n m:List UInt8} {v:vK}:fg ⟨a,qR n v fs⟩ m = if m = n then v else fg ⟨a,fs⟩ m:=by
 unfold fg
 simp only
 rw [xK]
 split <;> rfl
theorem zRA {n:List UInt8} {fs:Files}:yc (vJ n fs) ≤ yc fs:=by
 induction fs with
 | nil=>exact Nat.le_refl _
 | cons p fs ih=>
  unfold vJ
  split
  ·simp only [yc]; omega
  ·simp only [yc]; omega
structure zVT (D D':zC) (n:List UInt8):Prop where
 dn:D'.a.down = false→D.a.down = false
 none:∀ m,zO m D'.files = none ↔ zO m D.files = none
 data:∀ m,(fg D' m).data = (fg D m).data
 last:∀ m,(fg D m).last ≤ (fg D' m).last
 oth:∀ m,m ≠ n→zO m D'.files = zO m D.files
 used:yc D'.files = yc D.files
theorem zVT.refl (D:zC) (n:List UInt8):zVT D D n:=⟨id,fun _=>Iff.rfl,fun _=>rfl,fun _=>Nat.le_refl _,fun _ _=>rfl,rfl⟩
theorem zSI {D:zC} (hD:OkD D) (n:List UInt8):zVT D (D.sync n).1 n∧((D.sync n).2 = 0→(fg (D.sync n).1 n).last = (fg (D.sync n).1 n).data.length):=by
 unfold zC.sync
 split
 ·exact ⟨.refl _ _,fun h=>by simp at h⟩
 rename_i hd
 have hd:D.a.down = false:=by simpa using hd
 cases hm:zO n D.files with
 | none=>exact ⟨.refl _ _,fun h=>by simp at h⟩
 | some f=>
  obtain ⟨_,⟨c1,c2⟩ | ⟨c1,c2⟩⟩:=zDu D.a hd
  ·simp only
   rw [c1,if_pos rfl]
   have hl:=hD.last (n,f) (zA9 hm)
   simp only at hl
   refine ⟨⟨fun _=>hd,fun m=>?_,fun m=>?_,fun m=>?_,fun m h=>by simp only; rw [xK,if_neg h],?_⟩,fun _=>by rw [zCL,if_pos rfl]⟩
   ·simp only
    rw [xK]
    by_cases e:m = n
    ·rw [if_pos e,e,hm]; simp
    ·rw [if_neg e]
   ·rw [zCL]
    by_cases e:m = n
    ·rw [if_pos e,e,zBs hm]
    ·rw [if_neg e]; rfl
   ·rw [zCL]
    by_cases e:m = n
    ·rw [if_pos e,e,zBs hm]; exact hl
    ·rw [if_neg e]; exact Nat.le_refl _
   ·have:=zGD (n:=n) (v:=⟨f.data,f.data.length⟩) D.files
    rw [hm] at this
    simp only [Option.getD_some] at this ⊢
    omega
  ·simp only
   rw [c1,if_neg (by decide)]
   exact ⟨⟨fun h=>(by simp only [c2] at h; cases h),fun _=>Iff.rfl,fun _=>rfl,fun _=>Nat.le_refl _,fun _ _=>rfl,rfl⟩,fun h=>by simp at h⟩
theorem zMz {D:zC} (n x:List UInt8):(D.append n x).1 = D∧(D.append n x).2 ≠ 0 ∨
  D.a.down = false∧(D.append n x).1.files = qR n ⟨(fg D n).data++x,(fg D n).last⟩ D.files∧((D.append n x).2 = 0∧(D.append n x).1.a.down = false∨(D.append n x).2 ≠ 0∧(D.append n x).1.a.down = true):=by
 unfold zC.append
 split
 ·exact .inl ⟨rfl,by simp⟩
 rename_i hd
 have hd:D.a.down = false:=by simpa using hd
 split
 ·exact .inl ⟨rfl,by simp⟩
 split
 ·exact .inl ⟨rfl,by simp⟩
 refine .inr ⟨hd,rfl,?_⟩
 obtain ⟨_,⟨c1,c2⟩ | ⟨c1,c2⟩⟩:=zDu D.a hd
 ·exact .inl ⟨c1,c2⟩
 ·exact .inr ⟨by simp only; rw [c1]; decide,c2⟩
theorem zLe {D:zC} {n x:List UInt8} {l:Nat}:yc (qR n ⟨(fg D n).data++x,l⟩ D.files) = yc D.files + x.length:=by
 have:=zGD (n:=n) (v:=⟨(fg D n).data++x,l⟩) D.files
 simp only [List.length_append] at this
 have e:((zO n D.files).getD ⟨[],0⟩).data.length = (fg D n).data.length:=rfl
 omega
structure DkI (D:zC) (n:Nat):Prop where
 ok:OkD D
 used:yc D.files ≤ n
 sv:∀ m ∈ S4,(fg D m).data.length ≤ 6000
 parts:∀ g:Int,0 ≤ g→g ≤ 3→∀ i,i ≤ 8→zO (zM (yQ g) (i + 1)) D.files ≠ none→36800 ≤ (fg D (zM (yQ g) i)).last
theorem DkI.up {D:zC} {n m:Nat} (h:DkI D n) (hm:n ≤ m):DkI D m:=⟨h.ok,Nat.le_trans h.used hm,h.sv,h.parts⟩
structure LgI (D:zC) (W:q8) (g:Int) (c:Nat):Prop where
 name:W.name = yQ g
 g0:0 ≤ g
 g3:g ≤ 3
 size:W.size = 40960
 part:W.part ≤ 9
 used:W.used ≤ 1048576
 few:W.recs.length ≤ 2000000 + c
 low:∀ i,i < W.part→36800 ≤ (fg D (zM (yQ g) i)).last
 hi:D.a.down = false→(∀ i,W.part < i→i ≤ 9→zO (zM (yQ g) i) D.files = none)∧W.used = (fg D (zM (yQ g) W.part)).data.length∧(W.dirty = false→(fg D (zM (yQ g) W.part)).last = (fg D (zM (yQ g) W.part)).data.length)
theorem LgI.up {D:zC} {W:q8} {g:Int} {c c':Nat} (h:LgI D W g c) (hc:c ≤ c'):LgI D W g c':={ h with few:=by have:=h.few; omega }
theorem LgI.touch {D D':zC} {W:q8} {g:Int} {c:Nat} (h:LgI D W g c) (h1:D'.a.down = false→D.a.down = false) (h2:∀ i,i ≤ 9→zO (zM (yQ g) i) D'.files = zO (zM (yQ g) i) D.files):LgI D' W g c:=by
 have hp:=h.part
 refine { h with low:=fun i hi=>?_,hi:=fun hd=>?_ }
 ·rw [fg_eq (h2 i (by omega))]; exact h.low i hi
 ·obtain ⟨a,b,c⟩:=h.hi (h1 hd)
  rw [fg_eq (h2 W.part hp)]
  exact ⟨fun i h3 h4=>by rw [h2 i h4]; exact a i h3 h4,b,c⟩
theorem LgI.okW {D:zC} {W:q8} {g:Int} {c:Nat} (h:LgI D W g c) (hc:c ≤ 1000000):OkW W:=by
 have:=h.used
 have:=h.few
 exact ⟨by rw [h.name]; simp [yQ],by rw [h.size]; omega,h.part,by omega,by omega⟩
theorem many {b:Nat} {name:List UInt8} (hb:0 < b):∀ (k:Nat) (D:zC),k ≤ 10→OkD D→(∀ i,i < k→b ≤ (fg D (zM name i)).data.length)→b * k ≤ yc D.files
 | 0,_,_,_,_=>Nat.zero_le _
 | k + 1,D,hk,hD,h=>by
  cases hm:zO (zM name k) D.files with
  | none=>
   have h1:=h k (by omega)
   rw [zBG hm] at h1
   simp only [List.length_nil] at h1
   omega
  | some f=>
   obtain ⟨o,_,_,hu⟩:=hD.del hm
   have h1:=h k (by omega)
   rw [zBs hm] at h1
   have h2:=many hb k ⟨D.a,vJ (zM name k) D.files⟩ (by omega) o fun i hi=>by
    have h3:=h i (by omega)
    have hne:zM name i ≠ zM name k:=fun e=>by have:=zCZ (by omega) (by omega) e; omega
    rw [fg_eq (show zO (zM name i) (vJ (zM name k) D.files) = zO (zM name i) D.files from zDZ hne _)]
    exact h3
   simp only at h2
   rw [Nat.mul_succ]
   omega
theorem LgI.zZ2 {D:zC} {W:q8} {g:Int} {c n:Nat} (h:LgI D W g c) (hI:DkI D n) (hn:n ≤ 330000):W.part ≤ 8:=by
 have hp:=h.part
 have h1:=many (b:=36800) (name:=yQ g) (by omega) W.part D (by omega) hI.ok fun i hi=>Nat.le_trans (h.low i hi) (zWj hI.ok _)
 have:=hI.used
 omega
theorem zIQ {g g':Int} (h0:0 ≤ g) (h3:g ≤ 3) (h0':0 ≤ g') (h3':g' ≤ 3) (hne:g ≠ g') (i j:Nat):zM (yQ g) i ≠ zM (yQ g') j:=by
 intro e
 unfold zM yQ at e
 simp only [List.cons_append,List.nil_append,List.cons.injEq,true_and,and_true] at e
 have:=congrArg UInt8.toNat e.1
 rw [u8N,u8N] at this
 omega
section
variable {D:zC} {W:q8} {g:Int} {c n:Nat} {r:List UInt8}
structure Beh (D D':zC) (g:Int):Prop where
 dn:D'.a.down = false→D.a.down = false
 oth:∀ m,(∀ i,i ≤ 9→m ≠ zM (yQ g) i)→zO m D'.files = zO m D.files
theorem Beh.refl (D:zC) (g:Int):Beh D D g:=⟨id,fun _ _=>rfl⟩
theorem Beh.trans {D1 D2 D3:zC} (h1:Beh D1 D2 g) (h2:Beh D2 D3 g):Beh D1 D3 g:=⟨fun h=>h1.dn (h2.dn h),fun m h=>(h2.oth m h).trans (h1.oth m h)⟩
theorem Beh.lg {D':zC} {W':q8} {g':Int} (hb:Beh D D' g) (h0:0 ≤ g) (h3:g ≤ 3) (h:LgI D W' g' c) (hne:g' ≠ g):LgI D' W' g' c :=
 h.touch hb.dn fun i _=>hb.oth _ fun j _=>zIQ h.g0 h.g3 h0 h3 hne i j
theorem zSJ (hI:DkI D n) (hL:LgI D W g c):DkI (W.vV D).1 n∧LgI (W.vV D).1 (W.vV D).2.1 g c∧Beh D (W.vV D).1 g∧(W.vV D).2.1.part = W.part∧(W.vV D).2.1.used = W.used∧((W.vV D).2.2 = 0→(W.vV D).2.1.dirty = false):=by
 have ho:=zI7 (W:=W) hI.ok
 unfold q8.vV at ho ⊢
 split
 ·rename_i hd
  exact ⟨hI,hL,.refl _ _,rfl,rfl,fun _=>hd⟩
 rename_i hd
 rw [if_neg hd] at ho
 obtain ⟨sx,sl⟩:=zSI hI.ok (zM W.name W.part)
 generalize D.sync (zM W.name W.part) = R at *
 have hp:=hL.part
 rw [hL.name] at sx sl
 refine ⟨⟨ho,by rw [sx.used]; exact hI.used,fun m hm=>by rw [sx.data]; exact hI.sv m hm,fun g' h0 h3 i hi hm=>Nat.le_trans (hI.parts g' h0 h3 i hi fun h=>hm ((sx.none _).2 h)) (sx.last _)⟩,?_,⟨sx.dn,fun m hm=>sx.oth m (hm _ hp)⟩,rfl,rfl,fun h=>by simp [show R.2 = 0 from h]⟩
 refine ⟨hL.name,hL.g0,hL.g3,hL.size,hL.part,hL.used,hL.few,fun i hi=>Nat.le_trans (hL.low i hi) (sx.last _),fun h=>?_⟩
 obtain ⟨a,b,_⟩:=hL.hi (sx.dn h)
 refine ⟨fun i h1 h2=>(sx.none _).2 (a i h1 h2),by rw [sx.data]; exact b,fun h1=>?_⟩
 simp only [decide_eq_false_iff_not,Decidable.not_not] at h1
 exact sl h1
theorem zXY (hI:DkI D n) (hL:LgI D W g c) {p u:Nat} (hr:r.length ≤ 4096) (hp:p = W.part∧u = W.used∨p = W.part + 1∧u = 0∧W.part ≤ 8∧(D.a.down = false→36800 ≤ (fg D (zM (yQ g) W.part)).last)) :
  DkI (W.put D p u r).1 (n + 4102)∧LgI (W.put D p u r).1 (W.put D p u r).2.1 g (c + 1)∧Beh D (W.put D p u r).1 g:=by
 have hlen:=qV r
 have hWp:=hL.part
 have hp9:p ≤ 9:=by omega
 have ho:=zOD (W:=W) (part:=p) (used:=u) (r:=r) hI.ok
 have h0:=hL.g0
 have h3:=hL.g3
 have hlow:D.a.down = false→∀ i,i < p→36800 ≤ (fg D (zM (yQ g) i)).last:=fun hd i hi=>by
  rcases hp with ⟨rfl,_⟩ | ⟨rfl,_,_,h4⟩
  ·exact hL.low i hi
  ·by_cases e:i = W.part
   ·subst e; exact h4 hd
   ·exact hL.low i (by omega)
 have hup:D.a.down = false→u = (fg D (zM (yQ g) p)).data.length∧∀ i,p < i→i ≤ 9→zO (zM (yQ g) i) D.files = none:=fun hd=>by
  obtain ⟨a,b,_⟩:=hL.hi hd
  rcases hp with ⟨rfl,rfl⟩ | ⟨rfl,rfl,h5,h4⟩
  ·exact ⟨b,a⟩
  ·exact ⟨by rw [zBG (a (W.part + 1) (by omega) (by omega))]; rfl,fun i h6 h7=>a i (by omega) h7⟩
 unfold q8.put at ho ⊢
 rw [hL.name] at ho ⊢
 rcases zMz (D:=D) (zM (yQ g) p) (yP r) with ⟨h1,h2⟩ | ⟨hd,hf,h2⟩
 ·rw [if_pos h2] at ho ⊢
  rw [h1]
  exact ⟨hI.up (by omega),hL.up (by omega),.refl _ _⟩
 generalize D.append (zM (yQ g) p) (yP r) = R at *
 obtain ⟨⟨a',fs'⟩,code⟩:=R
 simp only at hf h2 ho ⊢
 subst hf
 have hus:yc (qR (zM (yQ g) p) ⟨(fg D (zM (yQ g) p)).data++yP r,(fg D (zM (yQ g) p)).last⟩ D.files) = yc D.files + (yP r).length:=zLe
 have hfl:∀ m,(fg ⟨a',qR (zM (yQ g) p) ⟨(fg D (zM (yQ g) p)).data++yP r,(fg D (zM (yQ g) p)).last⟩ D.files⟩ m).last = (fg D m).last:=fun m=>by
  rw [zCL]
  split
  ·rename_i e; rw [e]
  ·rfl
 have hI':OkD ⟨a',qR (zM (yQ g) p) ⟨(fg D (zM (yQ g) p)).data++yP r,(fg D (zM (yQ g) p)).last⟩ D.files⟩→DkI ⟨a',qR (zM (yQ g) p) ⟨(fg D (zM (yQ g) p)).data++yP r,(fg D (zM (yQ g) p)).last⟩ D.files⟩ (n + 4102):=fun ho=>by
  have:=hI.used
  refine ⟨ho,by rw [hus]; omega,fun m hm=>?_,fun g' h0' h3' i hi hm=>?_⟩
  ·rw [zCL,if_neg (zFv g p m hm)]
   exact hI.sv m hm
  ·rw [hfl]
   simp only at hm
   rw [xK] at hm
   by_cases e:zM (yQ g') (i + 1) = zM (yQ g) p
   ·by_cases hg:g' = g
    ·subst hg
     have:=zCZ (by omega) hp9 e
     exact hlow hd i (by omega)
    ·exact absurd e (zIQ h0' h3' h0 h3 hg _ _)
   ·rw [if_neg e] at hm
    exact hI.parts g' h0' h3' i hi hm
 have hB:Beh D ⟨a',qR (zM (yQ g) p) ⟨(fg D (zM (yQ g) p)).data++yP r,(fg D (zM (yQ g) p)).last⟩ D.files⟩ g:=⟨fun _=>hd,fun m hm=>by simp only; rw [xK,if_neg (hm p hp9)]⟩
 rcases h2 with ⟨h2,hdn⟩ | ⟨h2,hdn⟩
 ·rw [if_neg (by rw [h2]; decide)] at ho ⊢
  refine ⟨hI' ho,?_,hB⟩
  obtain ⟨hu1,hu2⟩:=hup hd
  have hz:u + (yP r).length = ((fg D (zM (yQ g) p)).data++yP r).length:=by rw [List.length_append,hu1]
  refine ⟨rfl,h0,h3,hL.size,hp9,?_,?_,fun i hi=>by rw [hfl]; exact hlow hd i hi,fun _=>⟨fun i h6 h7=>?_,?_,fun h=>by cases h⟩⟩
  ·have h8:=ho.used
   have h9:=ho.roomN
   simp only at h8 h9 ⊢
   rw [hus] at h8
   have:=zWk D (zM (yQ g) p)
   omega
  ·have:=hL.few
   simp only [List.length_append,List.length_cons,List.length_nil]
   omega
  ·simp only
   rw [xK,if_neg (fun e=>by have:=zCZ h7 hp9 e; simp only at h6; omega)]
   exact hu2 i h6 h7
  ·rw [zCL,if_pos rfl]
   exact hz
 ·rw [if_pos h2] at ho ⊢
  exact ⟨hI' ho,{ hL with few:=(by have:=hL.few; show W.recs.length ≤ _; omega),low:=fun i hi=>by rw [hfl]; exact hL.low i hi,hi:=fun h=>by simp only [hdn] at h; cases h },hB⟩
theorem zXZ (hI:DkI D n) (hL:LgI D W g c) (hr:r.length ≤ 4096):DkI (W.app D r).1 (n + 4102)∧LgI (W.app D r).1 (W.app D r).2.1 g (c + 1)∧Beh D (W.app D r).1 g:=by
 have hlen:=qV r
 unfold q8.app
 split
 ·rename_i hful
  split
  ·exact ⟨hI.up (by omega),hL.up (by omega),.refl _ _⟩
  rename_i h9
  obtain ⟨s1,s2,s3,s4,s5,s6⟩:=zSJ hI hL
  have hWp:=hL.part
  split
  ·exact ⟨s1.up (by omega),s2.up (by omega),s3⟩
  rename_i h0
  have hdt:=s6 (by simpa using h0)
  generalize W.vV D = R at *
  have:=zXY s1 s2 (r:=r) (p:=W.part + 1) (u:=0) hr (.inr ⟨by rw [s4],rfl,by rw [s4]; omega,fun hd=>?_⟩)
  ·exact ⟨this.1,this.2.1,s3.trans this.2.2⟩
  ·obtain ⟨_,b,e⟩:=s2.hi hd
   rw [e hdt,← b,s5]
   have:=hL.size
   omega
 ·exact zXY hI hL hr (.inl ⟨rfl,rfl⟩)
theorem zYj (hI:DkI D n) (hL:LgI D W g c) (hr:r.length ≤ 4096):DkI (qN W D r).1 (n + 4102)∧LgI (qN W D r).1 (qN W D r).2.1 g (c + 1)∧Beh D (qN W D r).1 g:=by
 have h:=zXZ hI hL hr
 unfold qN
 split
 ·exact h
 ·obtain ⟨h1,h2,h3⟩:=h
  obtain ⟨s1,s2,s3,_,_,_⟩:=zSJ h1 h2
  exact ⟨s1,s2,h3.trans s3⟩
structure SvX (D E:zC) (nm:List UInt8) (u:Nat):Prop where
 dn:E.a.down = false→D.a.down = false
 oth:∀ m,m ≠ nm→m ≠ zm nm→zO m E.files = zO m D.files
 used:yc E.files ≤ u
 len:∀ m,m = nm∨m = zm nm→(fg E m).data.length ≤ 6000
 fr:D.a.left = -1→E.a = D.a
theorem zVU {nm:List UInt8} (hD:OkD D):((D.remove nm).1.a.down = false→D.a.down = false)∧(∀ m,m ≠ nm→zO m (D.remove nm).1.files = zO m D.files)∧yc (D.remove nm).1.files ≤ yc D.files∧(fg (D.remove nm).1 nm).data.length ≤ (fg D nm).data.length∧(D.a.left = -1→(D.remove nm).1.a = D.a)∧((D.remove nm).2 = 0∨(D.remove nm).2 = 60→zO nm (D.remove nm).1.files = none)∧((fg (D.remove nm).1 nm).last = (fg D nm).last∧(fg (D.remove nm).1 nm).data = (fg D nm).data∨fg (D.remove nm).1 nm = ⟨[],0⟩):=by
 unfold zC.remove
 split
 ·exact ⟨id,fun _ _=>rfl,Nat.le_refl _,Nat.le_refl _,fun _=>rfl,fun h=>by simp at h,.inl ⟨rfl,rfl⟩⟩
 rename_i hd
 have hd:D.a.down = false:=by simpa using hd
 cases hm:zO nm D.files with
 | none=>exact ⟨id,fun _ _=>rfl,Nat.le_refl _,Nat.le_refl _,fun _=>rfl,fun _=>hm,.inl ⟨rfl,rfl⟩⟩
 | some f=>
  obtain ⟨_,⟨c1,c2⟩ | ⟨c1,c2⟩⟩:=zDu D.a hd
  ·simp only
   rw [c1,if_pos rfl]
   have hn:zO nm (vJ nm D.files) = none:=(hD.del hm).2.1
   refine ⟨fun _=>hd,fun m h=>zDZ h _,zRA,?_,fun h=>by rw [zEp h],fun _=>hn,.inr (zBG hn)⟩
   rw [zBG (show zO nm (⟨(chg D.a).1,vJ nm D.files⟩:zC).files = none from hn)]
   exact Nat.zero_le _
  ·simp only
   rw [c1,if_neg (by decide)]
   exact ⟨fun h=>(by simp only [c2] at h; cases h),fun _ _=>rfl,Nat.le_refl _,Nat.le_refl _,fun h=>(by rw [zEp h]),fun h=>(by simp at h),.inl ⟨rfl,rfl⟩⟩
theorem zWl {nm x:List UInt8} (hD:OkD D) (hx:(yj x).length ≤ 6000) (hs:∀ m,m = nm∨m = zm nm→(fg D m).data.length ≤ 6000):SvX D (D.save nm x).1 nm (yc D.files + (yj x).length)∧(D.a.left = -1→(∀ m,(fg D m).last = (fg D m).data.length)→∀ m,(fg (D.save nm x).1 m).last = (fg (D.save nm x).1 m).data.length):=by
 have hne:=zP3 nm
 unfold zC.save
 split
 ·exact ⟨⟨id,fun _ _ _=>rfl,Nat.le_add_right _ _,hs,fun _=>rfl⟩,fun _ h=>h⟩
 obtain ⟨r1,r2,r3,r4,r5,r6,r7⟩:=zVU (nm:=zm nm) hD
 have o1:=zLQ hD (zm nm)
 have rl:(∀ m,(fg D m).last = (fg D m).data.length)→∀ m,(fg (D.remove (zm nm)).1 m).last = (fg (D.remove (zm nm)).1 m).data.length:=fun h m=>by
  by_cases e:m = zm nm
  ·subst e
   rcases r7 with ⟨e1,e2⟩ | e1
   ·rw [e1,e2]; exact h _
   ·rw [e1]; rfl
  ·rw [fg_eq (r2 m e)]; exact h m
 have rs:SvX D (D.remove (zm nm)).1 nm (yc D.files + (yj x).length):=⟨r1,fun m _ h=>r2 m h,by omega,fun m hm=>by
  rcases hm with rfl | rfl
  ·rw [fg_eq (r2 m hne)]; exact hs m (.inl rfl)
  ·have:=hs _ (.inr rfl); omega,r5⟩
 split
 ·exact ⟨rs,fun _ h=>rl h⟩
 rename_i hc
 have hnone:=r6 (by
  by_cases e:(D.remove (zm nm)).2 = 0
  ·exact .inl e
  ·right
   by_cases e2:(D.remove (zm nm)).2 = 60
   ·exact e2
   ·exact absurd ⟨e,e2⟩ hc)
 generalize (D.remove (zm nm)).1 = E at *
 unfold zJO
 have hfE:=zBG hnone
 rcases zMz (D:=E) (zm nm) (yj x) with ⟨h1,h2⟩ | ⟨hd,hf,h2⟩
 ·rw [if_pos h2,h1]
  exact ⟨rs,fun _ h=>rl h⟩
 have o2:=(zGG (n:=zm nm) (x:=yj x) o1).1
 have fr2:E.a.left = -1→(E.append (zm nm) (yj x)).1.a = E.a∧(E.append (zm nm) (yj x)).2 = 0:=fun hl=>by
  rcases h2 with ⟨h3,_⟩ | ⟨h3,h4⟩
  ·refine ⟨?_,h3⟩
   unfold zC.append
   split
   ·rfl
   split
   ·rfl
   split
   ·rfl
   ·simp only; rw [zEp hl]
  ·exfalso
   have h5:(E.append (zm nm) (yj x)).1.a = E.a:=by
    unfold zC.append
    split
    ·rfl
    split
    ·rfl
    split
    ·rfl
    ·simp only; rw [zEp hl]
   rw [h5,hd] at h4
   cases h4
 generalize E.append (zm nm) (yj x) = R at *
 obtain ⟨⟨a2,f2⟩,c2⟩:=R
 simp only at hf h2 o2 fr2 ⊢
 rw [hfE] at hf
 simp only [List.nil_append] at hf
 have hus:yc f2 = yc E.files + (yj x).length:=by
  have:=zLe (D:=E) (n:=zm nm) (x:=yj x) (l:=0)
  rw [hfE] at this
  rw [hf]; exact this
 have s2:SvX D ⟨a2,f2⟩ nm (yc D.files + (yj x).length):=by
  subst hf
  refine ⟨fun h=>r1 hd,fun m h1 h2=>?_,by simp only; omega,fun m hm=>?_,fun hl=>?_⟩
  ·simp only; rw [xK,if_neg h2]; exact r2 m h2
  ·rw [zCL]
   split
   ·exact hx
   ·rename_i hn2
    rcases hm with rfl | rfl
    ·have:fg (⟨a2,E.files⟩:zC) m = fg D m:=fg_eq (r2 m hn2)
     rw [this]; exact hs m (.inl rfl)
    ·exact absurd rfl hn2
  ·have e1:=r5 hl
   rw [← e1]
   exact (fr2 (by rw [e1]; exact hl)).1
 split
 ·rename_i hc2
  refine ⟨s2,fun hl _=>?_⟩
  exact absurd (fr2 (by rw [r5 hl]; exact hl)).2 hc2
 rename_i hc2
 have hc2:c2 = 0:=by simpa using hc2
 have hd2:a2.down = false:=by
  rcases h2 with ⟨_,h3⟩ | ⟨h3,_⟩
  ·exact h3
  ·exact absurd hc2 h3
 unfold zK0
 obtain ⟨sx,sl⟩:=zSI o2 (zm nm)
 have o3:=(zIH (n:=zm nm) o2).1
 have hm2:zO (zm nm) f2 = some ⟨yj x,0⟩:=by rw [hf,xK,if_pos rfl]
 have fr3:a2.left = -1→((⟨a2,f2⟩:zC).sync (zm nm)).1.a = a2∧((⟨a2,f2⟩:zC).sync (zm nm)).2 = 0:=fun hl=>by
  unfold zC.sync
  rw [if_neg (by simp only; rw [hd2]; decide)]
  simp only
  rw [hm2]
  simp only
  rw [zEp hl]
  exact ⟨rfl,rfl⟩
 generalize (⟨a2,f2⟩:zC).sync (zm nm) = R3 at *
 obtain ⟨E3,c3⟩:=R3
 simp only at sx sl o3 fr3 ⊢
 have s3:SvX D E3 nm (yc D.files + (yj x).length):=by
  refine ⟨fun h=>s2.dn (sx.dn h),fun m h1 h2=>(sx.oth m h2).trans (s2.oth m h1 h2),by rw [sx.used]; exact s2.used,fun m hm=>by rw [sx.data]; exact s2.len m hm,fun hl=>?_⟩
  have e1:=s2.fr hl
  simp only at e1
  rw [← e1]
  exact (fr3 (by rw [e1]; exact hl)).1
 split
 ·rename_i hc3
  refine ⟨s3,fun hl _=>?_⟩
  have e1:=s2.fr hl
  simp only at e1
  exact absurd (fr3 (by rw [e1]; exact hl)).2 hc3
 rename_i hc3
 have hl3:=sl (by simpa using hc3)
 have hA3:(∀ m,(fg D m).last = (fg D m).data.length)→∀ m,(fg E3 m).last = (fg E3 m).data.length:=fun h m=>by
  by_cases e:m = zm nm
  ·rw [e]; exact hl3
  ·have h5:fg E3 m = fg E m:=fg_eq ((sx.oth m e).trans (by simp only; rw [hf,xK,if_neg e]))
   rw [h5]
   exact rl h m
 unfold zPO zC.rename
 split
 ·exact ⟨s3,fun _ h=>hA3 h⟩
 rename_i hd3
 cases hm3:zO (zm nm) E3.files with
 | none=>exact ⟨s3,fun _ h=>hA3 h⟩
 | some f=>
  simp only
  split
  ·exact ⟨s3,fun _ h=>hA3 h⟩
  simp only
  obtain ⟨_,⟨c1,c2⟩ | ⟨c1,c2⟩⟩:=zDu E3.a (by simpa using hd3)
  ·rw [c1,if_pos rfl]
   have hfl:f.data.length ≤ 6000:=by
    have:=s3.len (zm nm) (.inr rfl)
    rw [zBs hm3] at this
    exact this
   refine ⟨⟨fun _=>s3.dn (by simpa using hd3),fun m h1 h2=>by simp only; rw [xK,if_neg h1,zDZ h2]; exact s3.oth m h1 h2,?_,fun m hm=>?_,fun hl=>by simp only; rw [zEp (by rw [s3.fr hl]; exact hl)]; exact s3.fr hl⟩,fun hl h m=>?_⟩
   ·have h5:=zGD (n:=nm) (v:=f) (vJ (zm nm) E3.files)
    have h6:=(o3.del hm3).2.2.2
    have h7:=s3.used
    simp only
    omega
   ·rw [zCL]
    split
    ·exact hfl
    ·rename_i hn2
     rcases hm with rfl | rfl
     ·exact absurd rfl hn2
     ·rw [zBG (show zO (zm nm) (vJ (zm nm) E3.files) = none from (o3.del hm3).2.1)]
      exact Nat.zero_le _
   ·rw [zCL]
    split
    ·have:=hA3 h (zm nm)
     rw [zBs hm3] at this
     exact this
    ·by_cases e:m = zm nm
     ·rw [e,zBG (show zO (zm nm) (vJ (zm nm) E3.files) = none from (o3.del hm3).2.1)]
      rfl
     ·rw [fg_eq (show zO m (vJ (zm nm) E3.files) = zO m E3.files from zDZ e _)]
      exact hA3 h m
  ·rw [c1,if_neg (by decide)]
   exact ⟨⟨fun h=>(by simp only [c2] at h; cases h),s3.oth,s3.used,s3.len,fun hl=>(by simp only; rw [zEp (by rw [s3.fr hl]; exact hl)]; exact s3.fr hl)⟩,fun _ h=>hA3 h⟩
end
end
section
open Go Go.Sep Go.Sep.Bt
def zFw (D:zC):Prop:=∀ m,(fg D m).last = (fg D m).data.length
theorem zQC {D:zC} (hD:OkD D) (ks:List Int):yc (D.crash ks).files ≤ yc D.files:=by
 have h1:=zFj ks D.file D.names 0
 have h2:zJh D.file D.names = yc D.files:=(zMe (List.mergeSort_perm _ _)).trans (zKy hD)
 simp only [zC.crash,jc]
 omega
theorem zLf {D:zC} (hD:OkD D) (ks:List Int) (m:List UInt8):(fg D m).last ≤ (fg (D.crash ks) m).last∧(fg (D.crash ks) m).data.length ≤ (fg D m).data.length∧(fg (D.crash ks) m).last = (fg (D.crash ks) m).data.length:=by
 cases hm:zO m D.files with
 | none=>rw [zBG hm,zBG (zDp ks hm)]; exact ⟨Nat.le_refl _,Nat.le_refl _,rfl⟩
 | some f=>
  obtain ⟨i,hi⟩:=zG5 hD ks hm
  have hl:=hD.last (m,f) (zA9 hm)
  simp only at hl
  have hk:=zER ks i f
  rw [zBs hm,zBs hi]
  unfold jU
  simp only [List.length_take]
  omega
theorem zWm {D:zC} {n:Nat} (h:DkI D n) (ks:List Int):DkI (D.crash ks) n∧zFw (D.crash ks)∧Free (D.crash ks):=by
 refine ⟨⟨h.ok.crash ks,Nat.le_trans (zQC h.ok ks) h.used,fun m hm=>Nat.le_trans (zLf h.ok ks m).2.1 (h.sv m hm),fun g h0 h3 i hi hm=>?_⟩,fun m=>(zLf h.ok ks m).2.2,zK4⟩
 refine Nat.le_trans (h.parts g h0 h3 i hi fun h1=>hm ?_) (zLf h.ok ks _).1
 exact zDp ks h1
theorem zSK {name:List UInt8}:∀ (f j:Nat) (D:zC),f + j ≤ 10→Free D→OkD D→OkD (zBn name f j D).1∧(zBn name f j D).1.a = D.a ∧
  (∀ k,j ≤ k→k < j + f→zO (zM name k) (zBn name f j D).1.files = none)∧(∀ n,(∀ k,j ≤ k→k < j + f→n ≠ zM name k)→zO n (zBn name f j D).1.files = zO n D.files)∧yc (zBn name f j D).1.files ≤ yc D.files
 | 0,j,D,_,_,hD=>⟨hD,rfl,fun k h1 h2=>by omega,fun _ _=>rfl,Nat.le_refl _⟩
 | f + 1,j,D,hf,hF,hD=>by
  obtain ⟨r1,r2,r3,r4,r5,r6,r7⟩:=zVU (nm:=zM name (j + f)) hD
  have o1:=zLQ hD (zM name (j + f))
  have hc:(D.remove (zM name (j + f))).2 = 0∨(D.remove (zM name (j + f))).2 = 60:=by
   unfold zC.remove
   rw [if_neg (by rw [hF.down]; decide)]
   cases hm:zO (zM name (j + f)) D.files with
   | none=>exact .inr rfl
   | some x=>simp only [zEp hF.left]; exact .inl trivial
  have hn:=r6 hc
  have ha:=r5 hF.left
  unfold zBn
  rw [if_neg (by omega)]
  generalize (D.remove (zM name (j + f))).1 = D1 at *
  obtain ⟨g0,g1,g2,g3,g4⟩:=zSK (name:=name) f j D1 (by omega) ⟨by rw [ha]; exact hF.left,by rw [ha]; exact hF.down⟩ o1
  refine ⟨g0,by rw [g1,ha],fun k k1 k2=>?_,fun n hn'=>?_,by omega⟩
  ·by_cases hk:k = j + f
   ·subst hk
    rw [g3 _ fun k' k3 k4 e=>by have:=zCZ (by omega) (by omega) e; omega]
    exact hn
   ·exact g2 k k1 (by omega)
  ·rw [g3 n fun k k1 k2=>hn' k k1 (by omega),r2 n (hn' (j + f) (by omega) (by omega))]
structure LdI (D E:zC) (W:q8) (name:List UInt8) (s:Nat) (torn:Bool):Prop where
 a:E.a = D.a
 ok:OkD E
 used:yc E.files ≤ yc D.files
 oth:∀ m,(s = 0∨m ≠ zM name (s - 1))→zO m E.files = zO m D.files
 all:zFw E
 there:∀ i,i < s→zO (zM name i) D.files ≠ none
 part:W.part = s - 1
 wused:W.used = (fg E (zM name W.part)).data.length
 s10:s ≤ 10
 last:torn = false→E = D
theorem zSL {name:List UInt8} {D:zC} (hF:Free D) (hD:OkD D):∀ (f s:Nat) (W:q8),s + f = 10→(s = 0→W.used = 0∧W.part = 0)→(s ≠ 0→LdI D D W name s false)→zFw D →
  (jG name f s D W).2.2.2 = 0∧((s = 0∧zO (zM name 0) D.files = none∧jG name f s D W = (D,W,0,0))∨∃ s' t,(jG name f s D W).2.2.1 = s'∧0 < s'∧LdI D (jG name f s D W).1 (jG name f s D W).2.1 name s' t∧(t = true∨s' = 10∨zO (zM name s') D.files = none))
 | 0,s,W,hs,h0,h1,hA=>by
  refine ⟨rfl,.inr ⟨s,false,rfl,by omega,h1 (by omega),.inr (.inl (by omega))⟩⟩
 | f + 1,s,W,hs,h0,h1,hA=>by
  unfold jG
  rw [zSp hF]
  cases hm:zO (zM name s) D.files with
  | none=>
   simp only
   rw [if_pos trivial]
   by_cases e:s = 0
   ·subst e
    exact ⟨rfl,.inl ⟨rfl,hm,rfl⟩⟩
   ·exact ⟨rfl,.inr ⟨s,false,rfl,by omega,h1 e,.inr (.inr hm)⟩⟩
  | some x=>
   simp only
   rw [if_neg (by decide),if_neg (by decide)]
   have hle:=(zHy _ x.data rfl).2
   have hx:=hA (zM name s)
   rw [zBs hm] at hx
   have hthere:∀ i,i < s + 1→zO (zM name i) D.files ≠ none:=fun i hi=>by
    by_cases e:i = s
    ·subst e; rw [hm]; simp
    ·exact (h1 (by omega)).there i (by omega)
   split
   ·rename_i hp
    have hL:LdI D D { W with recs:=W.recs++(qB x.data).1,part:=s,used:=(qB x.data).2 } name (s + 1) false:=⟨rfl,hD,Nat.le_refl _,fun _ _=>rfl,hA,hthere,rfl,by simp only; rw [zBs hm]; exact hp,by omega,fun _=>rfl⟩
    obtain ⟨g1,g2⟩:=zSL hF hD f (s + 1) _ (by omega) (fun h=>by omega) (fun _=>hL) hA
    refine ⟨g1,?_⟩
    rcases g2 with ⟨g2,_⟩ | g2
    ·omega
    ·exact .inr g2
   ·rename_i hp
    rw [zPR hF hm hle]
    simp only
    rw [if_neg (by decide)]
    have oc:OkD (⟨D.a,qR (zM name s) ⟨x.data.take (qB x.data).2,min x.last (qB x.data).2⟩ D.files⟩:zC):=by
     have h3:=zOB (n:=zM name s) (c:=((qB x.data).2:Int)) hD
     rw [zPR hF hm hle] at h3
     exact h3
    refine ⟨rfl,.inr ⟨s + 1,true,rfl,by omega,⟨rfl,oc,?_,fun m h=>?_,fun m=>?_,hthere,rfl,?_,by omega,fun h=>by cases h⟩,.inl rfl⟩⟩
    ·have h4:=zGD (n:=zM name s) (v:=⟨x.data.take (qB x.data).2,min x.last (qB x.data).2⟩) D.files
     rw [hm] at h4
     simp only [Option.getD_some,List.length_take] at h4 ⊢
     omega
    ·simp only
     rw [xK,if_neg]
     rcases h with h | h
     ·omega
     ·exact h
    ·rw [zCL]
     split
     ·simp only [List.length_take]
      omega
     ·exact hA m
    ·simp only
     rw [zCL,if_pos rfl]
     simp only [List.length_take]
     omega
theorem zQD {D:zC} {n:Nat} {g:Int} (hI:DkI D n) (h0:0 ≤ g) (h3:g ≤ 3) {s:Nat} (hs:zO (zM (yQ g) s) D.files = none):∀ i,s ≤ i→i ≤ 9→zO (zM (yQ g) i) D.files = none:=by
 intro i h1
 induction i with
 | zero=>
  intro _
  have e:s = 0:=by omega
  subst e
  exact hs
 | succ i ih=>
  intro h2
  by_cases e:s = i + 1
  ·rw [← e]; exact hs
  ·have h4:=ih (by omega) (by omega)
   cases hm:zO (zM (yQ g) (i + 1)) D.files with
   | none=>rfl
   | some f=>
    have h5:=hI.parts g h0 h3 i (by omega) (by rw [hm]; simp)
    rw [zBG h4] at h5
    simp only at h5
    omega
theorem zYk {D:zC} {n:Nat} {g:Int} (hF:Free D) (hA:zFw D) (hI:DkI D n) (h0:0 ≤ g) (h3:g ≤ 3) :
  DkI ((uG (yQ g) 40960).load D).1 n∧zFw ((uG (yQ g) 40960).load D).1∧Free ((uG (yQ g) 40960).load D).1∧Beh D ((uG (yQ g) 40960).load D).1 g∧LgI ((uG (yQ g) 40960).load D).1 ((uG (yQ g) 40960).load D).2.1 g 0:=by
 have hok:=zII (name:=yQ g) (size:=40960) hI.ok
 have hlu:=hok.used
 have hlf:=hok.few
 have hlp:=hok.part
 have hdt:=hok.dirty
 have hnm:=hok.name
 have hsz:=hok.size
 clear hok
 obtain ⟨e0,e1⟩:=zSL (name:=yQ g) hF hI.ok 10 0 (uG (yQ g) 40960) (by omega) (fun _=>⟨rfl,rfl⟩) (fun h=>absurd rfl h) hA
 unfold q8.load at *
 rw [show (uG (yQ g) 40960).name = yQ g from rfl] at *
 rw [if_neg (by omega)] at *
 rcases e1 with ⟨_,hn,e1⟩ | ⟨s,t,e1,hs0,hL,ht⟩
 ·rw [e1] at hnm hlu hlf hlp hdt hsz ⊢
  simp only at hnm hlu hlf hlp hdt hsz ⊢
  have hno:=zQD hI h0 h3 hn
  rw [zI5 hF.down 10 0 (by omega) fun i _ hi=>hno i (by omega) hi]
  refine ⟨hI,hA,hF,.refl _ _,⟨hnm,h0,h3,hsz,hlp,hlu,by omega,fun i hi=>?_,fun _=>⟨fun i h1 h2=>hno i (by omega) h2,?_,fun _=>hA _⟩⟩⟩
  ·simp only [uG] at hi; omega
  ·rw [zBG (show zO (zM (yQ g) (uG (yQ g) 40960).part) D.files = none from hn)]; rfl
 generalize jG (yQ g) 10 0 D (uG (yQ g) 40960) = R at *
 obtain ⟨E,W,s',c⟩:=R
 simp only at *
 subst e1
 have hFE:Free E:=⟨by rw [hL.a]; exact hF.left,by rw [hL.a]; exact hF.down⟩
 have h10:=hL.s10
 obtain ⟨g0,g1,g2,g3,g4⟩:=zSK (name:=yQ g) (10 - s') s' E (by omega) hFE hL.ok
 generalize (zBn (yQ g) (10 - s') s' E).1 = D' at *
 have hFD:Free D':=⟨by rw [g1]; exact hFE.left,by rw [g1]; exact hFE.down⟩
 have hAD:zFw D':=fun m=>by
  by_cases e:∃ k,s' ≤ k∧k < s' + (10 - s')∧m = zM (yQ g) k
  ·obtain ⟨k,k1,k2,rfl⟩:=e
   rw [zBG (g2 k k1 k2)]; rfl
  ·rw [fg_eq (g3 m fun k k1 k2 h=>e ⟨k,k1,k2,h⟩)]
   exact hL.all m
 have keep:∀ i,i < s' - 1→zO (zM (yQ g) i) D'.files = zO (zM (yQ g) i) D.files:=fun i hi=>by
  rw [g3 _ fun k k1 k2 e=>by have:=zCZ (by omega) (by omega) e; omega,hL.oth _ (.inr fun e=>by have:=zCZ (by omega) (by omega) e; omega)]
 have keepO:∀ m,(∀ i,i ≤ 9→m ≠ zM (yQ g) i)→zO m D'.files = zO m D.files:=fun m hm=>by
  rw [g3 m fun k k1 k2=>hm k (by omega),hL.oth m (.inr (hm (s' - 1) (by omega)))]
 have low:∀ i,i < s' - 1→36800 ≤ (fg D' (zM (yQ g) i)).last:=fun i hi=>by
  rw [fg_eq (keep i hi)]
  exact hI.parts g h0 h3 i (by omega) (hL.there (i + 1) (by omega))
 have up:=hI.used
 have hlu2:=hL.used
 refine ⟨⟨g0,by omega,fun m hm=>?_,fun g' h0' h3' i hi hm=>?_⟩,hAD,hFD,⟨fun _=>hF.down,keepO⟩,⟨hnm,h0,h3,hsz,hlp,hlu,by omega,fun i hi=>low i (by rw [hL.part] at hi; exact hi),fun _=>⟨fun i h1 h2=>g2 i (by rw [hL.part] at h1; omega) (by omega),?_,fun _=>hAD _⟩⟩⟩
 ·rw [fg_eq (keepO m fun i _=>zFv g i m hm)]
  exact hI.sv m hm
 ·by_cases hg:g' = g
  ·subst hg
   by_cases hi2:i + 1 < s'
   ·exact low i (by omega)
   ·exact absurd (g2 (i + 1) (by omega) (by omega)) hm
  ·rw [fg_eq (keepO _ fun j _=>zIQ h0' h3' h0 h3 hg _ _)]
   rw [keepO _ fun j _=>zIQ h0' h3' h0 h3 hg _ _] at hm
   exact hI.parts g' h0' h3' i hi hm
 ·rw [hL.wused]
  have:zO (zM (yQ g) W.part) D'.files = zO (zM (yQ g) W.part) E.files:=g3 _ fun k k1 k2 e=>by
   rw [hL.part] at e
   have:=zCZ (by omega) (by omega) e
   omega
  rw [fg_eq this]
def GrI (D:zC) (G:List GM) (c:Nat):Prop:=∀ x ∈ G,LgI D x.W x.g c∧VOk x.V
theorem VOk.nil:VOk []:=⟨List.Pairwise.nil,fun v hv=>by cases hv⟩
theorem zM0 {n:Nat}:∀ (gl:List Int) (D:zC) (acc:List GM),Free D→zFw D→DkI D n→gl.Nodup→(∀ g ∈ gl,0 ≤ g∧g ≤ 3)→GrI D acc 0→(∀ x ∈ acc,x.g ∉ gl) →
  DkI (jh D gl acc).1 n∧∀ G,(jh D gl acc).2.2 = some G→GrI (jh D gl acc).1 G 0∧G.map (fun x=>x.g) = acc.map (fun x=>x.g)++gl
 | [],D,acc,hF,hA,hI,_,_,hacc,_=>⟨hI,fun G h=>by cases h; exact ⟨hacc,by simp [jh]⟩⟩
 | g::gl,D,acc,hF,hA,hI,hnd,hg,hacc,hnot=>by
  obtain ⟨n1,n2⟩:=List.nodup_cons.1 hnd
  obtain ⟨g0,g3⟩:=hg g (by simp)
  obtain ⟨l1,l2,l3,l4,l5⟩:=zYk (g:=g) hF hA hI g0 g3
  rw [zEz]
  have hvok:∀ W p V,(jL D g).2.2 = some (W,p,V)→W = ((uG (yQ g) 40960).load D).2.1∧VOk V:=fun W p V h=>by
   unfold jL at h
   split at h
   ·cases h
   split at h
   ·cases h
   ·rename_i x hx
    simp only [Option.some.injEq,Prod.mk.injEq] at h
    obtain ⟨h1,_,h2⟩:=h
    exact ⟨h1.symm,by rw [← h2]; exact VOk.nil.all hx⟩
  have hD1:(jL D g).1 = ((uG (yQ g) 40960).load D).1:=by
   unfold jL
   split
   ·rfl
   split <;> rfl
  generalize jL D g = R at *
  obtain ⟨D1,c,o⟩:=R
  simp only at hD1 hvok ⊢
  subst hD1
  cases o with
  | none=>exact ⟨l1,fun G h=>by cases h⟩
  | some x=>
   obtain ⟨W,p,V⟩:=x
   obtain ⟨rfl,hV⟩:=hvok W p V rfl
   simp only
   have:=zM0 gl _ (acc++[⟨g,((uG (yQ g) 40960).load D).2.1,p,V⟩]) l3 l2 l1 n2 (fun y hy=>hg y (by simp [hy])) (fun y hy=>?_) (fun y hy=>?_)
   ·refine ⟨this.1,fun G h=>⟨(this.2 G h).1,?_⟩⟩
    rw [(this.2 G h).2]
    simp
   ·rcases List.mem_append.1 hy with hy | hy
    ·exact ⟨l4.lg g0 g3 (hacc y hy).1 fun e=>hnot y hy (by rw [e]; simp),(hacc y hy).2⟩
    ·simp only [List.mem_singleton] at hy
     subst hy
     exact ⟨l5,hV⟩
   ·rcases List.mem_append.1 hy with hy | hy
    ·exact fun h=>hnot y hy (by simp [h])
    ·simp only [List.mem_singleton] at hy
     subst hy
     exact n1
theorem zZ3 (ep:Nat) (v:Bool) (h:ep < 18446744073709551616):(yj (xg ep v)).length ≤ 6000:=Nat.le_trans (lpk h) (by omega)
theorem zRB {D:zC} {n:Nat} {nm x:List UInt8} (hnm:nm = uD∨nm = STATE) (hI:DkI D n) (hx:(yj x).length ≤ 6000) {k:Nat} (hk:(yj x).length ≤ k):DkI (D.save nm x).1 (n + k)∧(D.a.left = -1→(D.save nm x).1.a = D.a)∧(D.a.left = -1→zFw D→zFw (D.save nm x).1)∧((D.save nm x).1.a.down = false→D.a.down = false)∧∀ g i,zO (zM (yQ g) i) (D.save nm x).1.files = zO (zM (yQ g) i) D.files:=by
 have hm:∀ m,m = nm∨m = zm nm→m ∈ S4:=fun m h=>by
  rcases hnm with rfl | rfl <;> rcases h with rfl | rfl <;> simp
 obtain ⟨s1,s2⟩:=zWl hI.ok hx fun m h=>hI.sv m (hm m h)
 have hpf:∀ g i,zO (zM (yQ g) i) (D.save nm x).1.files = zO (zM (yQ g) i) D.files:=fun g i=>s1.oth _ (fun e=>zFv g i _ (hm nm (.inl rfl)) e.symm) fun e=>zFv g i _ (hm (zm nm) (.inr rfl)) e.symm
 have hu:=s1.used
 have hu2:=hI.used
 refine ⟨⟨zSD hI.ok,by omega,fun m h=>?_,fun g h0 h3 i hi hne=>?_⟩,s1.fr,s2,s1.dn,hpf⟩
 ·by_cases e:m = nm∨m = zm nm
  ·exact s1.len m e
  ·rw [fg_eq (s1.oth m (fun h=>e (.inl h)) fun h=>e (.inr h))]
   exact hI.sv m h
 ·rw [fg_eq (hpf g i)]
  rw [hpf] at hne
  exact hI.parts g h0 h3 i hi hne
theorem zQE {D D':zC} {G:List GM} {c:Nat} (h:GrI D G c) (h1:D'.a.down = false→D.a.down = false) (h2:∀ g i,zO (zM (yQ g) i) D'.files = zO (zM (yQ g) i) D.files):GrI D' G c:=fun x hx=>⟨(h x hx).1.touch h1 fun i _=>h2 _ _,(h x hx).2⟩
theorem zQF {D:zC} {n clock:Nat} {b:List UInt8} (hc:clock < 18446744073709551616) (hF:Free D) (hA:zFw D) (hI:DkI D n):DkI (j5 D clock b).1 (n + 40)∧Free (j5 D clock b).1∧zFw (j5 D clock b).1:=by
 unfold j5
 split
 ·exact ⟨hI.up (by omega),hF,hA⟩
 split
 ·exact ⟨hI.up (by omega),hF,hA⟩
 ·rename_i h
  have hb:=(zCd b).1
  have he:max (qm b).1 clock + 1 < 18446744073709551616:=by omega
  obtain ⟨s1,s2,s3,_,_⟩:=zRB (k:=40) (x:=xg (max (qm b).1 clock + 1) (decide ((xR (qm b).2.2).1 = 1))) (.inl rfl) hI (zZ3 _ _ he) (lpk he)
  have ha:=s2 hF.left
  exact ⟨s1,⟨by rw [ha]; exact hF.left,by rw [ha]; exact hF.down⟩,s3 hF.left hA⟩
theorem zWn {D:zC} {n clock:Nat} (hc:clock < 18446744073709551616) (hF:Free D) (hA:zFw D) (hI:DkI D n):DkI (uN D clock).1 (n + 40)∧Free (uN D clock).1∧zFw (uN D clock).1:=by
 unfold uN
 split
 ·exact zQF hc hF hA hI
 split
 ·exact ⟨hI.up (by omega),hF,hA⟩
 ·exact zQF hc hF hA hI
theorem zWo {gl:List Int} (h:zFK gl ≠ true):gl.Nodup∧(∀ g ∈ gl,0 ≤ g∧g ≤ 3):=by
 unfold zFK at h
 simp only [ne_eq,Bool.or_eq_true,decide_eq_true_eq,Bool.not_eq_true',decide_eq_false_iff_not,List.any_eq_true,not_or,not_exists,not_and,Decidable.not_not] at h
 refine ⟨h.1.2,fun g hg=>?_⟩
 have:=h.2 g hg
 omega
theorem zWp {D:zC} {n clock:Nat} {gl:List Int} (hc:clock < 18446744073709551616) (hF:Free D) (hA:zFw D) (hI:DkI D n):DkI (zBp D gl clock).1 (n + 40)∧∀ ep v G,(zBp D gl clock).2.2 = some (ep,v,G)→GrI (zBp D gl clock).1 G 0:=by
 obtain ⟨b1,b2,b3⟩:=zWn hc hF hA hI
 unfold zBp
 split
 ·exact ⟨hI.up (by omega),fun ep v G h=>by cases h⟩
 rename_i hb
 split
 ·exact ⟨b1,fun ep v G h=>by cases h⟩
 ·obtain ⟨c1,c2⟩:=zWo hb
  obtain ⟨o1,o2⟩:=zM0 gl (uN D clock).1 [] b2 b3 b1 c1 c2 (fun x hx=>by cases hx) (fun x hx=>by cases hx)
  refine ⟨o1,fun ep v G h=>?_⟩
  simp only [Option.map_eq_some_iff,Prod.mk.injEq] at h
  obtain ⟨G',h1,_,_,rfl⟩:=h
  exact (o2 _ h1).1
theorem zQG {D:zC} {n:Nat} (hI:DkI D n) {m:List UInt8} (hm:m ∈ S4):(D.read m).1.length ≤ 6000:=by
 have h:=hI.sv m hm
 unfold zC.read
 split
 ·exact Nat.zero_le _
 cases hx:zO m D.files with
 | none=>exact Nat.zero_le _
 | some f=>rw [zBs hx] at h; exact h
theorem zZ4 {room:Int} (h1:1 ≤ room) (h2:room ≤ 1048576):DkI (zC.new room) 0∧zFw (zC.new room):=⟨⟨zSG h1 h2,Nat.le_refl _,fun m _=>Nat.zero_le _,fun g _ _ i _ h=>absurd rfl h⟩,fun m=>rfl⟩
theorem zWq {D:zC} {n:Nat} {c:Int} (hI:DkI D n) (ho:OkD { D with a:={ D.a with left:=c } }):DkI { D with a:={ D.a with left:=c } } n:=⟨ho,hI.used,hI.sv,hI.parts⟩
end
section
open Go Go.Sep Go.Sep.Bt
section
variable {D:zC} {G:List GM} {v:Bool} {g' fr sl:Int} {b c n:Nat} {xv:List UInt8}
theorem zOO:∀ {G:List GM} {x:GM},zJt g' G = some x→∃ A C,G = A++x::C∧x.g = g'∧∀ a ∈ A,a.g ≠ g'
 | [],x,h=>by cases h
 | a::G,x,h=>by
  unfold zJt at h
  split at h
  ·rename_i e
   cases h
   exact ⟨[],G,rfl,e,by simp⟩
  ·rename_i e
   obtain ⟨A,C,rfl,h2,h3⟩:=zOO h
   exact ⟨a::A,C,rfl,h2,List.forall_mem_cons.2 ⟨e,h3⟩⟩
theorem zOP {A C:List GM} {x:GM} {r:List UInt8} {f:GM→GM} (hI:DkI D n) (hG:GrI D (A++x::C) c) (hnd:((A++x::C).map fun x=>x.g).Nodup) (hr:r.length ≤ 4096) (hf1:(f x).g = x.g) (hf2:(f x).W = (qN x.W D r).2.1) (hf3:VOk (f x).V) :
  DkI (qN x.W D r).1 (n + 4102)∧GrI (qN x.W D r).1 (A++f x::C) (c + 1):=by
 obtain ⟨hL,hV⟩:=hG x (by simp)
 obtain ⟨n1,n2,n3⟩:=zYj hI hL hr
 have hne:∀ y,y ∈ A∨y ∈ C→y.g ≠ x.g:=fun y hy=>by
  rw [List.map_append,List.map_cons] at hnd
  obtain ⟨d1,d2,d3⟩:=List.nodup_append.1 hnd
  rcases hy with hy | hy
  ·exact d3 y.g (List.mem_map_of_mem hy) x.g (by simp)
  ·exact fun e=>(List.nodup_cons.1 d2).1 (by rw [← e]; exact List.mem_map_of_mem hy)
 have oth:∀ y,y ∈ A∨y ∈ C→LgI (qN x.W D r).1 y.W y.g (c + 1)∧VOk y.V:=fun y hy=>by
  obtain ⟨l1,l2⟩:=hG y (by rcases hy with hy | hy <;> simp [hy])
  exact ⟨(n3.lg hL.g0 hL.g3 l1 (hne y hy)).up (by omega),l2⟩
 refine ⟨n1,fun y hy=>?_⟩
 rcases List.mem_append.1 hy with hy | hy
 ·exact oth y (.inl hy)
 rcases List.mem_cons.1 hy with rfl | hy
 ·rw [hf1,hf2]
  exact ⟨n2,hf3⟩
 ·exact oth y (.inr hy)
theorem GrI.up {c':Nat} (h:GrI D G c) (hc:c ≤ c'):GrI D G c':=fun x hx=>⟨(h x hx).1.up hc,(h x hx).2⟩
theorem zTE (fr:Int) (V:List qU):(jv fr V).length ≤ V.length:=by
 unfold jv
 exact (List.dropWhile_sublist _).length_le
theorem zWr (hI:DkI D n) (hG:GrI D G c) (hnd:(G.map fun x=>x.g).Nodup) (hb:b < 18446744073709551616) :
  DkI (zBF D G v g' b fr).D (n + 4102)∧GrI (zBF D G v g' b fr).D (zBF D G v g' b fr).G (c + 1)∧(zBF D G v g' b fr).G.map (fun x=>x.g) = G.map (fun x=>x.g)∧(zBF D G v g' b fr).votes.length ≤ 64:=by
 have triv:DkI D (n + 4102)∧GrI D G (c + 1):=⟨hI.up (by omega),hG.up (by omega)⟩
 have hrl:=zIL hb
 cases hv:v with
 | false=>rw [zGK (.inl rfl)]; exact ⟨triv.1,triv.2,rfl,by simp⟩
 | true=>
  cases hg:zJt g' G with
  | none=>
   unfold zBF
   rw [if_neg (by decide),hg]
   exact ⟨triv.1,triv.2,rfl,by simp⟩
  | some x=>
   obtain ⟨A,C,rfl,hx,hA⟩:=zOO hg
   obtain ⟨_,hV⟩:=hG x (by simp)
   have hvl:=zWY hV.1 hV.2
   have hvf:=zTE fr x.V
   rw [zLc rfl hx hA]
   split
   ·exact ⟨triv.1,triv.2,rfl,by simp⟩
   split
   ·exact ⟨triv.1,triv.2,rfl,by simp only; omega⟩
   split
   ·have:=zOP (r:=zAH b) (f:=fun x=>{ x with W:=(qN x.W D (zAH b)).2.1 }) hI hG hnd (by omega) rfl rfl hV
    exact ⟨this.1,this.2,by simp,by simp⟩
   ·have:=zOP (r:=zAH b) (f:=fun x=>{ x with W:=(qN x.W D (zAH b)).2.1,p:=(b:Int) }) hI hG hnd (by omega) rfl rfl hV
    exact ⟨this.1,this.2,by simp,by simp only; omega⟩
theorem zYl (hI:DkI D n) (hG:GrI D G c) (hnd:(G.map fun x=>x.g).Nodup) (hb:b < 18446744073709551616) :
  DkI (zEd D G v g' sl b xv).D (n + 4102)∧GrI (zEd D G v g' sl b xv).D (zEd D G v g' sl b xv).G (c + 1)∧(zEd D G v g' sl b xv).G.map (fun x=>x.g) = G.map (fun x=>x.g):=by
 have triv:DkI D (n + 4102)∧GrI D G (c + 1):=⟨hI.up (by omega),hG.up (by omega)⟩
 cases hv:v with
 | false=>rw [zEe (.inl rfl)]; exact ⟨triv.1,triv.2,rfl⟩
 | true=>
  cases hg:zJt g' G with
  | none=>
   unfold zEd
   rw [if_neg (by decide),hg]
   exact ⟨triv.1,triv.2,rfl⟩
  | some x=>
   obtain ⟨A,C,rfl,hx,hA⟩:=zOO hg
   obtain ⟨_,hV⟩:=hG x (by simp)
   by_cases hc:(b:Int) < x.p∨sl < 0∨64 ≤ sl
   ·rw [zEe (.inr (.inr ⟨A,x,C,rfl,hx,hA,hc⟩))]
    exact ⟨triv.1,triv.2,rfl⟩
   rw [zOG rfl hx hA hc]
   split
   ·exact ⟨triv.1,triv.2,rfl⟩
   rename_i hl
   have hrl:=zGJ (s:=sl.toNat) (b:=b) (x:=xv) (by omega) hb (by omega)
   split
   ·have:=zOP (r:=uo sl.toNat b xv) (f:=fun x=>{ x with W:=(qN x.W D (uo sl.toNat b xv)).2.1 }) hI hG hnd (by omega) rfl rfl hV
    exact ⟨this.1,this.2,by simp⟩
   ·have:=zOP (r:=uo sl.toNat b xv) (f:=fun x=>{ x with W:=(qN x.W D (uo sl.toNat b xv)).2.1,p:=(b:Int),V:=zBE (sl,(b:Int),xv) x.V }) hI hG hnd (by omega) rfl rfl (hV.put (by simp only; omega) (by simp only; omega))
    exact ⟨this.1,this.2,by simp⟩
theorem zI9 {r:List UInt8} {x:GM} (hI:DkI D n) (hn:n ≤ 330000) (hG:GrI D G c) (hc:c ≤ 100000) (hx:x ∈ G) (hr:r.length ≤ 4096):OkW x.W∧OkW (x.W.app D r).2.1∧x.V.length < 1000000∧(x.W.used = zGZ D (zM x.W.name x.W.part)∨D.a.down = true∧x.W.part ≤ 8):=by
 obtain ⟨hL,hV⟩:=hG x hx
 have hvl:=zWY hV.1 hV.2
 refine ⟨hL.okW (by omega),(zXZ hI hL hr).2.1.okW (by omega),by omega,?_⟩
 cases hd:D.a.down with
 | false=>
  obtain ⟨_,h2,_⟩:=hL.hi hd
  left
  rw [hL.name]
  exact h2
 | true=>exact .inr ⟨rfl,hL.zZ2 hI hn⟩
end
section
variable {B:World} {Γ Δ:List zB} {kp d kq m ep mb:Nat} {v:Bool} {D M:zC} {E:List gE} {F:List GE} {gs ls vs:Sl} {gl:List Int}
abbrev zCM (kp d kq m ep:Nat) (v:Bool) (mb:Nat) (gs ls vs:Sl) (E:List gE) (F:List GE) (D M:zC) (Γ:List zB):List zB:=kaS kp d ep v mb E D (kdS kq m ep v gs ls vs F M Γ)
theorem zSM {Γ0:List zB} {s:Sl} {xs:List UInt8} {q:ByteArray→K} (hr:∀ w,Holds B Γ0 w→RdB w s xs) (h:HG B Γ (q (bs xs))):HG B Γ (RdS Tryz.prog (Holds B Γ0) (convert zL jN s.val) Value.string q):=fun w hw=>zYS (by kernel_rfl) hr (h w hw)
theorem zJA {o5:Nat} {x:zIO} {q:Bool→K} (hEF:F.map (fun e=>e.2.2) = E.map fun e=>e.2) (hgr:RdC B gs 1 (gl.map (Value.int .i64))) (hgn:gs.n = gl.length) (hgl:gl.length ≤ 1000) (hF:F.map (fun e=>e.2.2.g) = gl) (h:HG B (zCM kp d kq m ep v mb gs ls vs E F D M Γ) (q true)) :
  HG B (blk o5 (.cells (qc x).toArray zY (0,0))::zCM kp d kq m ep v mb gs ls vs E F D M Γ) (yT.s1 q (some ⟨kp,0,none⟩) (some ⟨kq,0,none⟩) ⟨o5,0,none⟩):=by
 unfold yT.s1
 refine zAQ ?_
 refine zKk [blk o5 (.cells (qc x).toArray zY (0,0)),DkR kq m ep v gs ls vs] ?_
 refine jR (b:=o5) (off:=1) (l:=qc x) (x:=x.1.group) ?_
 refine jR (b:=o5) (off:=1) (l:=qc x) (x:=x.1.group) ?_
 refine zI (Δ:=KpR kp d ep v mb::qM (Value.int .i64) Value.pointer mb (gmM E)::gmO d E::zJ d D::kdS kq m ep v gs ls vs F M (blk o5 (.cells (qc x).toArray zY (0,0))::Γ)) ?_
 refine zOE ?_
 refine zBb ?_
 refine zI (Δ:=kdS kq m ep v gs ls vs F M (blk o5 (.cells (qc x).toArray zY (0,0))::KpR kp d ep v mb::qM (Value.int .i64) Value.pointer mb (gmM E)::gmO d E::zJ d D::Γ)) ?_
 refine zOJ (fun w hw=>hgr.old hw) hgn hgl hF ?_
 refine zBb ?_
 rw [hEF]
 refine s_t ?_ (by simp)
 refine xM ?_
 refine jR (b:=kq) (off:=1) (l:=dkL m ep v gs ls vs) (x:=(ep:Int)) ?_
 refine vH kp ?_
 refine zLZ ?_
 refine zBb ?_
 refine s_t ?_ (by simp)
 refine jR (b:=kq) (off:=2) (l:=dkL m ep v gs ls vs) (x:=v) ?_
 refine zLa ?_
 refine zBb ?_
 unfold yT.s2
 rw [show (v == v) = true by simp]
 exact zI h
end
end
section
open Go Go.Sep Go.Sep.Bt
section
variable {B:World} {Γ Δ:List zB} {kp d kq m ep mb:Nat} {v:Bool} {D M:zC} {E:List gE} {F:List GE} {gs ls vs:Sl} {gl:List Int}
theorem zVV {x:List UInt8} (h:x.length ≤ 5000):(yj x).length ≤ 5100:=by
 have h2:=zC5 _ x rfl
 have h3:=xO 9 x.length (by omega)
 unfold yj
 rw [List.length_append,qV]
 have:(x.length + 1023) / 1024 ≤ 5:=by omega
 omega
theorem zVW {q:Sl→Int→K} (hD:OkD D) (hl:(D.read STATE).1.length ≤ 100000) (h:∀ f,HG B (Bytes zF f (zBS (D.read STATE)).1::KpR kp d ep v mb::zJ d D::Γ) (q f (zBS (D.read STATE)).2)):HG B (KpR kp d ep v mb::zJ d D::Γ) (jO.call (some ⟨kp,0,none⟩) q):=by
 refine fun w hw=>zEr _ _ _ ?_
 refine hg hw ?_
 clear hw w
 unfold jO
 refine xM ?_
 refine yE (b:=kp) (l:=kpL d ep v mb) (x:=some ⟨d,0,none⟩) ?_
 refine jF (zJ d D) ?_
 refine fun w hw=>zFB (n:=STATE) hD hl hw fun f w hw=>?_
 refine hg hw ?_
 clear hw w
 exact zI (h f)
theorem zVX {q:Sl→Int→K} (hD:OkD D) (hR:x9 D M) (hl:(D.read STATE).1.length ≤ 100000) (h:∀ f,HG B (Bytes zF f (zBS (D.read STATE)).1::zk m M::Γ) (q f (zBS (D.read STATE)).2)):HG B (zk m M::Γ) (zBL.call (some ⟨m,0,none⟩) (bs STATE) q):=fun w hw=>by
 have hrd:=zIE (n:=STATE) hR hD
 refine zEc (n:=STATE) (hR.ok hD) (by rw [hrd]; exact hl) hw fun f w hw=>?_
 rw [hrd] at hw ⊢
 exact h f w hw
theorem zTF {x:zIO} {c n:Nat} {q:Bool→K} (hx:zOL B x) (hf:zOM x) (hI:DkI D n) (hn:n + 5100 ≤ 330000) (hG:GrI D (E.map fun e=>e.2) c) (hc:c + 1 ≤ 100000) (hEF:F.map (fun e=>e.2.2) = E.map fun e=>e.2) (hR:x9 D M) (hgr:RdC B gs 1 (gl.map (Value.int .i64))) (hgn:gs.n = gl.length) (hgl:gl.length ≤ 1000) (hnd:gl.Nodup) (hF:F.map (fun e=>e.2.2.g) = gl)
  (h:∀ E' F' D' M',GrI D' (E'.map fun e=>e.2) (c + 1)→DkI D' (n + 5100)→x9 D' M'→F'.map (fun e=>e.2.2) = E'.map (fun e=>e.2)→F'.map (fun e=>e.2.2.g) = gl→HG B (zCM kp d kq m ep v mb gs ls vs E' F' D' M' Γ) (q true)) :
  HG B (zCM kp d kq m ep v mb gs ls vs E F D M Γ) (yT.call (some ⟨kp,0,none⟩) (some ⟨kq,0,none⟩) (qc x).toArray q):=by
 have hFE:F.map (fun e=>e.2.2.g) = (E.map fun e=>e.2).map fun x=>x.g:=by rw [← hEF,List.map_map]; rfl
 have hnd':((E.map fun e=>e.2).map fun x=>x.g).Nodup:=by rw [← hFE,hF]; exact hnd
 refine fun w hw=>zL1 _ _ _ _ _ ?_
 refine hg hw ?_
 clear hw w
 unfold yT
 refine ql fun o5=>?_
 refine yE (b:=o5) (l:=qc x) (x:=x.1.kind) ?_
 refine vI rfl ?_
 have hb:=hx.ballot
 have gF:∀ {F':List GE} {G:List GM},F'.map (fun e=>e.2.2) = G→G.map (fun x=>x.g) = (E.map fun e=>e.2).map (fun x=>x.g)→F'.map (fun e=>e.2.2.g) = gl:=fun {F' G} h1 h2=>by
  rw [← hF,hFE,← h2,← h1,List.map_map]; rfl
 refine yA (fun _=>?_) fun _=>?_
 ·obtain ⟨p1,p2,p3,p4⟩:=zWr (v:=v) (g':=x.1.group) (fr:=x.1.slot) hI hG hnd' hb
  have hrl:=zIL hb
  refine yE (b:=o5) (off:=1) (l:=qc x) (x:=x.1.group) ?_
  refine yE (b:=o5) (off:=4) (l:=qc x) (x:=(x.1.ballot:Int)) ?_
  refine yE (b:=o5) (off:=2) (l:=qc x) (x:=x.1.slot) ?_
  refine zI (Δ:=kaS kp d ep v mb E D (kdS kq m ep v gs ls vs F M (blk o5 (.cells (qc x).toArray zY (0,0))::Γ))) ?_
  refine zOH hb hI.ok (fun e he=>?_) fun s E' hE' _=>?_
  ·obtain ⟨g1,g2,g3,_⟩:=zI9 (r:=zAH x.1.ballot) hI (by omega) hG (by omega) (List.mem_map_of_mem he) (by omega)
   exact ⟨g1,g2,g3⟩
  refine yE (b:=o5) (off:=1) (l:=qc x) (x:=x.1.group) ?_
  refine yE (b:=o5) (off:=4) (l:=qc x) (x:=(x.1.ballot:Int)) ?_
  refine yE (b:=o5) (off:=2) (l:=qc x) (x:=x.1.slot) ?_
  refine zI (Δ:=kdS kq m ep v gs ls vs F M (SlC yB 3 s ((zBF D (E.map fun e=>e.2) v x.1.group x.1.ballot x.1.slot).votes.flatMap qo)::kaS kp d ep v mb E' (zBF D (E.map fun e=>e.2) v x.1.group x.1.ballot x.1.slot).D (blk o5 (.cells (qc x).toArray zY (0,0))::Γ))) ?_
  refine zL3 hb hI.ok hR (fun w hw=>hgr.old hw) hgn hgl hF (fun e he=>?_) fun s2 F' M' hF' hR'=>?_
  ·obtain ⟨g1,g2,g3,g4⟩:=zI9 (r:=zAH x.1.ballot) hI (by omega) hG (by omega) (x:=e.2.2) (by rw [← hEF]; exact List.mem_map_of_mem he) (by omega)
   exact ⟨g1,g2,g4⟩
  rw [hEF] at hF' hR' ⊢
  generalize zBF D (E.map fun e=>e.2) v x.1.group x.1.ballot x.1.slot = R at *
  refine s_f ?_ (by simp)
  refine s_f ?_ (by simp)
  refine zI (Δ:=SlC z8 3 s2 (R.votes.flatMap qo)::SlC yB 3 s (R.votes.flatMap qo)::blk o5 (.cells (qc x).toArray zY (0,0))::zCM kp d kq m ep v mb gs ls vs E' F' R.D M' Γ) ?_
  refine zTD (by omega) ?_
  unfold yT.s3
  refine s_f ?_ (by rfl)
  refine zJA (by rw [hF',hE']) hgr hgn hgl (gF hF' p3) ?_
  exact h E' F' R.D M' (by rw [hE']; exact p2) (p1.up (by omega)) hR' (by rw [hF',hE']) (gF hF' p3)
 refine yA (fun _=>?_) fun _=>?_
 ·have hsl:=zQG hI (m:=STATE) (by simp)
  have hpl:=zVV hf.value
  obtain ⟨s1,_,_,s4,s5⟩:=zRB (k:=5100) (x:=x.1.value) (.inr rfl) hI (by omega) (by omega)
  have hG':GrI (D.save STATE x.1.value).1 (E.map fun e=>e.2) (c + 1):=(zQE hG s4 s5).up (by omega)
  have hvl:=hf.value
  refine zI (Δ:=KpR kp d ep v mb::zJ d D::qM (Value.int .i64) Value.pointer mb (gmM E)::gmO d E::kdS kq m ep v gs ls vs F M (blk o5 (.cells (qc x).toArray zY (0,0))::Γ)) ?_
  refine zVW hI.ok (by omega) fun f1=>?_
  refine xM ?_
  refine yE (b:=kq) (l:=dkL m ep v gs ls vs) (x:=some ⟨m,0,none⟩) ?_
  refine jF (zk m M) ?_
  refine zVX hI.ok hR (by omega) fun f2=>?_
  generalize zBS (D.read STATE) = R
  refine zAQ ?_
  refine zKk [Bytes zF f1 R.1,Bytes zF f2 R.1,blk o5 (.cells (qc x).toArray zY (0,0)),DkR kq m ep v gs ls vs] ?_
  refine s_f ?_ (by simp)
  refine zSM (fun w hw=>Bytes.rd hw List.mem_cons_self) ?_
  refine zSM (fun w hw=>Bytes.rd hw (List.mem_cons_of_mem _ List.mem_cons_self)) ?_
  refine s_f ?_ (by simp)
  refine jR (b:=o5) (off:=5) (l:=qc x) (x:=bs x.1.value) ?_
  refine jR (b:=kq) (l:=dkL m ep v gs ls vs) (x:=some ⟨m,0,none⟩) ?_
  refine jR (b:=o5) (off:=5) (l:=qc x) (x:=bs x.1.value) ?_
  have fin:∀ {M':zC} {Ψ:List zB},[Drops Ψ (zCM kp d kq m ep v mb gs ls vs E F (D.save STATE x.1.value).1 M' (blk o5 (.cells (qc x).toArray zY (0,0))::Γ))]→x9 (D.save STATE x.1.value).1 M'→HG B Ψ (yT.s4 q (some ⟨kp,0,none⟩) ⟨kq,0,none⟩ ⟨o5,0,none⟩ (decide ((D.save STATE x.1.value).2 ≠ (D.save STATE x.1.value).2))):=fun {M' Ψ} _ hM'=>by
   unfold yT.s4
   refine s_f ?_ (by simp)
   refine zI (Δ:=zCM kp d kq m ep v mb gs ls vs E F (D.save STATE x.1.value).1 M' (blk o5 (.cells (qc x).toArray zY (0,0))::Γ)) ?_
   refine zI (Δ:=blk o5 (.cells (qc x).toArray zY (0,0))::zCM kp d kq m ep v mb gs ls vs E F (D.save STATE x.1.value).1 M' Γ) ?_
   refine zJA hEF hgr hgn hgl hF ?_
   exact h E F _ M' hG' s1 hM' hEF hF
  have sv2:∀ {t137:Sl} {Ψ:List zB},[Drops Ψ (zk m M::SlC zF 1 t137 (x.1.value.map qy)::KpR kp d ep v mb::zJ d (D.save STATE x.1.value).1::qM (Value.int .i64) Value.pointer mb (gmM E)::gmO d E::DkR kq m ep v gs ls vs::dkE m ls vs F (blk o5 (.cells (qc x).toArray zY (0,0))::Γ))]→HG B Ψ (xB.call (some ⟨m,0,none⟩) (bs STATE) t137 fun t138=>yT.s4 q (some ⟨kp,0,none⟩) ⟨kq,0,none⟩ ⟨o5,0,none⟩ (decide ((D.save STATE x.1.value).2 ≠ t138))):=fun {t137 Ψ} _=>by
   refine zI (Δ:=zk m M::SlC zF 1 t137 (x.1.value.map qy)::KpR kp d ep v mb::zJ d (D.save STATE x.1.value).1::qM (Value.int .i64) Value.pointer mb (gmM E)::gmO d E::DkR kq m ep v gs ls vs::dkE m ls vs F (blk o5 (.cells (qc x).toArray zY (0,0))::Γ)) ?_
   refine vw t137 fun _ c2 _ _=>?_
   refine zLS hI.ok hR (by omega) (by simp) c2 (fun w hw=>Bytes.rd hw List.mem_cons_self) fun M' hM'=>?_
   exact fin hM'
  have sv1:∀ {t129:Sl} {Ψ Θ:List zB} {Q:Int→K},[Drops Ψ (KpR kp d ep v mb::zJ d D::SlC zF 1 t129 (x.1.value.map qy)::Θ)]→HG B (KpR kp d ep v mb::zJ d (D.save STATE x.1.value).1::SlC zF 1 t129 (x.1.value.map qy)::Θ) (Q (D.save STATE x.1.value).2)→HG B Ψ (xu.call (some ⟨kp,0,none⟩) t129 Q):=fun {t129 Ψ Θ Q} _ hq=>by
   refine zI (Δ:=KpR kp d ep v mb::zJ d D::SlC zF 1 t129 (x.1.value.map qy)::Θ) ?_
   refine vw t129 fun _ c2 _ _=>?_
   exact zP6 hI.ok (by omega) c2 (fun w hw=>Bytes.rd hw List.mem_cons_self) fun _=>hq
  refine zNg ?_ ?_
  ·refine zE0 (E:=zF) (xs:=x.1.value) fun t129 _=>?_
   refine zBb ?_
   refine zNg ?_ ?_
   ·refine sv1 (Θ:=zk m M::qM (Value.int .i64) Value.pointer mb (gmM E)::gmO d E::DkR kq m ep v gs ls vs::dkE m ls vs F (Bytes zF f1 R.1::Bytes zF f2 R.1::blk o5 (.cells (qc x).toArray zY (0,0))::Γ)) ?_
    refine zBb ?_
    refine zE0 (E:=zF) (xs:=x.1.value) fun t137 _=>?_
    refine zBb ?_
    exact sv2
   ·refine zE0 (E:=zF) (xs:=x.1.value) fun t137 _=>?_
    refine zBb ?_
    refine sv1 (Θ:=zk m M::qM (Value.int .i64) Value.pointer mb (gmM E)::gmO d E::DkR kq m ep v gs ls vs::dkE m ls vs F (SlC zF 1 t137 (x.1.value.map qy)::Bytes zF f1 R.1::Bytes zF f2 R.1::blk o5 (.cells (qc x).toArray zY (0,0))::Γ)) ?_
    refine zBb ?_
    exact sv2
  ·refine zE0 (E:=zF) (xs:=x.1.value) fun t137 _=>?_
   refine zBb ?_
   refine zE0 (E:=zF) (xs:=x.1.value) fun t129 _=>?_
   refine zBb ?_
   refine sv1 (Θ:=zk m M::qM (Value.int .i64) Value.pointer mb (gmM E)::gmO d E::DkR kq m ep v gs ls vs::dkE m ls vs F (SlC zF 1 t137 (x.1.value.map qy)::Bytes zF f1 R.1::Bytes zF f2 R.1::blk o5 (.cells (qc x).toArray zY (0,0))::Γ)) ?_
   refine zBb ?_
   exact sv2
 ·obtain ⟨p1,p2,p3⟩:=zYl (v:=v) (g':=x.1.group) (sl:=x.1.slot) (xv:=x.1.value) hI hG hnd' hb
  have hrl:∀ i:Nat,i < 64→x.1.value.length ≤ 4000→(uo i x.1.ballot x.1.value).length ≤ 4096:=fun i h1 h2=>zGJ h1 hb h2
  refine yE (b:=o5) (off:=1) (l:=qc x) (x:=x.1.group) ?_
  refine yE (b:=o5) (off:=2) (l:=qc x) (x:=x.1.slot) ?_
  refine yE (b:=o5) (off:=4) (l:=qc x) (x:=(x.1.ballot:Int)) ?_
  refine yE (b:=o5) (off:=5) (l:=qc x) (x:=bs x.1.value) ?_
  refine zI (Δ:=kaS kp d ep v mb E D (kdS kq m ep v gs ls vs F M (blk o5 (.cells (qc x).toArray zY (0,0))::Γ))) ?_
  refine zQB (sl:=x.1.slot) (xv:=x.1.value) hb hI.ok (fun e he=>?_) fun E' hE' _=>?_
  ·obtain ⟨g1,_,g3,_⟩:=zI9 (r:=[]) hI (by omega) hG (by omega) (List.mem_map_of_mem he) (by simp)
   exact ⟨g1,fun i h1 h2=>(zI9 (r:=uo i x.1.ballot x.1.value) hI (by omega) hG (by omega) (List.mem_map_of_mem he) (hrl i h1 h2)).2.1,g3⟩
  refine yE (b:=o5) (off:=1) (l:=qc x) (x:=x.1.group) ?_
  refine yE (b:=o5) (off:=2) (l:=qc x) (x:=x.1.slot) ?_
  refine yE (b:=o5) (off:=4) (l:=qc x) (x:=(x.1.ballot:Int)) ?_
  refine yE (b:=o5) (off:=5) (l:=qc x) (x:=bs x.1.value) ?_
  refine zI (Δ:=kdS kq m ep v gs ls vs F M (kaS kp d ep v mb E' (zEd D (E.map fun e=>e.2) v x.1.group x.1.slot x.1.ballot x.1.value).D (blk o5 (.cells (qc x).toArray zY (0,0))::Γ))) ?_
  refine zOK (sl:=x.1.slot) (xv:=x.1.value) hb hI.ok hR (fun w hw=>hgr.old hw) hgn hgl hF (fun e he=>?_) fun F' M' hF' hR'=>?_
  ·have hm:e.2.2 ∈ E.map fun e=>e.2:=by rw [← hEF]; exact List.mem_map_of_mem he
   obtain ⟨g1,_,_,g4⟩:=zI9 (r:=[]) hI (by omega) hG (by omega) hm (by simp)
   exact ⟨g1,fun i h1 h2=>(zI9 (r:=uo i x.1.ballot x.1.value) hI (by omega) hG (by omega) hm (hrl i h1 h2)).2.1,g4⟩
  rw [hEF] at hF' hR' ⊢
  generalize zEd D (E.map fun e=>e.2) v x.1.group x.1.slot x.1.ballot x.1.value = R at *
  refine s_f ?_ (by simp)
  unfold yT.s5
  refine s_f ?_ (by simp)
  refine zI (Δ:=blk o5 (.cells (qc x).toArray zY (0,0))::zCM kp d kq m ep v mb gs ls vs E' F' R.D M' Γ) ?_
  refine zJA (by rw [hF',hE']) hgr hgn hgl (gF hF' p3) ?_
  exact h E' F' R.D M' (by rw [hE']; exact p2) (p1.up (by omega)) hR' (by rw [hF',hE']) (gF hF' p3)
end
end
end Go.Proofs.YtgmbfnboiobeaaaGreat
namespace Go.Proofs.YtgmbfnboiobeaaaGreat
open Go Go.Sep Go.Sep.Bt
theorem zTG (n m:Int) (b:Nat) (hm:(BitVec.ofInt 64 m).toNat ≤ b) (hb:b ≤ 9223372036854775807):0 ≤ bitsOf .and .i64 n m∧bitsOf .and .i64 n m ≤ b:=by
 unfold bitsOf
 simp only
 have h1:((BitVec.ofInt IntKind.i64.bits n &&& BitVec.ofInt IntKind.i64.bits m).toNat) ≤ b:=by
  rw [BitVec.toNat_and]
  exact Nat.le_trans Nat.and_le_right hm
 rw [wrap64 (by omega) (by omega)]
 omega
theorem zM1 (n:Int):∃ c:Nat,IntKind.wrap .u64 n = (c:Int)∧c < 18446744073709551616:=by
 rw [IntKind.wrap]
 simp only [IntKind.bits,IntKind.signed,Bool.false_and,Bool.false_eq_true,if_false]
 exact ⟨(n % 18446744073709551616).toNat,by omega,by omega⟩
structure AlX where
 kp:Nat
 ep:Nat
 mb:Nat
 kq:Nat
 v:Bool
 ls:Sl
 vs:Sl
 E:List gE
 F:List GE
def alS (d m:Nat) (gs:Sl) (D M:zC) (Γ:List zB):Option AlX→List zB
 | none=>zJ d D::zk m M::Γ
 | some a=>zCM a.kp d a.kq m a.ep a.v a.mb gs a.ls a.vs a.E a.F D M Γ
def alI (D:zC) (gl:List Int) (c:Nat):Option AlX→Prop
 | none=>True
 | some a=>GrI D (a.E.map fun e=>e.2) c∧a.F.map (fun e=>e.2.2) = a.E.map (fun e=>e.2)∧a.F.map (fun e=>e.2.2.g) = gl∧gl.Nodup
def alK:Option AlX→Option Addr
 | none=>none
 | some a=>some ⟨a.kp,0,none⟩
def alM:Option AlX→Option Addr
 | none=>none
 | some a=>some ⟨a.kq,0,none⟩
section
variable {B:World} {Γ Δ:List zB} {d m:Nat} {D M:zC} {gs:Sl} {gl:List Int}
theorem alI.up {c c':Nat} {al:Option AlX} (h:alI D gl c al) (hc:c ≤ c'):alI D gl c' al:=by
 cases al with
 | none=>trivial
 | some a=>exact ⟨h.1.up hc,h.2⟩
theorem zM2 {n clock:Nat} {q:Option Addr→Int→Option Addr→Int→K} (hI:DkI D n) (hF:Free D) (hA:zFw D) (hR:x9 D M) (hc:clock < 18446744073709551616) (hr:RdC B gs 1 (gl.map (Value.int .i64))) (hgn:gs.n = gl.length)
  (h:∀ D' M' al code,DkI D' (n + 40)→x9 D' M'→alI D' gl 0 al→HG B (alS d m gs D' M' Γ al) (q (alK al) code (alM al) code)) :
  HG B (zJ d D::zk m M::Γ) (yR.call (some ⟨d,0,none⟩) gs (clock:Int) fun a b=>yg.call (some ⟨m,0,none⟩) gs (clock:Int) fun c e=>q a b c e):=by
 obtain ⟨o1,o2⟩:=zWp (gl:=gl) hc hF hA hI
 have hl:=zQG hI (m:=uD) (by simp)
 refine zVL hI.ok hc (by omega) (fun w hw=>hr.old hw) (fun h0 _=>?_) fun ep v G h0 _ kp mb E hE hEg hnd=>?_
 ·refine vD ?_
  refine zP2 hI.ok hR hc (by omega) (fun w hw=>hr.old hw) hgn (fun _ M' hM'=>?_) fun ep v G h1 kq M' ls vs F hM' hF'=>?_
  ·exact vD (h _ M' none _ o1 hM' trivial)
  ·rw [h0] at h1; cases h1
 ·have hG:=o2 ep v G h0
  refine zI (Δ:=zk m M::kaS kp d ep v mb E (zBp D gl clock).1 Γ) ?_
  refine zP2 hI.ok hR hc (by omega) (fun w hw=>hr.old hw) hgn (fun h1=>?_) fun ep' v' G' h1 kq M' ls vs F hM' hF'=>?_
  ·rw [h0] at h1; cases h1
  ·rw [h0] at h1
   simp only [Option.some.injEq,Prod.mk.injEq] at h1
   obtain ⟨rfl,rfl,rfl⟩:=h1
   subst hE
   have:=h (zBp D gl clock).1 M' (some ⟨kp,ep,mb,kq,v,ls,vs,E,F⟩) 0 o1 hM' ⟨hG,hF',by
    rw [← hEg]
    have e:=congrArg (List.map fun x:GM=>x.g) hF'
    rw [List.map_map,List.map_map] at e
    exact e,hnd⟩
   have this:HG B (zCM kp d kq m ep v mb gs ls vs E F (zBp D gl clock).1 M' Γ) (q (some ⟨kp,0,none⟩) 0 (some ⟨kq,0,none⟩) 0):=this
   exact zI this
structure StD where
 i:Nat
 d:Nat
 m:Nat
 D:zC
 M:zC
 al:Option AlX
theorem zJu {s:Sl} {room:Int} {L:List zIO} {q:Bool→K} (hgs:RdC B gs 1 (gl.map (Value.int .i64))) (hs:RdC B s 7 (L.flatMap qc)) (hL:∀ x ∈ L,zOL B x) (h:HG B Γ (q true)):HG B Γ (zH.call gs room s q):=fun w hw=>by
 refine zFL _ _ _ _ _ ?_
 have hgn:gs.n = gl.length:=by have:=hgs.len; rw [List.length_map] at this; omega
 have hsn:s.n = L.length:=by have:=hs.len; rw [yu qc 7 zGM] at this; omega
 refine hg hw ?_
 clear hw w
 unfold zH
 refine zVP ?_
 refine s_f ?_ (by rfl)
 refine zQ9 (fun w hw=>hs.old hw) hsn (fun x hx=>by have:=(hL x hx).keeps.len; rw [List.length_map] at this; omega) ?_ fun hl60 hfit=>?_
 ·refine s_t ?_ (by rfl)
  unfold zH.s1
  exact s_t h (by rfl)
 refine s_f ?_ (by rfl)
 unfold zH.s1
 refine yA (fun _=>h) fun hl10=>?_
 have hgl:gl.length ≤ 10:=by simp only [decide_eq_false_iff_not] at hl10; omega
 obtain ⟨r0,r1⟩:=zTG room 1048575 1048575 (by decide) (by decide)
 refine vI rfl ?_
 generalize bitsOf .and .i64 room 1048575 = rm at r0 r1
 refine vI (wrap64 (by omega) (by omega)) ?_
 refine zHH (by omega) (by omega) fun d=>?_
 refine vI rfl ?_
 refine vI (e':=1 + rm) (wrap64 (by omega) (by omega)) ?_
 refine fun w hw=>zLy hw fun m w hw=>?_
 refine hg hw ?_
 clear hw w
 refine s_f ?_ (by rfl)
 refine vI rfl ?_
 have S2:∀ {D M:zC},DkI D 40→Free D→zFw D→x9 D M→HG B (zJ d D::zk m M::Γ) (zH.s2 q gs room s (some ⟨d,0,none⟩) (some ⟨m,0,none⟩) false):=fun {D M} hI hF hA hR=>by
  unfold zH.s2
  refine s_f ?_ (by rfl)
  refine vI rfl ?_
  obtain ⟨c,hc1,hc2⟩:=zM1 (bitsOf .and .i64 room 3)
  refine vI hc1 ?_
  refine zM2 hI hF hA hR hc2 hgs hgn fun D1 M1 al code hI1 hR1 hal=>?_
  refine s_f ?_ (by simp)
  have hiso:(!((alK al).isNone == (alM al).isNone)) = false:=by cases al <;> rfl
  refine s_f ?_ hiso
  have filesA:∀ {d m:Nat} {D M:zC} {al:Option AlX} {q:Bool→K},OkD D→x9 D M→HG B (alS d m gs D M Γ al) (q true)→HG B (alS d m gs D M Γ al) (xU.call (some ⟨d,0,none⟩) (some ⟨m,0,none⟩) q):=fun {d m D M al q} hD hR hq=>by
   cases al with
   | none=>exact zLd hD hR hq
   | some a=>
    have hq:HG B (zCM a.kp d a.kq m a.ep a.v a.mb gs a.ls a.vs a.E a.F D M Γ) (q true):=hq
    show HG B (zCM a.kp d a.kq m a.ep a.v a.mb gs a.ls a.vs a.E a.F D M Γ) _
    refine zI (Δ:=zJ d D::zk m M::KpR a.kp d a.ep a.v a.mb::qM (Value.int .i64) Value.pointer a.mb (gmM a.E)::gmO d a.E::DkR a.kq m a.ep a.v gs a.ls a.vs::dkE m a.ls a.vs a.F Γ) ?_
    refine zLd hD hR ?_
    exact zI hq
  refine filesA hI1.ok hR1 ?_
  unfold zH.s3
  refine s_f ?_ (by rfl)
  refine jm (α:=Option Addr×Option Addr×Option Addr×Option Addr×Int) (ι:=StD) (fun y i=>y = (some ⟨i.d,0,none⟩,some ⟨i.m,0,none⟩,alK i.al,alM i.al,(i.i:Int))∧i.i ≤ L.length∧DkI i.D (80 + 5100 * i.i)∧x9 i.D i.M∧alI i.D gl i.i i.al) (fun y i=>alS i.d i.m gs i.D i.M Γ i.al) (fun y i=>L.length - i.i) ⟨0,d,m,D1,M1,al⟩ ⟨rfl,Nat.zero_le _,hI1.up (by omega),hR1,hal⟩ ?_
  rintro k' _ ⟨i,d,m,D,M,al⟩ ⟨rfl,hi,hI,hR,hal⟩ hk'
  simp only at hi hI hR hal hk' ⊢
  unfold zH.b4
  have done:HG B (alS d m gs D M Γ al) (q true):=by
   cases al with
   | none=>exact zI (Γ:=zJ d D::zk m M::Γ) h
   | some a=>exact zI (Γ:=zCM a.kp d a.kq m a.ep a.v a.mb gs a.ls a.vs a.E a.F D M Γ) h
  refine yA (fun hb1=>?_) fun hb1=>done
  clear done
  have hil:i < L.length:=by simp only [decide_eq_true_eq] at hb1; omega
  have hx:L[i]? = some L[i]:=List.getElem?_eq_getElem hil
  have hxo:=hL L[i] (List.getElem_mem hil)
  have hxf:=hfit L[i] (List.getElem_mem hil)
  generalize L[i] = x at hx hxo hxf
  have S5:∀ {d m:Nat} {D M:zC} {al:Option AlX},DkI D (80 + 5100 * (i + 1))→x9 D M→alI D gl (i + 1) al→HG B (alS d m gs D M Γ al) (zH.s5 q (fun y1 y2 y3 y4 y5=>k' (y1,y2,y3,y4,y5)) gs (some ⟨d,0,none⟩) (some ⟨m,0,none⟩) (alK al) (alM al) s (s.n:Int) (i:Int)):=fun {d m D M al} hI hR hal=>by
   unfold zH.s5
   refine filesA hI.ok hR ?_
   refine s_f ?_ (by rfl)
   refine zAn ?_
   exact hk' _ ⟨i + 1,d,m,D,M,al⟩ ⟨by simp,hil,hI,hR,hal⟩ (by simp only; omega)
  refine zUR qc zGM (fun w hw=>hs.old hw) hx ?_
  refine ql fun o16=>?_
  refine zDI (b:=o16) (l':=qc x) ?_
  refine yE (b:=o16) (l:=qc x) (x:=x.1.kind) ?_
  refine vI rfl ?_
  refine yA (fun _=>?_) fun _=>?_
  ·refine yE (b:=o16) (off:=3) (l:=qc x) (x:=x.1.n) ?_
   have limA:∀ {al:Option AlX} {Θ:List zB} {Q:K},HG B (alS d m gs { D with a:={ D.a with left:=if -1 > x.1.n then -1 else x.1.n } } { M with a:={ M.a with left:=if -1 > x.1.n then -1 else x.1.n } } Γ al) Q→HG B (blk o16 (.cells (qc x).toArray zY (0,0))::alS d m gs D M Γ al) (jP.call (some ⟨d,0,none⟩) x.1.n (Ld ((⟨o16,0,none⟩:Addr).add 3) (Value.int .i64) fun t99=>uJ.call (some ⟨m,0,none⟩) t99 Q)):=fun {al Θ Q} hq=>by
    have two:∀ {Ψ:List zB},HG B (zJ d { D with a:={ D.a with left:=if -1 > x.1.n then -1 else x.1.n } }::zk m { M with a:={ M.a with left:=if -1 > x.1.n then -1 else x.1.n } }::Ψ) Q→HG B (zJ d D::zk m M::blk o16 (.cells (qc x).toArray zY (0,0))::Ψ) (jP.call (some ⟨d,0,none⟩) x.1.n (Ld ((⟨o16,0,none⟩:Addr).add 3) (Value.int .i64) fun t99=>uJ.call (some ⟨m,0,none⟩) t99 Q)):=fun {Ψ} hq=>by
     refine fun w hw=>zQi hw fun w hw=>?_
     refine Sep.hg hw ?_
     clear hw w
     refine yE (b:=o16) (off:=3) (l:=qc x) (x:=x.1.n) ?_
     refine vD ?_
     refine fun w hw=>zJp hw fun w hw=>?_
     refine Sep.hg hw ?_
     clear hw w
     exact zI hq
    cases al with
    | none=>
     show HG B (blk o16 (.cells (qc x).toArray zY (0,0))::zJ d D::zk m M::Γ) _
     refine zI (Δ:=zJ d D::zk m M::blk o16 (.cells (qc x).toArray zY (0,0))::Γ) ?_
     exact two hq
    | some a=>
     show HG B (blk o16 (.cells (qc x).toArray zY (0,0))::zCM a.kp d a.kq m a.ep a.v a.mb gs a.ls a.vs a.E a.F D M Γ) _
     refine zI (Δ:=zJ d D::zk m M::blk o16 (.cells (qc x).toArray zY (0,0))::KpR a.kp d a.ep a.v a.mb::qM (Value.int .i64) Value.pointer a.mb (gmM a.E)::gmO d a.E::DkR a.kq m a.ep a.v gs a.ls a.vs::dkE m a.ls a.vs a.F Γ) ?_
     refine two ?_
     have hq:HG B (zCM a.kp d a.kq m a.ep a.v a.mb gs a.ls a.vs a.E a.F _ _ Γ) Q:=hq
     exact zI hq
   have hxn:=hxo.n
   have hx0:=hxo.n0
   have ho:OkD { D with a:={ D.a with left:=if -1 > x.1.n then -1 else x.1.n } }:=⟨hI.ok.room1,hI.ok.roomN,hI.ok.used,hI.ok.few,by
    constructor
    ·show (-9223372036854775808:Int) < if -1 > x.1.n then -1 else x.1.n
     split <;> omega
    ·show (if -1 > x.1.n then -1 else x.1.n) ≤ (9223372036854775807:Int)
     split <;> omega,hI.ok.last,hI.ok.nodup⟩
   refine limA (Θ:=Γ) ?_
   refine S5 ((zWq hI ho).up (by omega)) (zS0 hR) ?_
   cases al with
   | none=>trivial
   | some a=>exact ⟨(zQE (D':={ D with a:={ D.a with left:=if -1 > x.1.n then -1 else x.1.n } }) hal.1 id fun _ _=>rfl).up (by omega),hal.2⟩
  refine yE (b:=o16) (l:=qc x) (x:=x.1.kind) ?_
  refine vI rfl ?_
  refine yA (fun _=>?_) fun _=>?_
  ·refine zAQ ?_
   have base:HG B (zJ d D::zk m M::blk o16 (.cells (qc x).toArray zY (0,0))::Γ) (xW fun S=>
     LdS S ((⟨o16,0,none⟩:Addr).add 6) Sl.val fun t108=>
     LdS S ((⟨o16,0,none⟩:Addr).add 6) Sl.val fun t112=>
     qF.call (some ⟨d,0,none⟩) t108 fun t109=>
     Sv S<|
     y7.call (some ⟨m,0,none⟩) t112 fun t113=>
     Ite ((t109).isNone)
      (q false)
      (Ld ((⟨o16,0,none⟩:Addr).add 3) (Value.int .i64) fun t117=>
      Ar (IntKind.wrap .u64 t117) fun t118=>
      yR.call t109 gs t118 fun t123x0 t123x1=>
      yg.call t113 gs t118 fun t130x0 t130x1=>
      Ite (decide (t123x1 ≠ t130x1))
       (zH.s6 q (fun y1 y2 y3 y4 y5=>k' (y1,y2,y3,y4,y5)) gs t109 t113 t123x0 t130x0 s (s.n:Int) (i:Int) true)
       (zH.s6 q (fun y1 y2 y3 y4 y5=>k' (y1,y2,y3,y4,y5)) gs t109 t113 t123x0 t130x0 s (s.n:Int) (i:Int) (!((t123x0).isNone == (t130x0).isNone))))):=by
    refine zKk [blk o16 (.cells (qc x).toArray zY (0,0))] ?_
    refine jR (b:=o16) (off:=6) (l:=qc x) (x:=x.2) ?_
    refine jR (b:=o16) (off:=6) (l:=qc x) (x:=x.2) ?_
    refine zVQ (ks:=x.1.keeps) hI.ok (fun w hw=>hxo.keeps.old hw) fun o=>?_
    refine zBb ?_
    refine jF (zk m M) ?_
    refine fun w hw=>zLI (ks:=x.1.keeps) (hR.ok hI.ok) hw (fun w hw=>hxo.keeps.old hw) fun o2 w hw=>?_
    refine Sep.hg hw ?_
    clear hw w
    refine s_f ?_ (by rfl)
    refine yE (b:=o16) (off:=3) (l:=qc x) (x:=x.1.n) ?_
    obtain ⟨c,hc1,hc2⟩:=zM1 x.1.n
    refine vI hc1 ?_
    obtain ⟨c1,c2,c3⟩:=zWm hI x.1.keeps
    refine zI (Δ:=zJ o (D.crash x.1.keeps)::zk o2 ⟨oA M.a.room,zCJ x.1.keeps M.files⟩::Γ) ?_
    refine zM2 c1 c3 c2 (zSz hR hI.ok x.1.keeps) hc2 hgs hgn fun D2 M2 al2 code hI2 hR2 hal2=>?_
    have hiso:(!((alK al2).isNone == (alM al2).isNone)) = false:=by cases al2 <;> rfl
    refine s_f ?_ (by simp)
    rw [hiso]
    unfold zH.s6
    refine s_f ?_ (by rfl)
    exact S5 (hI2.up (by omega)) hR2 (hal2.up (by omega))
   cases al with
   | none=>
    show HG B (blk o16 (.cells (qc x).toArray zY (0,0))::zJ d D::zk m M::Γ) _
    exact zI base
   | some a=>
    show HG B (blk o16 (.cells (qc x).toArray zY (0,0))::zCM a.kp d a.kq m a.ep a.v a.mb gs a.ls a.vs a.E a.F D M Γ) _
    exact zI base
  ·cases al with
   | none=>
    show HG B (blk o16 (.cells (qc x).toArray zY (0,0))::zJ d D::zk m M::Γ) _
    refine s_f ?_ (by rfl)
    unfold zH.s7
    refine s_f ?_ (by rfl)
    refine zI (Δ:=zJ d D::zk m M::Γ) ?_
    exact S5 (al:=none) (hI.up (by omega)) hR trivial
   | some a=>
    show HG B (blk o16 (.cells (qc x).toArray zY (0,0))::zCM a.kp d a.kq m a.ep a.v a.mb gs a.ls a.vs a.E a.F D M Γ) _
    obtain ⟨a1,a2,a3,a4⟩:=hal
    refine s_t ?_ (by rfl)
    unfold zH.s7
    refine s_t ?_ (by rfl)
    refine zDH (b:=o16) (off:=0) (l:=qc x) (l':=qc x) ?_ rfl rfl
    refine zI (Δ:=zCM a.kp d a.kq m a.ep a.v a.mb gs a.ls a.vs a.E a.F D M Γ) ?_
    refine zTF hxo hxf hI (by omega) a1 (by omega) a2 hR hgs hgn (by omega) a4 a3 fun E' F' D' M' h1 h2 h3 h4 h5=>?_
    refine s_f ?_ (by rfl)
    exact S5 (al:=some ⟨a.kp,a.ep,a.mb,a.kq,a.v,a.ls,a.vs,E',F'⟩) (h2.up (by omega)) h3 ⟨h1,h4,h5,a4⟩
 obtain ⟨nI,nA⟩:=zZ4 (room:=1 + rm) (by omega) (by omega)
 refine vD ?_
 refine yA (fun _=>?_) fun _=>?_
 ·refine zMm nI.ok fun _=>?_
  refine vD ?_
  refine zQ4 nI.ok (zR6 (1 + rm)) fun M' hM'=>?_
  obtain ⟨s1,s2,s3,_,_⟩:=zRB (n:=0) (k:=40) (x:=xg 0 true) (.inl rfl) nI (zZ3 _ _ (by omega)) (lpk (by omega))
  have ha:=s2 rfl
  rw [show decide (((zC.new (1 + rm)).save uD (xg 0 true)).2 ≠ ((zC.new (1 + rm)).save uD (xg 0 true)).2) = false by simp]
  refine vD ?_
  exact S2 s1 ⟨by rw [ha]; rfl,by rw [ha]; rfl⟩ (s3 rfl nA) hM'
 ·exact S2 (nI.up (by omega)) zI6 nA (zR6 (1 + rm))
end
end Go.Proofs.YtgmbfnboiobeaaaGreat
namespace Go.Proofs.YtgmbfnboiobeaaaGreat
open Go Go.Sep Go.RowKit
theorem zVY {w:World} {cs:List Value} (hc:cs.length = 7) (y:Rdy w (.fld 0 1 (.int .i64) (.fld 1 1 (.int .i64) (.fld 2 1 (.int .i64) (.fld 3 1 (.int .i64) (.fld 4 1 (.int .u64) (.fld 5 1 .str (.fld 6 1 (.sl (.int .i64) 1) .nil))))))) cs) :
  ∃ x:zIO,cs = qc x∧zOL w x:=by
 match cs,hc with
 | [a,b,c,e,f,g,i],_=>
  obtain ⟨⟨x0,e0,_⟩,⟨x1,e1,_⟩,⟨x2,e2,_⟩,⟨x3,e3,w3⟩,⟨x4,e4,w4⟩,⟨s5,e5,_⟩,⟨s',e6,_,_,h3,h4⟩,_⟩:=y
  cases e0; cases e1; cases e2; cases e3; cases e4; cases e5; cases e6
  obtain ⟨ks,_,g2,_⟩:=zRW h3 h4
  obtain ⟨n2,rfl⟩:=zUP s5
  simp [Lit.wf,IntKind.min,IntKind.max,IntKind.signed,IntKind.bits] at w3 w4
  obtain ⟨b4,rfl⟩:=Int.eq_ofNat_of_zero_le w4.1
  exact ⟨(⟨x0,x1,x2,x3,b4,n2,ks⟩,s'),rfl,⟨g2,by simp only; omega,by simp only; omega,by simp only; omega⟩⟩
theorem zIR (W:World) (gs:Sl) (y0:Rdy W zJV (Sl.val gs).cells.toList) (x:Int) (_:(Lit.int .i64 x).wf = true) (s:Sl) (y2:Rdy W zCK (Sl.val s).cells.toList) :
  Calls Tryz.prog 5 #[gs.val,.int .i64 x,s.val] W (Ret fun v w'=>v = .bool true∧Below W.heap.size W w'):=by
 obtain ⟨gl,hgl,_⟩:=zUI y0
 obtain ⟨h1,h2⟩:=zUH y2
 obtain ⟨L,_,hL,hd⟩:=zRV qc (fun x=>zOL W x) zGM h1 h2 fun cs hc hr=>zVY hc hr
 exact zUC (zJu (Γ:=[]) hgl hL hd (fun w h=>⟨rfl,h⟩) W (Holds.start W))
end Go.Proofs.YtgmbfnboiobeaaaGreat
