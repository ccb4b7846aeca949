/- Texts of the claim SchedSerial, one behind the other. -/
import Derived.Test.YtdemfamgieonbaaGreatSchedSerialM5
set_option linter.all false
set_option maxRecDepth 100000
namespace Go.Proofs.YtdemfamgieonbaaGreat
section
open Go Go.Sep Go.Sep.Bt
def mkP (P:List OrG) (g:y7):List MkX:=((P.find? fun o=>decide (o.tag = g)).map OrG.mks).getD []
def txP (P:List OrG) (g:y7):TxX:=((P.find? fun o=>decide (o.tag = g)).map fun o=>zEi o.t).getD ⟨1,[],[],[],0,⟨none,0,0⟩,⟨none,0,0⟩,⟨none,0,0⟩⟩
section
variable {Ok:OrG→Prop} {m c n:Nat} {x:zDo}
theorem zV7 {P:List OrG} {o:OrG} (ho:o ∈ P):∃ o',(P.find? fun y=>decide (y.tag = o.tag)) = some o'∧o' ∈ P∧o'.tag = o.tag:=by
 cases h:P.find? fun y=>decide (y.tag = o.tag) with
 | none=>
  have:=List.find?_eq_none.1 h o ho
  simp at this
 | some o'=>exact ⟨o',rfl,List.mem_of_find?_eq_some h,by simpa using List.find?_some h⟩
theorem zYY (h:zCA Ok m c x) {o:OrG} (ho:o ∈ x.P):mkP x.P o.tag = o.mks∧txP x.P o.tag = zEi o.t:=by
 obtain ⟨o',h1,h2,h3⟩:=zV7 ho
 unfold mkP txP
 rw [h1]
 obtain ⟨u1,u2⟩:=h.uq o' h2 o ho h3
 exact ⟨u1,zOq u2⟩
theorem zYZ (h:zCA (OkG n) m c x) (g:y7):((mkP x.P g).map MkX.key).Nodup:=by
 unfold mkP
 cases hf:x.P.find? fun y=>decide (y.tag = g) with
 | none=>simp
 | some o=>
  obtain ⟨hok,_⟩:=h.ok o (List.mem_of_find?_eq_some hf)
  simp only [Option.map_some,Option.getD_some]
  rw [hok.ord.2.2.1]
  exact (zHF _).imp fun hlt e=>by subst e; exact List.lt_irrefl _ hlt
end
section
variable {B:World} {Γ Δ:List zC} {k:Sep.K} {q:Bool→Sep.K}
theorem zYa {α:Type} {T E len:Nat} {cs:List Value} {i:Int} {c:α→Value} {x:α} {k:α→Sep.K} (hv:cs[i.toNat]? = some (c x)) (h0:0 ≤ i) (h1:i < len) (h:HG B Γ (k x)) (hT:zL9 Tryz.prog T E len 1 = true:=by kernel_rfl) (hA:∀ w,(isAgg E).run Tryz.prog w = .ok false w:=by intro w; kernel_rfl) :
  HG B Γ (Rd Tryz.prog (Instr.index T (.agg cs.toArray) (.int .i64 i)) c k):=fun w hw=>by
 refine ⟨x,?_,h w hw⟩
 unfold Instr.index
 simp only [asIntOf,Sem.run_bind,Sem.run_pure,Result.andThen,run_underlying (zFQ hT).1]
 rw [if_pos ⟨h0,h1⟩]
 simp only [Sem.run_bind,jE (zFQ hT).2,Result.andThen,part,hA w]
 simp [hv]
abbrev seF (sd mr mb t5:Nat) (D:List (y7×Array Value)) (x:zDo) (T:Nat) (S:zBS) (Pl:Pool) (Γ:List zC):List zC:=zA2 sd 3 T S::uO mr 3 S.M Pl::vw Pl::xE (kyS qO) Value.agg mb D::blk t5 (.cells (uD x).toArray zI (0,0))::Sep.stars (x.logs.map zBk)::SlC zn 10 x.gs (x.G.flatMap zAI)::Sep.stars (x.P.map zEX)::Γ
def TgP (x:zDo) (g:y7):Prop:=∃ l ∈ x.logs,∃ it ∈ l.items,it.o.tag = g
abbrev zOy (x:zDo) (D:List (y7×Array Value)) (g:y7):Prop:=∃ o ∈ x.P,o.tag = g∧y8 g D = some (zAI o).toArray
structure SeG where
 i:Nat
 T:Nat
 S:zBS
 Pl:Pool
theorem zbg {a b c d:Int}:zC5 a b c d = 0 ↔ c = d∧a = b:=by
 unfold zC5
 by_cases h1:a < b
 ·rw [if_pos h1]; omega
 ·rw [if_neg h1]
  by_cases h2:b = a∧d = c
  ·rw [if_pos h2]; omega
  ·rw [if_neg h2]; omega
theorem zSO {M:zy} {m:MkX}:q8 3 M (mM m) = 0 ↔ (zx 3 M (bs m.key)).home = m.home∧(zx 3 M (bs m.key)).cnt = m.cnt:=zbg
theorem zYb {n:Nat} {r kind ix:Int} {tag:y7} {t:TxX} {mks:List MkX} {S:zBS}:(zBn n r kind ix tag t mks S).1.fed = if zI2 n r kind ix tag t mks then S.fed.set r.toNat (S.fed.getD r.toNat 0 + 1) else S.fed:=by
 unfold zBn
 split
 ·unfold zNN
  split
  ·rfl
  ·split
   ·split <;> rfl
   ·rfl
 ·rfl
theorem zTY {n:Nat} {r kind ix:Int} {tag:y7} {t:TxX} {mks:List MkX} {S:zBS} {r':Int}:zBR n (zBn n r kind ix tag t mks S).1 r' ≤ if r' = r then zBR n S r' + 1 else zBR n S r':=by
 unfold zBR
 by_cases hr:0 ≤ r'∧r' < n
 ·rw [if_pos hr,if_pos hr,zYb]
  by_cases hok:zI2 n r kind ix tag t mks
  ·rw [if_pos hok]
   have hr2:=hok.2.2.1
   simp only [List.getD_eq_getElem?_getD,List.getElem?_set]
   by_cases e:r.toNat = r'.toNat
   ·have e2:r' = r:=by omega
    rw [if_pos e,if_pos e2]
    subst e2
    split
    ·simp
    ·rename_i hl
     rw [List.getElem?_eq_none (Nat.not_lt.1 hl)]; simp
   ·rw [if_neg e,if_neg (by omega)]
    exact Int.le_refl _
  ·rw [if_neg hok]
   split <;> omega
 ·rw [if_neg hr,if_neg hr]
  split <;> omega
def zbh (x:zDo) (S:zBS):Prop:=∀ r:Int,0 ≤ r→r < 3→∀ lg,x.logs[r.toNat]? = some lg→zBR 3 S r ≤ lg.items.length
theorem zYc {n:Nat} {M:zy} {a b:TxX} (h:zEk a b):wrU n M a = wrU n M b:=by unfold wrU; rw [zKc h]
theorem zNZ {L:List zLB} {ss ps:Sl} {P:List Int} (hL:RdC B ss 7 (L.flatMap zEm)) (hLr:∀ x ∈ L,zQf B x) (hP:RdC B ps 1 (P.map (Value.int .i64))) (h:HG B Γ (q true)):HG B Γ (zD.call ss ps q):=fun w hw=>by
 refine zHa _ _ _ _ ?_
 have hpn:ps.n = P.length:=by have:=hP.len; rw [List.length_map] at this; omega
 refine hg hw ?_
 clear hw w
 unfold zD
 refine zYT ?_
 refine s_f ?_ (by rfl)
 have out:HG B Γ (zD.s1 q ss ps true):=by
  unfold zD.s1
  exact s_t h
 refine zN0 (L:=L) (fun w hw=>hL.old hw) (fun x hx w hw=>zRr (hLr x hx).1 hw) (s_t out (by rfl)) fun hl50 hng=>?_
 refine s_f ?_ (by rfl)
 by_cases hp60:60 < P.length
 ·rw [show decide ((60:Int) < (ps.n:Int)) = true by simp; omega]
  exact out
 rw [show decide ((60:Int) < (ps.n:Int)) = false by simp; omega]
 unfold zD.s1
 refine s_f ?_ (by rfl)
 refine zZ1 (n:=3) (L:=L) (by omega) (by omega) (fun w hw=>hL.old hw) (fun x hx=>⟨fun w hw=>zRr (hLr x hx).1 hw,(hLr x hx).2⟩) hng hl50 fun x hx=>?_
 have h7:(uD x).length = 7:=zF7 hx.ll hx.al
 refine zH fun t5=>?_
 refine zTM (b:=t5) (off:=0) (us:=uD x) (uD x) ?_ h7 (by simp) (by rw [List.take_zero,List.nil_append,List.drop_of_length_le (by simp [h7]),List.append_nil]) zOx
 refine zKo (n:=3) (by omega) (by omega) fun sd=>?_
 refine s_f ?_ (by rfl)
 unfold zD.s2
 refine s_f ?_ (by rfl)
 refine zJe (enc:=kyS qO) (cV:=Value.agg) fun mb=>?_
 have h3l:(x.logs.map fun l=>l.s.val).length = 3:=by rw [List.length_map,hx.ll]
 refine qI (b:=t5) (l:=uD x) (l':=x.logs.map fun l=>l.s.val) ?_ (by rw [List.drop_zero]; unfold uD; rw [List.take_append_of_le_length (by omega),List.take_of_length_le (by omega)]) h3l
 have orgF_fl:∀ o:OrG,(zAI o).length = 10:=fun _=>rfl
 refine zB (Δ:=xE (kyS qO) Value.agg mb ([]:List (y7×Array Value))::zA2 sd 3 0 (zFL 3)::blk t5 (.cells (uD x).toArray zI (0,0))::Sep.stars (x.logs.map zBk)::SlC zn 10 x.gs (x.G.flatMap zAI)::Sep.stars (x.P.map zEX)::Γ) ?_
 refine xW (α:=Int) (ι:=Nat×List (y7×Array Value)) (fun y i=>y = (i.1:Int)∧i.1 ≤ 3∧∀ l ∈ x.logs.take i.1,∀ it ∈ l.items,zOy x i.2 it.o.tag) (fun y i=>xE (kyS qO) Value.agg mb i.2::zA2 sd 3 0 (zFL 3)::blk t5 (.cells (uD x).toArray zI (0,0))::Sep.stars (x.logs.map zBk)::SlC zn 10 x.gs (x.G.flatMap zAI)::Sep.stars (x.P.map zEX)::Γ) (fun y i=>3 - i.1) (0,[]) ⟨rfl,Nat.zero_le _,fun l hl=>(by simp at hl)⟩ ?_
 rintro k3 _ ⟨r,D⟩ ⟨rfl,hr,hD⟩ hk3
 simp only at hr hD hk3 ⊢
 unfold zD.b3
 refine zF (fun hb=>?_) fun hb=>?_
 ·have hrl:r < 3:=by simp only [decide_eq_true_eq] at hb; omega
  have hge:x.logs[r]? = some (x.logs[r]'(by rw [hx.ll]; omega)):=List.getElem?_eq_getElem _
  have hlm:x.logs[r]'(by rw [hx.ll]; omega) ∈ x.logs:=List.getElem_mem _
  have htk:x.logs.take (r + 1) = x.logs.take r++[x.logs[r]'(by rw [hx.ll]; omega)]:=List.take_succ_eq_append_getElem _
  generalize x.logs[r]'(by rw [hx.ll]; omega) = lg at hge hlm htk
  have hic:=hx.ic lg hlm
  refine zYa (E:=zNc) (len:=3) (x:=lg.s) (by rw [Int.toNat_natCast,List.getElem?_map,hge]; rfl) (by omega) (by omega) ?_
  have rdL:∀ {Ψ:List zC},[d:Drops Ψ [Sep.stars (x.logs.map zBk)]]→∀ w,Holds B Ψ w→RdC w lg.s 12 (lg.items.flatMap zEx):=fun {Ψ d} w hw=>by
   obtain ⟨Δ,hd2⟩:=zEE (Γ:=[]) (F:=zBk) hlm (hw.drops (d:=d))
   have h2:Holds B (SlC qc 12 lg.s (lg.items.flatMap zEx)::Δ) w:=hd2
   exact (yP (s:=lg.s) h2).1
  refine fun w hw=>?_
  have hln:lg.s.n = lg.items.length:=zA3 zEW (by omega) (rdL w hw)
  refine hg hw ?_
  clear hw w
  refine xW (α:=Int) (ι:=Nat×List (y7×Array Value)) (fun y i=>y = (i.1:Int)∧i.1 ≤ lg.items.length∧(∀ l ∈ x.logs.take r,∀ it ∈ l.items,zOy x i.2 it.o.tag)∧∀ it ∈ lg.items.take i.1,zOy x i.2 it.o.tag) (fun y i=>xE (kyS qO) Value.agg mb i.2::zA2 sd 3 0 (zFL 3)::blk t5 (.cells (uD x).toArray zI (0,0))::Sep.stars (x.logs.map zBk)::SlC zn 10 x.gs (x.G.flatMap zAI)::Sep.stars (x.P.map zEX)::Γ) (fun y i=>lg.items.length - i.1) (0,D) ⟨rfl,Nat.zero_le _,hD,fun l hl=>(by simp at hl)⟩ ?_
  rintro k4 _ ⟨j,D1⟩ ⟨rfl,hj,hD1,hD2⟩ hk4
  simp only at hj hD1 hD2 hk4 ⊢
  unfold zD.b4
  refine zF (fun hc=>?_) fun hc=>?_
  ·have hjl:j < lg.items.length:=by simp only [decide_eq_true_eq] at hc; omega
   have hgi:lg.items[j]? = some lg.items[j]:=List.getElem?_eq_getElem hjl
   have hgm:lg.items[j] ∈ lg.items:=List.getElem_mem hjl
   have htk2:lg.items.take (j + 1) = lg.items.take j++[lg.items[j]]:=List.take_succ_eq_append_getElem hjl
   generalize lg.items[j] = it at hgi hgm htk2
   have hop:=hx.it lg hlm it hgm
   refine zAc zEx zEW (fun w hw=>rdL w hw) hgi ?_
   refine zH fun i13=>?_
   refine qA (b:=i13) (l':=zEx it) ?_
   refine qI (b:=i13) (off:=2) (l:=zEx it) (l':=qO it.o.tag) ?_
   refine qI (b:=i13) (off:=2) (l:=zEx it) (l':=zAI it.o) ?_
   refine zQC (b:=mb) (cel:=qO) (a:=it.o.tag) (v:=(zAI it.o).toArray) (E:=zn) zCQ rfl ?_
   refine qB ?_
   have up:∀ g,zOy x D1 g→zOy x (vS it.o.tag (zAI it.o).toArray D1) g:=fun g ⟨o,h1,h2,h3⟩=>by
    by_cases e:g = it.o.tag
    ·exact ⟨it.o,hop,e.symm,by rw [zBh,if_pos e]⟩
    ·exact ⟨o,h1,h2,by rw [zBh,if_neg e]; exact h3⟩
   refine zB (hk4 ((j:Int) + 1) (j + 1,vS it.o.tag (zAI it.o).toArray D1) ⟨by simp,hjl,fun l hl i hi=>up _ (hD1 l hl i hi),fun i hi=>?_⟩ (by simp only; omega))
   rw [htk2] at hi
   rcases List.mem_append.1 hi with hi | hi
   ·exact up _ (hD2 i hi)
   ·rw [List.mem_singleton.1 hi]
    exact ⟨it.o,hop,rfl,by rw [zBh,if_pos rfl]⟩
  ·have hjl:j = lg.items.length:=by simp only [decide_eq_false_iff_not] at hc; omega
   rw [hjl,List.take_length] at hD2
   refine qB ?_
   refine hk3 ((r:Int) + 1) (r + 1,D1) ⟨by simp,hrl,fun l hl i hi=>?_⟩ (by simp only; omega)
   rw [htk] at hl
   rcases List.mem_append.1 hl with hl | hl
   ·exact hD1 l hl i hi
   ·rw [List.mem_singleton.1 hl] at hi; exact hD2 i hi
 have hr3:r = 3:=by simp only [decide_eq_false_iff_not] at hb; omega
 subst hr3
 rw [List.take_of_length_le (by rw [hx.ll]; omega)] at hD
 have hmap:∀ g,TgP x g→zOy x D g:=fun g ⟨l,hl,it,hit,e⟩=>by rw [← e]; exact hD l hl it hit
 clear hD hk3 hb hr
 refine zZV (n:=3) (P:=[]) (by omega) (by omega) fun mr=>?_
 refine fun w hw=>hg (show Holds B (vw []::_) w from hw.zCn) ?_
 clear hw w
 refine zB (Δ:=zA2 sd 3 0 (zFL 3)::uO mr 3 [] []::vw []::xE (kyS qO) Value.agg mb D::blk t5 (.cells (uD x).toArray zI (0,0))::Sep.stars (x.logs.map zBk)::SlC zn 10 x.gs (x.G.flatMap zAI)::Sep.stars (x.P.map zEX)::Γ) ?_
 refine xW (α:=Int) (ι:=SeG) (fun y g=>y = (g.i:Int)∧g.i ≤ 400∧g.T ≤ g.i∧zbh x g.S∧zJ2 (mkP x.P) (txP x.P) (TgP x) g.S.M g.S.G g.S.jobs) (fun y g=>seF sd mr mb t5 D x g.T g.S g.Pl Γ) (fun y g=>400 - g.i) ⟨0,0,zFL 3,[]⟩ ⟨rfl,by simp,by simp,fun r h0 h1 lg hlg=>?_,zV4⟩ ?_
 ·have e:zBR 3 (zFL 3) r = 0:=by
   unfold zBR
   split
   ·rw [List.getD_eq_getElem?_getD,List.getElem?_replicate]
    split <;> rfl
   ·rfl
  rw [e]; omega
 rintro k5 _ ⟨i,T,S,Pl⟩ ⟨rfl,hi,hT,hF,hS⟩ hk5
 simp only at hi hT hF hS hk5 ⊢
 unfold zD.b5
 refine zF (fun hb=>?_) fun hb=>zB h
 have hi4:i < 400:=by simp only [decide_eq_true_eq] at hb; omega
 have next:∀ {Ψ:List zC} {T':Nat} {S':zBS} {Pl':Pool},[d:Drops Ψ (seF sd mr mb t5 D x T' S' Pl' Γ)]→T' ≤ i + 1→zbh x S'→zJ2 (mkP x.P) (txP x.P) (TgP x) S'.M S'.G S'.jobs→HG B Ψ (zD.s6 q k3 k5 ps ⟨t5,0,none⟩ (some ⟨sd,0,none⟩) (some mb) (some ⟨mr,0,none⟩) (i:Int)):=fun {Ψ T' S' Pl' d} a1 a0 a2=>by
  unfold zD.s6
  refine qB ?_
  exact zB (d:=d) (hk5 ((i:Int) + 1) ⟨i + 1,T',S',Pl'⟩ ⟨by simp,by simp only; omega,a1,a0,a2⟩ (by simp only; omega))
 have S7:∀ r:Int,0 ≤ r→r < 3→HG B (seF sd mr mb t5 D x T S Pl Γ) (zD.s7 q k3 k5 ps ⟨t5,0,none⟩ (some ⟨sd,0,none⟩) (some mb) (some ⟨mr,0,none⟩) (i:Int) r):=fun r hr0 hr1=>by
  have hrl:r.toNat < x.logs.length:=by rw [hx.ll]; omega
  have hlg:x.logs[r.toNat]? = some x.logs[r.toNat]:=List.getElem?_eq_getElem hrl
  have hlm:x.logs[r.toNat] ∈ x.logs:=List.getElem_mem hrl
  generalize x.logs[r.toNat] = lg at hlg hlm
  have hic:=hx.ic lg hlm
  have rdL:∀ {Ψ:List zC},[d:Drops Ψ [Sep.stars (x.logs.map zBk)]]→∀ w,Holds B Ψ w→RdC w lg.s 12 (lg.items.flatMap zEx):=fun {Ψ d} w hw=>by
   obtain ⟨Δ,hd2⟩:=zEE (Γ:=[]) (F:=zBk) hlm (hw.drops (d:=d))
   have h2:Holds B (SlC qc 12 lg.s (lg.items.flatMap zEx)::Δ) w:=hd2
   exact (yP (s:=lg.s) h2).1
  refine fun w hw=>?_
  have hln:lg.s.n = lg.items.length:=zA3 zEW (by omega) (rdL w hw)
  refine hg hw ?_
  clear hw w
  unfold zD.s7
  refine vo ?_
  refine zBE [blk t5 (.cells (uD x).toArray zI (0,0))] ?_
  refine zEK (by omega) (by omega) ?_
  refine jC (b:=t5) (off:=0 + r.toNat) (l:=uD x) (x:=lg.s) ?_ (by rw [zCc,Nat.zero_add]; exact zF6 hlg)
  refine zL4 ?_
  refine zBC ?_
  refine zbf fun a1 a2 a3 a4 a5=>?_
  refine zF (fun he=>?_) fun he=>?_
  ·exact next (T':=T) (S':=S) (Pl':=Pl) (by omega) hF hS
  have hf1:0 ≤ zBR 3 S r:=by
   unfold zBR
   split
   ·rename_i hrn
    rw [List.getD_eq_getElem?_getD]
    cases hfe:S.fed[r.toNat]? with
    | none=>simp
    | some v=>exact a4 v (List.mem_of_getElem? hfe)
   ·omega
  refine vo ?_
  refine zBE [blk t5 (.cells (uD x).toArray zI (0,0))] ?_
  refine zEK (by omega) (by omega) ?_
  refine jC (b:=t5) (off:=0 + r.toNat) (l:=uD x) (x:=lg.s) ?_ (by rw [zCc,Nat.zero_add]; exact zF6 hlg)
  refine zL4 ?_
  refine zBC ?_
  have hvl:zBR 3 S r < lg.items.length:=by
   have:=hF r hr0 hr1 lg hlg
   have he':zBR 3 S r ≠ (lg.s.n:Int):=by simpa using he
   omega
  have hjl:(zBR 3 S r).toNat < lg.items.length:=by omega
  have hgi:lg.items[(zBR 3 S r).toNat]? = some lg.items[(zBR 3 S r).toNat]:=List.getElem?_eq_getElem hjl
  have hgm:lg.items[(zBR 3 S r).toNat] ∈ lg.items:=List.getElem_mem hjl
  generalize lg.items[(zBR 3 S r).toNat] = it at hgi hgm
  have hop:=hx.it lg hlm it hgm
  obtain ⟨hok,hsm⟩:=hx.ok it.o hop
  refine zAc zEx zEW (fun w hw=>rdL w hw) hgi ?_ (by omega)
  refine zL3 (r:=r) (kind:=it.kind) (ix:=it.ix) (tag:=it.o.tag) (t:=it.o.t) (ms:=it.o.ms) (mks:=it.o.mks) (by omega) (fun w hw=>(zH8 (Γ:=[]) hop hw.drops).1) (fun w hw=>(zH8 (Γ:=[]) hop hw.drops).2) hok.nn hok.g0 hok.g1 hok.mc ⟨hsm.1.1,hsm.1.2.1,hsm.1.2.2.1⟩ hsm.2 fun s1 D1 hD1 hD1l=>?_
  obtain ⟨k1,k2⟩:=zYY hx hop
  obtain ⟨f1,f2⟩:=zYP (r:=r) (kind:=it.kind) (ix:=it.ix) (t:=it.o.t) (mks:=it.o.mks) (zYZ hx) ⟨lg,hlm,it,hgm,rfl⟩ k1 k2 hS
  have hF1:zbh x (zBn 3 r it.kind it.ix it.o.tag it.o.t it.o.mks S).1:=fun r' h0 h1 lg' hlg'=>by
   have h2:=zTY (n:=3) (r:=r) (kind:=it.kind) (ix:=it.ix) (tag:=it.o.tag) (t:=it.o.t) (mks:=it.o.mks) (S:=S) (r':=r')
   have h3:=hF r' h0 h1 lg' hlg'
   split at h2
   ·rename_i e; subst e
    rw [hlg] at hlg'
    cases hlg'
    omega
   ·omega
  have hML:S.M.length ≤ 16000:=by omega
  have hSwf:=hS.wf
  have hout:=zYV (n:=3) (r:=r) (kind:=it.kind) (ix:=it.ix) (tag:=it.o.tag) (t:=it.o.t) (mks:=it.o.mks) (S:=S) a5
  rw [← hD1] at f1 hout
  generalize (zBn 3 r it.kind it.ix it.o.tag it.o.t it.o.mks S).1 = S1 at f1 f2 hF1 ⊢
  clear hgi hgm hop hok hsm k1 k2 it hD1
  generalize S.M = M0 at f1 hML hSwf
  refine yS s1 fun n1 n2 n3 n4=>?_
  rw [zX _ 6 zJy] at n1
  refine xW (α:=Int) (ι:=Nat×zy×Pool) (fun y i=>y = (i.1:Int)∧i.1 ≤ D1.length∧Ser (mkP x.P) (txP x.P) (TgP x) i.2.1 ((D1.map zGr).drop i.1) S1.M∧Wf 3 i.2.1∧i.2.1.length ≤ 16000 + 32 * i.1) (fun y i=>SlC yQ 6 s1 (D1.flatMap dcF)::Sep.stars (D1.map dcO)::zA2 sd 3 (T + 1) S1::uO mr 3 i.2.1 i.2.2::vw i.2.2::xE (kyS qO) Value.agg mb D::blk t5 (.cells (uD x).toArray zI (0,0))::Sep.stars (x.logs.map zBk)::SlC zn 10 x.gs (x.G.flatMap zAI)::Sep.stars (x.P.map zEX)::Γ) (fun y i=>D1.length - i.1) (0,M0,Pl) ⟨rfl,Nat.zero_le _,by simpa using f1,hSwf,by simp only; omega⟩ ?_
  rintro k8 _ ⟨j,M,P1⟩ ⟨rfl,hj,hSer,hwf,hMl⟩ hk8
  simp only at hj hSer hwf hMl hk8 ⊢
  unfold zD.b8
  refine zF (fun hc=>?_) fun hc=>?_
  rotate_left
  ·have hje:j = D1.length:=by simp only [decide_eq_false_iff_not] at hc; omega
   rw [List.drop_of_length_le (by rw [List.length_map]; omega)] at hSer
   have hMe:S1.M = M:=hSer
   refine zO mr ?_
   refine zKR fun rs6 X6 hf=>?_
   refine vo ?_
   refine zBE [blk mr (.cells [.int .i64 (3:Nat),rs6.val].toArray zCH (0,0))] ?_
   refine uP ?_
   refine jC (b:=mr) (off:=1) (l:=[.int .i64 (3:Nat),rs6.val]) (x:=rs6) ?_
   refine zO sd ?_
   refine zYM (by omega) fun s6 Y hY=>?_
   refine zBC ?_
   have hYl:Y.length = M.length:=by rw [← hMe,← hY]; simp
   refine zXS (X:=Y) (Y:=X6) (by omega) (by rw [hY,hMe,hf.mod]) (fun w hw=>(yP (s:=s6) hw).1) (fun w hw=>(yP (s:=rs6) hw).1) (fun y hy w hw=>?_) (fun y hy w hw=>?_) ?_
   ·obtain ⟨Δ,h1⟩:=zIw hy (hw.drops (Δ:=[Sep.stars (Y.map zAS)]))
    exact h1.rdC List.mem_cons_self
   ·exact (hf.ok y hy).2.rd (hw.drops (Δ:=[vw P1]))
   refine s_f ?_ (by rfl)
   refine zw rs6 ?_
   refine zO mr ?_
   refine zDj hf ?_
   rw [← hMe]
   exact next (T':=T + 1) (S':=S1) (Pl':=P1) (by omega) hF1 f2
  have hjl:j < D1.length:=by simp only [decide_eq_true_eq] at hc; omega
  have hgd:D1[j]? = some D1[j]:=List.getElem?_eq_getElem hjl
  have hdm:D1[j] ∈ D1:=List.getElem_mem hjl
  have hdr:(D1.map zGr).drop j = zGr D1[j]::(D1.map zGr).drop (j + 1):=by
   rw [List.drop_eq_getElem_cons (by rw [List.length_map]; exact hjl),List.getElem_map]
  rw [hdr] at hSer
  generalize D1[j] = d at hgd hdm hSer
  obtain ⟨t1,t2,hcase⟩:=hSer
  have t1:TgP x d.tag:=t1
  obtain ⟨o,ho,hot,hom⟩:=hmap d.tag t1
  obtain ⟨m1,m2⟩:=zYY hx ho
  rw [hot] at m1 m2
  rw [show (zGr d).tag = d.tag from rfl,m1,m2] at hcase
  rw [show (zGr d).tag = d.tag from rfl,m2] at t2
  obtain ⟨hok,hsm⟩:=hx.ok o ho
  have hrt:xR 3 o.t = true:=hok.ord.1
  have hml1:=hsm.2
  obtain ⟨q1,q2,q3,q4⟩:=zEF hrt
  have next9:∀ {Ψ:List zC} {M':zy} {P':Pool},[dd:Drops Ψ (SlC yQ 6 s1 (D1.flatMap dcF)::Sep.stars (D1.map dcO)::zA2 sd 3 (T + 1) S1::uO mr 3 M' P'::vw P'::xE (kyS qO) Value.agg mb D::blk t5 (.cells (uD x).toArray zI (0,0))::Sep.stars (x.logs.map zBk)::SlC zn 10 x.gs (x.G.flatMap zAI)::Sep.stars (x.P.map zEX)::Γ)] →
    Ser (mkP x.P) (txP x.P) (TgP x) M' ((D1.map zGr).drop (j + 1)) S1.M→Wf 3 M'→M'.length ≤ M.length + 32→HG B Ψ (zD.s9 q k3 k5 k8 ps ⟨t5,0,none⟩ (some ⟨sd,0,none⟩) (some mb) (some ⟨mr,0,none⟩) (i:Int) s1 (s1.n:Int) (j:Int)):=fun {Ψ M' P' dd} b1 b2 b3=>by
   unfold zD.s9
   refine qB ?_
   exact zB (d:=dd) (hk8 ((j:Int) + 1) (j + 1,M',P') ⟨by simp,hjl,b1,b2,by simp only; omega⟩ (by simp only; omega))
  refine zAc dcF zJy (fun w hw=>(yP (s:=s1) hw).1) hgd ?_
  refine zH fun d18=>?_
  refine qA (b:=d18) (l':=dcF d) ?_
  refine qI (b:=d18) (l:=dcF d) (l':=qO d.tag) ?_
  refine zJi (b:=mb) (m:=D) (cV:=Value.agg) (z:=#[(.int .i64 0),(.int .u64 0),(.int .u64 0),(.int .i64 0),(.int .i64 0),(Sl.val ⟨none,0,0⟩),(Sl.val ⟨none,0,0⟩),(Sl.val ⟨none,0,0⟩),(.int .i64 0),(Sl.val ⟨none,0,0⟩)]) (a:=d.tag) (E:=zn) zCQ zJQ ?_
  rw [hom,Option.getD_some]
  refine zH fun o19=>?_
  refine qA (b:=o19) (l':=zAI o) ?_
  refine yB (b:=o19) (off:=9) (l:=zAI o) (x:=o.ms) ?_
  have rdO:∀ {Ψ:List zC},[dd:Drops Ψ [Sep.stars (x.P.map zEX)]]→∀ w,Holds B Ψ w→zCX w o.t∧RdC w o.ms 3 (o.mks.flatMap mkL):=fun {Ψ dd} w hw=>zH8 (Γ:=[]) ho (hw.drops (d:=dd))
  refine fun w hw=>?_
  have hmn:o.ms.n = o.mks.length:=zA3 zCZ (by omega) (rdO w hw).2
  refine hg hw ?_
  clear hw w
  refine zB (Δ:=blk o19 (.cells (zAI o).toArray zn (0,0))::blk d18 (.cells (dcF d).toArray yQ (0,0))::SlC yQ 6 s1 (D1.flatMap dcF)::Sep.stars (D1.map dcO)::zA2 sd 3 (T + 1) S1::uO mr 3 M P1::vw P1::xE (kyS qO) Value.agg mb D::blk t5 (.cells (uD x).toArray zI (0,0))::Sep.stars (x.logs.map zBk)::SlC zn 10 x.gs (x.G.flatMap zAI)::Sep.stars (x.P.map zEX)::Γ) ?_
  refine xW (α:=Bool×Int) (ι:=Nat) (fun y i=>y.2 = (i:Int)∧i ≤ o.mks.length∧(y.1 = true ↔ ∀ m ∈ o.mks.take i,q8 3 M (mM m) = 0)) (fun y i=>blk o19 (.cells (zAI o).toArray zn (0,0))::blk d18 (.cells (dcF d).toArray yQ (0,0))::SlC yQ 6 s1 (D1.flatMap dcF)::Sep.stars (D1.map dcO)::zA2 sd 3 (T + 1) S1::uO mr 3 M P1::vw P1::xE (kyS qO) Value.agg mb D::blk t5 (.cells (uD x).toArray zI (0,0))::Sep.stars (x.logs.map zBk)::SlC zn 10 x.gs (x.G.flatMap zAI)::Sep.stars (x.P.map zEX)::Γ) (fun y i=>o.mks.length - i) 0 ⟨rfl,Nat.zero_le _,by simp⟩ ?_
  rintro k10 ⟨ft,_⟩ a ⟨rfl,ha,hft⟩ hk10
  simp only at ha hft hk10 ⊢
  unfold zD.b10
  refine zF (fun hb2=>?_) fun hb2=>?_
  ·have hal:a < o.mks.length:=by simp only [decide_eq_true_eq] at hb2; omega
   have hgk:o.mks[a]? = some o.mks[a]:=List.getElem?_eq_getElem hal
   have hkm:o.mks[a] ∈ o.mks:=List.getElem_mem hal
   have htk:o.mks.take (a + 1) = o.mks.take a++[o.mks[a]]:=List.take_succ_eq_append_getElem hal
   generalize o.mks[a] = m at hgk hkm htk
   have hml:m.key.length ≤ 16:=by
    have h1:m.key ∈ o.mks.map MkX.key:=List.mem_map.2 ⟨m,hkm,rfl⟩
    rw [hok.ord.2.2.1,zE3] at h1
    exact q1 _ h1
   have next11:∀ {Ψ:List zC} {b:Bool},[dd:Drops Ψ (blk o19 (.cells (zAI o).toArray zn (0,0))::blk d18 (.cells (dcF d).toArray yQ (0,0))::SlC yQ 6 s1 (D1.flatMap dcF)::Sep.stars (D1.map dcO)::zA2 sd 3 (T + 1) S1::uO mr 3 M P1::vw P1::xE (kyS qO) Value.agg mb D::blk t5 (.cells (uD x).toArray zI (0,0))::Sep.stars (x.logs.map zBk)::SlC zn 10 x.gs (x.G.flatMap zAI)::Sep.stars (x.P.map zEX)::Γ)]→(b = true ↔ ft = true∧(zx 3 M (bs m.key)).home = m.home∧(zx 3 M (bs m.key)).cnt = m.cnt) →
     HG B Ψ (zD.s11 q k3 k5 k8 (fun x y=>k10 (x,y)) ps ⟨t5,0,none⟩ (some ⟨sd,0,none⟩) (some mb) (some ⟨mr,0,none⟩) (i:Int) ⟨d18,0,none⟩ ⟨o19,0,none⟩ b s1 (s1.n:Int) (j:Int) o.ms (o.ms.n:Int) (a:Int)):=fun {Ψ b dd} hbb=>by
    unfold zD.s11
    refine qB ?_
    refine zB (d:=dd) (hk10 (b,(a:Int) + 1) (a + 1) ⟨by simp,hal,?_⟩ (by omega))
    rw [hbb,htk,hft]
    constructor
    ·rintro ⟨h1,h2⟩ y hy
     rcases List.mem_append.1 hy with hy | hy
     ·exact h1 y hy
     ·rw [List.mem_singleton.1 hy]; exact zSO.2 h2
    ·intro h1
     exact ⟨fun y hy=>h1 y (List.mem_append_left _ hy),zSO.1 (h1 m (by simp))⟩
   refine zAc mkL zCZ (fun w hw=>(rdO w hw).2) hgk ?_
   refine zH fun k22=>?_
   refine qA (b:=k22) (l':=mkL m) ?_
   refine yB (b:=k22) (l:=mkL m) (x:=bs m.key) ?_
   refine zO mr ?_
   refine zGI (k:=bs m.key) (by have h1:(bs m.key).size = m.key.length:=rfl; omega) (by omega) fun sv hok6 hin6=>?_
   refine zH fun now=>?_
   refine qA (b:=now) (l':=jh (zx 3 M (bs m.key)) sv) ?_
   cases ft with
   | false=>
    refine s_f ?_ (by rfl)
    exact next11 (by simp)
   | true=>
    refine s_t ?_ (by rfl)
    refine yB (b:=now) (off:=2) (l:=jh (zx 3 M (bs m.key)) sv) (x:=(zx 3 M (bs m.key)).home) ?_
    refine yB (b:=k22) (off:=1) (l:=mkL m) (x:=m.home) ?_
    refine zF (fun h1=>?_) fun h1=>?_
    ·refine yB (b:=now) (off:=3) (l:=jh (zx 3 M (bs m.key)) sv) (x:=(zx 3 M (bs m.key)).cnt) ?_
     refine yB (b:=k22) (off:=2) (l:=mkL m) (x:=m.cnt) ?_
     exact next11 (by simp only [decide_eq_true_eq] at h1 ⊢; simp [h1])
    ·exact next11 (by simp only [decide_eq_false_iff_not] at h1; simp [h1])
  have hae:a = o.mks.length:=by simp only [decide_eq_false_iff_not] at hb2; omega
  rw [hae,List.take_length] at hft
  clear hk10 hb2 hae ha
  refine yB (b:=d18) (off:=4) (l:=dcF d) (x:=d.code) ?_
  rcases hcase with ⟨c1,c2,c3⟩ | ⟨c1,c2,c3,c4,c5⟩
  ·have c2:d.code = 112:=c2
   obtain rfl:ft = false:=by
    cases ft with
    | false=>rfl
    | true=>exact absurd (hft.1 rfl) c1
   refine s_f ?_ (by rw [c2]; rfl)
   refine s_t ?_ (by rfl)
   exact next9 (M':=M) (P':=P1) c3 hwf (by omega)
  have c2:d.code = (vT 3 M (zEi o.t)).2.2:=c2
  have c3:d.code ≠ 112:=c3
  have c4:d.O.map Prod.fst = if d.code = 0 then (vT 3 M (zEi o.t)).2.1 else []:=c4
  rw [zKc (zH4 o.t)] at c2 c4
  rw [zYc (zH4 o.t)] at c5
  obtain rfl:ft = true:=hft.2 c1
  refine s_f ?_ (by rw [decide_eq_true c3]; rfl)
  refine s_f ?_ (by rfl)
  refine qI (b:=o19) (off:=4) (l:=zAI o) (l':=txL o.t) ?_
  have ri:=zXm hrt hwf
  refine zO mr ?_
  refine ze (vw P1) ?_
  refine zB (Δ:=uO mr 3 M P1::vw P1::blk o19 (.cells (zAI o).toArray zn (0,0))::blk d18 (.cells (dcF d).toArray yQ (0,0))::SlC yQ 6 s1 (D1.flatMap dcF)::Sep.stars (D1.map dcO)::zA2 sd 3 (T + 1) S1::xE (kyS qO) Value.agg mb D::blk t5 (.cells (uD x).toArray zI (0,0))::Sep.stars (x.logs.map zBk)::SlC zn 10 x.gs (x.G.flatMap zAI)::Sep.stars (x.P.map zEX)::Γ) ?_
  refine zZb (t:=o.t) (fun y hy=>⟨⟨by have:=(q4 y hy).1; omega,by have:=(q4 y hy).2; omega,hok.nn y hy⟩,by have:=(q4 y hy).2; omega⟩) (by omega) (by omega) (fun y hy=>by have:=q1 y (List.mem_append_right _ hy); omega) (fun h2=>?_) (fun w hw=>(rdO w hw).1) fun P' os2 O2 rs2 R2 hP2 hO2 hR2 hOi hRi=>?_
  ·obtain ⟨_,y,hy⟩:=zED hrt h2
   rw [hy]; simp
  have he2:d.code = (zDm 3 M o.t).2.1:=by rw [c2,ri.code]
  have hOO:d.O.map Prod.fst = O2.map Prod.fst:=by
   rw [hO2,c4]
   split
   ·rename_i h0; exact ri.outs (by rw [← he2]; exact h0)
   ·rename_i h0; exact ((ri.bad (by rw [← he2]; exact h0)).1).symm
  have hRl:(qJ R2).length ≤ 16:=by
   rw [hR2]
   by_cases h0:d.code = 0
   ·rw [← ri.rows (by rw [← he2]; exact h0),(zAU _).length_eq]
    exact (zJv (n:=3) (M:=M) hrt).1
   ·rw [(ri.bad (by rw [← he2]; exact h0)).2]; simp
  have happ:jZ 3 M (wrU 3 M o.t) = zEl M (qJ R2):=by
   rw [hR2]
   unfold wrU
   by_cases h0:d.code = 0
   ·have h1:(zDm 3 M o.t).2.1 = 0:=by rw [← he2]; exact h0
    rw [if_pos (by rw [← c2]; exact h0),ri.rows h1]
    exact ri.app h1
   ·rw [if_neg (by rw [← c2]; exact h0),(ri.bad (by rw [← he2]; exact h0)).2]; rfl
  have hwf2:Wf 3 (zEl M (qJ R2)):=by rw [hR2]; exact ri.wf
  have hRl2:R2.length ≤ 16:=by simpa using hRl
  rw [happ] at c5
  rw [← he2]
  refine zH fun want=>?_
  refine qA (b:=want) (l':=[.int .i64 d.code,os2.val]) ?_
  refine zO mr ?_
  refine zVg (R:=R2) (fun w hw=>(yP (s:=rs2) hw).1) hRi (by omega) ?_
  refine qI (b:=d18) (off:=4) (l:=dcF d) (l':=[.int .i64 d.code,d.os.val]) ?_
  refine qI (b:=want) (l:=[.int .i64 d.code,os2.val]) (l':=[.int .i64 d.code,os2.val]) ?_
  have rdD:∀ {Ψ:List zC},[dd:Drops Ψ [SlC yQ 6 s1 (D1.flatMap dcF),Sep.stars (D1.map dcO)]]→∀ w,Holds B Ψ w→RdC w d.os 2 (d.O.flatMap oF)∧∀ y ∈ d.O,RdB w y.2 y.1.2:=fun {Ψ dd} w hw=>(zYW (Γ:=[]) (hw.drops (d:=dd))).2 d hdm
  refine zXT (X:=d.O) (Y:=O2) ?_ hOO (fun w hw=>(rdD w hw).1) (fun w hw=>(yP (s:=os2) hw).1) (fun y hy w hw=>(rdD w hw).2 y hy) (fun y hy w hw=>?_) ?_
  ·have:=hout (zGr d) (List.mem_map.2 ⟨d,hdm,rfl⟩)
   simp only [zGr,List.length_map] at this
   omega
  ·rcases hOi y hy with h1 | ⟨op,hop,e1,e2⟩
   ·exact h1.rd (hw.drops (Δ:=[vw P']))
   ·rw [e1,e2]; exact (rdO w hw).1.2.2.2 op hop
  refine s_f ?_ (by rfl)
  exact next9 (M':=zEl M (qJ R2)) (P':=P') c5 hwf2 (by have h9:=zOc M (qJ R2); simp only [List.length_map] at h9; omega)
 refine zPo (by omega) ?_
 refine zAW rfl ?_
 have tm:∀ z:Int,0 ≤ z→0 ≤ Int.tmod z 3∧Int.tmod z 3 < 3:=fun z hz=>⟨Int.tmod_nonneg _ hz,Int.tmod_lt_of_pos _ (by omega)⟩
 refine zF (fun hc=>?_) fun hc=>?_
 ·have hil:i < P.length:=by simp only [decide_eq_true_eq] at hc; omega
  refine zAd (L:=P) (c:=Value.int .i64) (j:=i) (x:=P[i]) (fun w hw=>hP.old hw) (List.getElem?_eq_getElem hil) ?_
  obtain ⟨u3,u4⟩:=zcg P[i]
  refine zAW rfl ?_
  refine zPo (by omega) ?_
  refine zAW rfl ?_
  obtain ⟨v1,v2⟩:=tm _ u3
  exact S7 _ v1 v2
 ·obtain ⟨v1,v2⟩:=tm (i:Int) (by omega)
  exact S7 _ v1 v2
open Go.RowKit in
theorem zKp (W:World) (s0:Sl) (y0:Rdy W zBO (Sl.val s0).cells.toList) (s1:Sl) (y1:Rdy W zK4 (Sl.val s1).cells.toList) :
  Calls Tryz.prog 5 #[s0.val,s1.val] W (Ret fun v w'=>v = .bool true∧Below W.heap.size W w'):=by
 obtain ⟨L,hL,hd⟩:=zV6 y0
 obtain ⟨M,hM,_⟩:=zWp y1
 exact zWh (zNZ (Γ:=[]) hL hd hM (fun w h=>⟨rfl,h⟩) W (Holds.start W))
end
end
end Go.Proofs.YtdemfamgieonbaaGreat
