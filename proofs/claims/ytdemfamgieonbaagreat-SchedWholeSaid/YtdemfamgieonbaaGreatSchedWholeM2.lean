/- Texts of the claim SchedWhole, one behind the other. -/
import Derived.Test.YtdemfamgieonbaaGreatSchedWholeM1
import Derived.Test.YtdemfamgieonbaaGreatProg
import Derived.DefersIn
import Derived.RangeFuncLeaves
import Derived.MapKept
import GoSem.Instr.MapUpdate
set_option linter.all false
namespace Go.Sep
open Go Go.RowKit
namespace Bt
section
variable {κ:Type} {G:BtT κ} {c:κ→κ→Int} {B:World} {Γ Δ:List HProp}
def TreeR (G:BtT κ) (c:κ→κ→Int) (t:Nat) (L:List G.It):HProp:=ex fun d=>ex fun b=>Sep.stars [pur (Srt c L),blk t (.cells [.pointer (some ⟨b,0,none⟩),.int .i64 L.length].toArray G.tT (0,0)),NodeR G d 1 b L]
instance (priority:=high) zT4 {t:Nat} {L:List G.It}:Own t (TreeR G c t L::Γ) (TreeR G c t L) Γ:=⟨.refl _⟩
theorem s_tree {t:Nat} {L:List G.It} {k:K} (h:∀ d b,Srt c L→HG B (blk t (.cells [.pointer (some ⟨b,0,none⟩),.int .i64 L.length].toArray G.tT (0,0))::NodeR G d 1 b L::Γ) k):HG B (TreeR G c t L::Γ) k :=
 s_ex fun d=>s_ex fun b=>s_flat <| s_pur fun h1=>h d b h1
theorem zSm {t d b:Nat} {L:List G.It} {w:World} (h1:Srt c L) (hw:Holds B (blk t (.cells [.pointer (some ⟨b,0,none⟩),.int .i64 L.length].toArray G.tT (0,0))::NodeR G d 1 b L::Γ) w):Holds B (TreeR G c t L::Γ) w:=by
 have h3:Holds B (Sep.stars [pur (Srt c L),blk t (.cells [.pointer (some ⟨b,0,none⟩),.int .i64 L.length].toArray G.tT (0,0)),NodeR G d 1 b L]::Γ) w:=Holds.flat.2 (Holds.pur.2 ⟨h1,hw⟩)
 exact h3.imp fun g hg=>⟨d,b,hg⟩
theorem zDx {t d b:Nat} {L:List G.It} {k:K} (h1:Srt c L) (h:HG B (TreeR G c t L::Γ) k):HG B (blk t (.cells [.pointer (some ⟨b,0,none⟩),.int .i64 L.length].toArray G.tT (0,0))::NodeR G d 1 b L::Γ) k:=fun w hw=>h w (zSm h1 hw)
theorem zJf {t:Nat} {L:List G.It} {k:K} (h:Srt c L→HG B (TreeR G c t L::Γ) k):HG B (TreeR G c t L::Γ) k:=s_tree fun d b h1=>zDx h1 (h h1)
theorem zP0 {Q:Option Addr→K} (h:∀ t,HG B (TreeR G c t []::Γ) (Q (some ⟨t,0,none⟩))):HG B Γ (tnew G Q):=by
 unfold tnew
 refine s_new fun b=>?_
 refine s_new fun t=>?_
 refine fun w hw=>?_
 refine hg (show Holds B (SlC G.tI (G.nv + 1) ⟨none,0,0⟩ []::_) w from hw.nilSl G.tI (G.nv + 1)) ?_
 refine fun w hw=>?_
 refine hg (show Holds B (SlC G.tK 1 ⟨none,0,0⟩ []::_) w from hw.nilSl G.tK 1) ?_
 refine s_end (Δ:=nodeB G b ⟨none,0,0⟩ ⟨none,0,0⟩::SlC G.tI (G.nv + 1) ⟨none,0,0⟩ []::SlC G.tK 1 ⟨none,0,0⟩ []::blk t (.cells [.pointer (some ⟨b,0,none⟩),.int .i64 0].toArray G.tT (0,0))::Γ) ?_
 refine s_mk0 (m:=1) (L:=[]) (by simp) (by simp) ?_
 refine s_swap ?_
 exact zDx (L:=[]) List.Pairwise.nil (h t)
theorem NodeR.weak {d m m' b:Nat} {L:List G.It} (hm:m' = 2→m = 2) (hm':1 ≤ m'→1 ≤ m):∀ h,NodeR G d m b L h→NodeR G d m' b L h:=fun h hh=>by
 cases d with
 | zero =>
  obtain ⟨s,kd,hh⟩:=hh
  exact ⟨s,kd,zDp (fun g hg=>⟨fun h2=>hg.1 (hm h2),hg.2⟩) (fun _ h=>h) hh⟩
 | succ d =>
  obtain ⟨s,kd,q0,ps,hh⟩:=hh
  exact ⟨s,kd,q0,ps,zDp (fun g hg=>⟨fun h2=>hg.1 (hm' h2),hg.2⟩) (fun _ h=>h) hh⟩
theorem PutR.srt (ok:BtOk G c) {ν:Type} {z v old:ν} {L L':List (κ×ν)} {k:κ} {had:Bool} (h:PutR c z L k v L' old had) (hs:Srt c L):Srt c L':=by
 rcases h with ⟨A,C,rfl,rfl,rfl⟩ | ⟨A,C,rfl,h1,h2,rfl,rfl,rfl⟩
 ·obtain ⟨a1,a2,a3⟩:=List.pairwise_append.1 hs
  obtain ⟨b1,b2⟩:=List.pairwise_cons.1 a2
  refine List.pairwise_append.2 ⟨a1,List.pairwise_cons.2 ⟨fun y hy=>b1 y hy,b2⟩,fun x hx y hy=>?_⟩
  rcases List.mem_cons.1 hy with rfl | hy
  ·exact a3 x hx (k,old) List.mem_cons_self
  ·exact a3 x hx y (List.mem_cons_of_mem _ hy)
 ·obtain ⟨a1,a2,a3⟩:=List.pairwise_append.1 hs
  refine List.pairwise_append.2 ⟨a1,List.pairwise_cons.2 ⟨fun y hy=>h2 y hy,a2⟩,fun x hx y hy=>?_⟩
  rcases List.mem_cons.1 hy with rfl | hy
  ·exact h1 x hx
  ·exact a3 x hx y hy
theorem PutR.len {ν:Type} {z v old:ν} {L L':List (κ×ν)} {k:κ} {had:Bool} (h:PutR c z L k v L' old had):L'.length = L.length + (if had then 0 else 1):=by
 rcases h with ⟨A,C,rfl,rfl,rfl⟩ | ⟨A,C,rfl,h1,h2,rfl,rfl,rfl⟩
 ·simp
 ·simp; omega
theorem zSn {kz a:Value} {vz us:List Value} {n:Nat} (ha:flatV a = true) (hz:vz.length = n) (hu:us.length = n):Instr.fill ([(0,1),(1,n)][·]?) (kz::vz).toArray [(0,a),(1,.agg us.toArray)] = some (a::us).toArray:=by
 have h0:a.cells = #[a]:=by cases a <;> first | rfl | (simp [flatV] at ha)
 have h1:(Value.agg us.toArray).cells = us.toArray:=rfl
 have e0:([(0,1),(1,n)]:List (Nat×Nat))[0]? = some (0,1):=rfl
 have e1:([(0,1),(1,n)]:List (Nat×Nat))[1]? = some (1,n):=rfl
 simp only [Instr.fill,h0,h1,e0,e1]
 have h2:=zEq us [a] vz (by simp; omega)
 simp [hu,hz]
 refine ⟨by omega,?_⟩
 rw [show [a].length = 1 from rfl,List.zipIdx_eq_map_add,List.foldl_map] at h2
 simpa [Nat.add_comm] using h2
theorem zOf (ok:BtOk G c) {o t6:Nat} {old:Cel G.nv} {v6:Cel G.nv} {had:Bool} {Q:Array Value→Bool→K} (h:HG B Γ (Q old.1.toArray had)):HG B (valB G o old::valB G t6 v6::Γ) (zIn G Q ⟨t6,0,none⟩ ⟨o,0,none⟩ had):=by
 unfold zIn
 have e:(old.1.drop 0).take G.nv = old.1:=by rw [List.drop_zero,List.take_of_length_le (Nat.le_of_eq old.2.1)]
 refine s_ldN (b:=o) ?_ e old.2.1
 refine s_stN (b:=t6) ?_ v6.2.1 old.2.1 old.2.2
 refine s_ldN (b:=t6) ?_ e old.2.1
 exact s_end h
theorem zK5 (ok:BtOk G c) {o t t6 d b n:Nat} {L L':List G.It} {k:κ} {v old v6:Cel G.nv} {had:Bool} {Q:Array Value→Bool→K} (hs:Srt c L) (hL:L.length < 1000000000) (hp:PutR c (G.z0 ok.vz) L k v L' old had)
  (h:HG B (TreeR G c t L'::Γ) (Q old.1.toArray had)) :
  HG B (valB G o old::valB G t6 v6::blk t (.cells [.pointer (some ⟨b,0,none⟩),.int .i64 L.length].toArray G.tT (0,0))::NodeR G d 1 b L'::Γ) (zGv G Q (some ⟨t,0,none⟩) ⟨t6,0,none⟩ ⟨o,0,none⟩ had):=by
 unfold zGv
 have hlen:=hp.len
 refine s_ite (fun hb=>?_) fun hb=>?_
 ·have h0:had = false:=by simpa using hb
  refine s_nn ?_
  refine s_ld (b:=t) (x:=(L.length:Int)) ?_
  refine s_ai ?_
  refine s_st (b:=t) ?_
  rw [show ((L.length:Nat):Int) + 1 = ((L'.length:Nat):Int) by rw [hlen,h0]; simp]
  refine s_end (Δ:=valB G o old::valB G t6 v6::blk t (.cells [.pointer (some ⟨b,0,none⟩),.int .i64 L'.length].toArray G.tT (0,0))::NodeR G d 1 b L'::Γ) ?_
  refine zOf ok ?_
  exact zDx (hp.srt ok hs) h
 ·have h0:had = true:=by simpa using hb
  rw [show ((L.length:Nat):Int) = ((L'.length:Nat):Int) by rw [hlen,h0]; simp]
  refine zOf ok ?_
  exact zDx (hp.srt ok hs) h
theorem zOg (ok:BtOk G c) {o t t6 d b n:Nat} {L L':List G.It} {k:κ} {v old v6:Cel G.nv} {had:Bool} {Q:Array Value→Bool→K} (hs:Srt c L) (hL:L.length < 1000000000) (hp:PutR c (G.z0 ok.vz) L k v L' old had)
  (h:HG B (TreeR G c t L'::Γ) (Q old.1.toArray had)) :
  HG B (valB G o old::valB G t6 v6::blk t (.cells [.pointer (some ⟨b,0,none⟩),.int .i64 L.length].toArray G.tT (0,0))::NodeR G d 2 b L'::Γ) (zF7 G Q (some ⟨t,0,none⟩) ⟨t6,0,none⟩ ⟨o,0,none⟩ had none none):=by
 unfold zF7
 refine s_f ?_
 refine s_own b ?_
 refine s_conv (NodeR.weak (m':=1) (by simp) (by simp)) ?_
 refine s_end (Δ:=valB G o old::valB G t6 v6::blk t (.cells [.pointer (some ⟨b,0,none⟩),.int .i64 L.length].toArray G.tT (0,0))::NodeR G d 1 b L'::Γ) ?_
 exact zK5 ok (n:=n) hs hL hp h
theorem s_root {b r b2 t1 t2 d:Nat} {M1 M2:List G.It} {x:G.It} {k:K} (h:HG B (NodeR G (d + 1) 1 b2 (M1++x::M2)::Γ) k) :
  HG B (nodeB G b2 ⟨some ⟨t1,0,none⟩,1,1⟩ ⟨some ⟨t2,0,none⟩,2,2⟩::blk t1 (.cells (G.f x).toArray G.tI (0,0))::blk t2 (.cells [.pointer (some ⟨b,0,none⟩),.pointer (some ⟨r,0,none⟩)].toArray G.tK (0,0))::NodeR G d 2 b M1::NodeR G d 2 r M2::Γ) k:=by
 refine s_own t1 ?_
 refine s_conv (A':=itsR G ⟨some ⟨t1,0,none⟩,1,1⟩ [x]) (zEU (vs:=[x].flatMap G.f) (by simp) (by simp [G.f_len])) ?_
 refine s_own t2 ?_
 refine s_conv (A':=kpsR G ⟨some ⟨t2,0,none⟩,2,2⟩ [some ⟨b,0,none⟩,some ⟨r,0,none⟩]) (zEU (vs:=[Value.pointer (some ⟨b,0,none⟩),Value.pointer (some ⟨r,0,none⟩)]) (by simp) (by simp)) ?_
 refine fun w hw=>?_
 refine hg (show Holds B (kidsR G d []::_) w from Holds.flat.2 hw) ?_
 refine s_end (Δ:=NodeR G d 2 r M2::kidsR G d []::NodeR G d 2 b M1::nodeB G b2 ⟨some ⟨t1,0,none⟩,1,1⟩ ⟨some ⟨t2,0,none⟩,2,2⟩::itsR G ⟨some ⟨t1,0,none⟩,1,1⟩ [x]::kpsR G ⟨some ⟨t2,0,none⟩,2,2⟩ [some ⟨b,0,none⟩,some ⟨r,0,none⟩]::Γ) ?_
 show HG B (_::kidsR G d ([]++[])::_) k
 refine zDs (A:=[]) (C:=[]) (q:=(r,M2)) ?_
 refine s_swap ?_
 refine zDs (A:=[]) (C:=[(r,M2)]) (q:=(b,M1)) ?_
 show HG B (kidsR G d (((b,M1):Kid G)::[(x,((r,M2):Kid G))].map Prod.snd)::_::itsR G ⟨some ⟨t1,0,none⟩,1,1⟩ ([(x,((r,M2):Kid G))].map Prod.fst)::kpsR G ⟨some ⟨t2,0,none⟩,2,2⟩ ((((b,M1):Kid G)::[(x,((r,M2):Kid G))].map Prod.snd).map ptr)::_) k
 refine s_end (Δ:=nodeB G b2 ⟨some ⟨t1,0,none⟩,1,1⟩ ⟨some ⟨t2,0,none⟩,2,2⟩::itsR G ⟨some ⟨t1,0,none⟩,1,1⟩ ([(x,((r,M2):Kid G))].map Prod.fst)::kpsR G ⟨some ⟨t2,0,none⟩,2,2⟩ ((((b,M1):Kid G)::[(x,((r,M2):Kid G))].map Prod.snd).map ptr)::kidsR G d (((b,M1):Kid G)::[(x,((r,M2):Kid G))].map Prod.snd)::Γ) ?_
 refine s_mkS (m:=1) (by simp) (by simp) ?_
 have e:psL ((b,M1):Kid G) [(x,(r,M2))] = M1++x::M2:=by simp [psL]
 rw [e]; exact h
theorem zNA (ok:BtOk G c) {o t t6 d b n r mb:Nat} {L M1 M2:List G.It} {x:G.It} {k:κ} {v old v6:Cel G.nv} {had:Bool} {Q:Array Value→Bool→K} (hs:Srt c L) (hL:L.length < 1000000000) (hp:PutR c (G.z0 ok.vz) L k v (M1++x::M2) old had)
  (h:HG B (TreeR G c t (M1++x::M2)::Γ) (Q old.1.toArray had)) :
  HG B (valB G o old::valB G t6 v6::blk t (.cells [.pointer (some ⟨b,0,none⟩),.int .i64 L.length].toArray G.tT (0,0))::blk mb (.cells (G.f x).toArray G.tI (0,0))::NodeR G d 2 b M1::NodeR G d 2 r M2::Γ) (zF7 G Q (some ⟨t,0,none⟩) ⟨t6,0,none⟩ ⟨o,0,none⟩ had (some ⟨mb,0,none⟩) (some ⟨r,0,none⟩)):=by
 unfold zF7
 refine s_t ?_
 refine s_dr ?_
 refine s_ws ?_
 refine s_nn ?_
 refine s_nn ?_
 refine s_ldNS (b:=mb) (l':=G.f x) ?_ (List.take_of_length_le (by simp [G.f_len])) (G.f_len _)
 refine s_ldS (b:=t) (x:=some ⟨b,0,none⟩) ?_
 refine s_all2 ?_ ?_
 ·refine s_bld1 ?_ (by simp [ok.vz.1]) (G.f_len _)
  refine s_new fun t1=>?_
  refine s_sv ?_
  refine s_new fun t2=>?_
  refine s_sv ?_
  refine s_new fun b2=>?_
  refine s_st (b:=t) ?_
  refine s_end (Δ:=nodeB G b2 ⟨some ⟨t1,0,none⟩,1,1⟩ ⟨some ⟨t2,0,none⟩,2,2⟩::blk t1 (.cells (G.f x).toArray G.tI (0,0))::blk t2 (.cells [.pointer (some ⟨b,0,none⟩),.pointer (some ⟨r,0,none⟩)].toArray G.tK (0,0))::NodeR G d 2 b M1::NodeR G d 2 r M2::valB G o old::valB G t6 v6::blk t (.cells [.pointer (some ⟨b2,0,none⟩),.int .i64 L.length].toArray G.tT (0,0))::Γ) ?_
  refine s_root ?_
  refine s_end (Δ:=valB G o old::valB G t6 v6::blk t (.cells [.pointer (some ⟨b2,0,none⟩),.int .i64 L.length].toArray G.tT (0,0))::NodeR G (d + 1) 1 b2 (M1++x::M2)::Γ) ?_
  exact zK5 ok (n:=n) hs hL hp h
 ·refine s_new fun t2=>?_
  refine s_sv ?_
  refine s_bld1 ?_ (by simp [ok.vz.1]) (G.f_len _)
  refine s_new fun t1=>?_
  refine s_sv ?_
  refine s_new fun b2=>?_
  refine s_st (b:=t) ?_
  refine s_end (Δ:=nodeB G b2 ⟨some ⟨t1,0,none⟩,1,1⟩ ⟨some ⟨t2,0,none⟩,2,2⟩::blk t1 (.cells (G.f x).toArray G.tI (0,0))::blk t2 (.cells [.pointer (some ⟨b,0,none⟩),.pointer (some ⟨r,0,none⟩)].toArray G.tK (0,0))::NodeR G d 2 b M1::NodeR G d 2 r M2::valB G o old::valB G t6 v6::blk t (.cells [.pointer (some ⟨b2,0,none⟩),.int .i64 L.length].toArray G.tT (0,0))::Γ) ?_
  refine s_root ?_
  refine s_end (Δ:=valB G o old::valB G t6 v6::blk t (.cells [.pointer (some ⟨b2,0,none⟩),.int .i64 L.length].toArray G.tT (0,0))::NodeR G (d + 1) 1 b2 (M1++x::M2)::Γ) ?_
  exact zK5 ok (n:=n) hs hL hp h
theorem zP1 (ok:BtOk G c) {t:Nat} {L:List G.It} {k:κ} {v:Cel G.nv} {Q:Array Value→Bool→K} (hL:L.length < 1000000000) (h:∀ L' old had,PutR c (G.z0 ok.vz) L k v L' old had→HG B (TreeR G c t L'::Γ) (Q old.1.toArray had)) :
  HG B (TreeR G c t L::Γ) (tput G (some ⟨t,0,none⟩) k v.1.toArray Q):=by
 refine s_tree fun d b hs=>?_
 unfold tput
 refine s_new fun v5=>?_
 refine s_new fun t6=>?_
 refine s_dr ?_
 refine s_ws ?_
 refine s_nn ?_
 refine s_ldS (b:=t) (x:=some ⟨b,0,none⟩) ?_
 refine s_ldNS (b:=v5) (off:=0) (l:=v.1) (l':=v.1) ?_ (List.take_of_length_le (Nat.le_of_eq v.2.1)) v.2.1
 refine s_bld (cs:=G.f (k,v)) ?_ (zSn (ok.kf k) ok.vz.1 v.2.1)
 refine s_all2 ?_ ?_
 ·refine s_end (Δ:=NodeR G d 1 b L::blk t (.cells [.pointer (some ⟨b,0,none⟩),.int .i64 L.length].toArray G.tT (0,0))::valB G t6 (G.z0 ok.vz)::Γ) ?_
  refine zLr ok d (m:=1) (Nat.le_refl _) hs (fun M' old had hp=>?_) fun M1 x M2 old had r mb hp=>?_
  ·refine s_new fun o=>?_
   refine s_stN (b:=o) ?_ ok.vz.1 old.2.1 old.2.2
   refine s_end (Δ:=valB G o old::valB G t6 (G.z0 ok.vz)::blk t (.cells [.pointer (some ⟨b,0,none⟩),.int .i64 L.length].toArray G.tT (0,0))::NodeR G d 2 b M'::Γ) ?_
   exact zOg ok (n:=0) hs hL hp (h _ _ _ hp)
  ·refine s_new fun o=>?_
   refine s_stN (b:=o) ?_ ok.vz.1 old.2.1 old.2.2
   refine s_end (Δ:=valB G o old::valB G t6 (G.z0 ok.vz)::blk t (.cells [.pointer (some ⟨b,0,none⟩),.int .i64 L.length].toArray G.tT (0,0))::blk mb (.cells (G.f x).toArray G.tI (0,0))::NodeR G d 2 b M1::NodeR G d 2 r M2::Γ) ?_
   exact zNA ok (n:=0) hs hL hp (h _ _ _ hp)
 ·refine s_new fun o=>?_
  refine s_sv ?_
  refine s_end (Δ:=NodeR G d 1 b L::blk t (.cells [.pointer (some ⟨b,0,none⟩),.int .i64 L.length].toArray G.tT (0,0))::valB G t6 (G.z0 ok.vz)::valB G o (G.z0 ok.vz)::Γ) ?_
  refine zLr ok d (m:=1) (Nat.le_refl _) hs (fun M' old had hp=>?_) fun M1 x M2 old had r mb hp=>?_
  ·refine s_stN (b:=o) ?_ ok.vz.1 old.2.1 old.2.2
   refine s_end (Δ:=valB G o old::valB G t6 (G.z0 ok.vz)::blk t (.cells [.pointer (some ⟨b,0,none⟩),.int .i64 L.length].toArray G.tT (0,0))::NodeR G d 2 b M'::Γ) ?_
   exact zOg ok (n:=0) hs hL hp (h _ _ _ hp)
  ·refine s_stN (b:=o) ?_ ok.vz.1 old.2.1 old.2.2
   refine s_end (Δ:=valB G o old::valB G t6 (G.z0 ok.vz)::blk t (.cells [.pointer (some ⟨b,0,none⟩),.int .i64 L.length].toArray G.tT (0,0))::blk mb (.cells (G.f x).toArray G.tI (0,0))::NodeR G d 2 b M1::NodeR G d 2 r M2::Γ) ?_
   exact zNA ok (n:=0) hs hL hp (h _ _ _ hp)
structure At (G:BtT κ) where
 d:Nat
 m:Nat
 b:Nat
 M:List G.It
 W:List HProp
 A:List G.It
 C:List G.It
theorem zP2 (ok:BtOk G c) {t:Nat} {L:List G.It} {k:κ} {Q:Array Value→Bool→K} (hfound:∀ A v C,L = A++(k,v)::C→HG B (TreeR G c t L::Γ) (Q v.1.toArray true)) (hnot:(∀ A C,L = A++C→(∀ x ∈ A,c x.1 k < 0)→(∀ x ∈ C,c k x.1 < 0)→HG B (TreeR G c t L::Γ) (Q G.vz.toArray false))) :
  HG B (TreeR G c t L::Γ) (tget G (some ⟨t,0,none⟩) k Q):=by
 refine s_tree fun d b hs=>?_
 unfold tget
 refine s_new fun o=>?_
 refine s_nn ?_
 refine s_ld (b:=t) (x:=some ⟨b,0,none⟩) ?_
 let W0:List HProp:=blk t (.cells [.pointer (some ⟨b,0,none⟩),.int .i64 L.length].toArray G.tT (0,0))::Γ
 refine s_end (Δ:=NodeR G d 1 b L::valB G o (G.z0 ok.vz)::W0) ?_
 refine s_loop (ι:=At G) (fun x i=>x = some ⟨i.b,0,none⟩∧L = i.A++i.M++i.C∧(∀ x ∈ i.A,c x.1 k < 0)∧(∀ x ∈ i.C,c k x.1 < 0)∧∀ k',HG B (TreeR G c t L::Γ) k'→HG B (NodeR G i.d i.m i.b i.M::i.W) k')
  (fun x i=>NodeR G i.d i.m i.b i.M::valB G o (G.z0 ok.vz)::i.W) (fun x i=>i.d) (⟨d,1,b,L,W0,[],[]⟩:At G) ⟨rfl,by simp,by simp,by simp,fun k' hk=>?_⟩ ?_
 ·refine s_end (Δ:=blk t (.cells [.pointer (some ⟨b,0,none⟩),.int .i64 L.length].toArray G.tT (0,0))::NodeR G d 1 b L::Γ) ?_
  exact zDx hs hk
 clear d b W0
 rintro k' _ ⟨d,m,b,M,W,A,C⟩ ⟨rfl,hL,hA,hC,cl⟩ hk
 simp only at hL hA hC cl hk ⊢
 have hsM:Srt c M:=by rw [hL] at hs; exact (List.pairwise_append.1 (List.pairwise_append.1 hs).1).2.1
 unfold zOd
 cases d with
 | zero =>
  refine zF9 fun s kd hm hl=>?_
  refine zFU ok (s:=s) (kd:=kd) hsM (by omega) (fun A' v C' e=>?_) fun A' C' e hA' hC'=>?_
  ·subst e
   refine s_t ?_
   refine s_nn ?_
   refine s_cap s fun l1 l2 l3 l4=>?_
   rw [zAT G.f _ G.f_len] at l1
   have hn:s.n = (A'++(k,v)::C').length:=(Nat.eq_of_mul_eq_mul_right (by omega) l1).symm
   have hlen:(A'++(k,v)::C').length = A'.length + (C'.length + 1):=List.length_append
   refine s_ld (b:=b) (x:=s) ?_
   refine s_idx (s:=s) (i:=A'.length) ?_
   refine s_ldEN (s:=s) (l':=v.1) zFV v.2.1 ?_
   refine s_stN (b:=o) ?_ ok.vz.1 v.2.1 v.2.2
   refine s_ldN (b:=o) (off:=0) (l:=v.1) (l':=v.1) ?_ (List.take_of_length_le (Nat.le_of_eq v.2.1)) v.2.1
   refine s_end (Δ:=nodeB G b s kd::itsR G s (A'++(k,v)::C')::kpsR G kd []::W) ?_
   refine s_mk0 hm hl (cl _ (hfound (A++A') v (C'++C) ?_))
   rw [hL]; simp
  ·subst e
   refine s_f ?_
   refine s_nn ?_
   refine s_cap kd fun m1 m2 m3 m4=>?_
   refine s_ld (b:=b) (x:=kd) ?_
   refine s_t ?_ (by simpa using m1.symm)
   refine s_ret3 (v:=G.z0 ok.vz) ?_
   refine s_end (Δ:=nodeB G b s kd::itsR G s (A'++C')::kpsR G kd []::W) ?_
   refine s_mk0 hm hl (cl _ (hnot (A++A') (C'++C) ?_ (fun x hx=>?_) fun x hx=>?_))
   ·rw [hL]; simp
   ·rcases List.mem_append.1 hx with hx | hx
    ·exact hA x hx
    ·exact hA' x hx
   ·rcases List.mem_append.1 hx with hx | hx
    ·exact hC' x hx
    ·exact hC x hx
 | succ d =>
  refine zGx fun s kd q0 ps hne hl hM=>?_
  subst hM
  refine zFU ok (s:=s) (kd:=kd) (hsM.sub (zGw q0 ps)) (by simp; omega) (fun A' v C' e=>?_) fun A' C' e hA' hC'=>?_
  ·rw [e]
   refine s_t ?_
   refine s_nn ?_
   refine s_cap s fun l1 l2 l3 l4=>?_
   rw [zAT G.f _ G.f_len] at l1
   have hn:s.n = (A'++(k,v)::C').length:=(Nat.eq_of_mul_eq_mul_right (by omega) l1).symm
   have hlen:(A'++(k,v)::C').length = A'.length + (C'.length + 1):=List.length_append
   refine s_ld (b:=b) (x:=s) ?_
   refine s_idx (s:=s) (i:=A'.length) ?_
   refine s_ldEN (s:=s) (l':=v.1) zFV v.2.1 ?_
   refine s_stN (b:=o) ?_ ok.vz.1 v.2.1 v.2.2
   refine s_ldN (b:=o) (off:=0) (l:=v.1) (l':=v.1) ?_ (List.take_of_length_le (Nat.le_of_eq v.2.1)) v.2.1
   rw [← e]
   refine s_end (Δ:=nodeB G b s kd::itsR G s (ps.map Prod.fst)::kpsR G kd ((q0::ps.map Prod.snd).map ptr)::kidsR G d (q0::ps.map Prod.snd)::W) ?_
   obtain ⟨A2,C2,e2⟩:∃ A2 C2,psL q0 ps = A2++(k,v)::C2:=List.append_of_mem ((zGw q0 ps).subset (by rw [e]; simp))
   refine s_mkS hne hl (cl _ (hfound (A++A2) v (C2++C) ?_))
   rw [hL,e2]; simp
  ·obtain ⟨l,q,r,rfl,rfl,hK,hL2,hlen⟩:=zip_of (q0:=q0) e
   rw [hK]
   rw [hL2] at hsM hL
   refine s_f ?_
   refine s_nn ?_
   have hkl:((l.map Prod.fst++q::r.map Prod.snd).map ptr).length = l.length + r.length + 1:=by simp; omega
   refine s_cap kd fun m1 m2 m3 m4=>?_
   rw [kp_len,hkl] at m1
   refine s_ld (b:=b) (x:=kd) ?_
   refine s_f ?_ (by simp; omega)
   refine s_ld (b:=b) (x:=kd) ?_
   refine s_idx (s:=kd) (i:=l.length) ?_ (by simp)
   refine s_ldE0 (s:=kd) (x:=ptr q) (by simp) ?_
   refine s_pick (kidsR G d (l.map Prod.fst++q::r.map Prod.snd)) ?_
   refine s_kid ?_
   have hs1:=List.pairwise_append.1 hsM
   have hs2:=List.pairwise_append.1 hs1.1
   have hpre:=pre_lt ok l hs2.1 hA'
   have hpost:=zIo ok r hs1.2.1 hC'
   refine s_end (Δ:=NodeR G d 2 q.1 q.2::valB G o (G.z0 ok.vz)::kidsR G d (l.map Prod.fst++r.map Prod.snd)::nodeB G b s kd::itsR G s (ps.map Prod.fst)::kpsR G kd ((l.map Prod.fst++q::r.map Prod.snd).map ptr)::W) ?_
   refine hk _ (⟨d,2,q.1,q.2,kidsR G d (l.map Prod.fst++r.map Prod.snd)::nodeB G b s kd::itsR G s (ps.map Prod.fst)::kpsR G kd ((l.map Prod.fst++q::r.map Prod.snd).map ptr)::W,A++preL l,postL r++C⟩:At G) ⟨rfl,?_,fun x hx=>?_,fun x hx=>?_,fun k' hk'=>?_⟩ (Nat.lt_succ_self _)
   ·rw [hL]; simp
   ·rcases List.mem_append.1 hx with hx | hx
    ·exact hA x hx
    ·exact hpre x hx
   ·rcases List.mem_append.1 hx with hx | hx
    ·exact hpost x hx
    ·exact hC x hx
   ·refine zDs ?_
    rw [← hK]
    refine s_end (Δ:=nodeB G b s kd::itsR G s (ps.map Prod.fst)::kpsR G kd ((q0::ps.map Prod.snd).map ptr)::kidsR G d (q0::ps.map Prod.snd)::W) ?_
    exact s_mkS hne hl (cl k' hk')
end
end Bt
end Go.Sep
namespace Go.Sep
open Go
def G (dl:List Deferred) (n:Nat) (σ:List (Nat×Value)) (k:K) (X:Act→World→Prop):Prop:=∀ a w,SlotsD dl a n σ→k w→X a w
abbrev fe:Option Nat→Fence
 | none=>Fence.wide
 | some l=>Fence.wide.inRound l
def Cx (r:Option Nat) (P:Program) (c:Code) (Q:Exit→Act→World→Prop):Act→World→Prop:=fun a w=>c.wpIn (fe r) 0 P Q a w
def Tx (r:Option Nat) (P:Program) (ops:Array Oper) (Q:Exit→Act→World→Prop) (l:List Oper):Act→World→Prop:=fun a w=>wpListIn (fe r) 0 P ops Q l a w
def Ex (Q:Exit→Act→World→Prop) (e:Exit):Act→World→Prop:=fun a w=>Q e a w
def isDef:Op→Bool
 | .defer _=>true
 | _=>false
theorem zHM {o:Oper} (h:isDef o.op = false):∀ c,o.op ≠ .defer c:=fun c hc=>by rw [hc] at h; cases h
theorem zGA:∀ r,Free (fe r)
 | none=>zGO
 | some l=>zGO.round l
theorem zRJ:∀ r,(fe r).alive = false
 | none=>rfl
 | some _=>rfl
theorem zRK:∀ r,(fe r).depth = none
 | none=>rfl
 | some _=>rfl
section
variable {P:Program} {dl:List Deferred} {n:Nat} {σ τ:List (Nat×Value)} {k:K} {X:Act→World→Prop} {r:Option Nat} {ops:Array Oper} {Q:Exit→Act→World→Prop} {l:List Oper} {o:Oper} {a:Act} {w w':World} {v:Value}
theorem zDn {K1:Act→World→Prop} (hs:SlotsD dl a n σ) (nd:isDef o.op = false) (hp:Eff P σ o w (.value v) w') (h:K1 (a.put o.dst v) w'):o.wpIn (fe r) 0 P a w K1 Q:=by
 refine ⟨fun f _=>(zGA r).fn f,?_⟩
 rw [Oper.semAt_eq _ _ _ (zHM nd)]
 have h1:(execOp a.eval o).run P w = .ok (.value v) w':=hp { a with defers:=[] } n hs.1
 rw [h1,Oper.uponIn_value]; exact h
theorem zK6 {K1:Act→World→Prop} (hs:SlotsD dl a n σ) (nd:isDef o.op = false) (hp:Eff P σ o w .skip w') (h:K1 (a.put o.dst undef) w'):o.wpIn (fe r) 0 P a w K1 Q:=by
 refine ⟨fun f _=>(zGA r).fn f,?_⟩
 rw [Oper.semAt_eq _ _ _ (zHM nd)]
 have h1:(execOp a.eval o).run P w = .ok .skip w':=hp { a with defers:=[] } n hs.1
 rw [h1,Oper.uponIn_skip]; exact h
theorem zGy {K1:Act→World→Prop} {f:FuncId} {args:Array Value} {kk:Value→K} (hs:SlotsD dl a n σ) (nd:isDef o.op = false) (hp:Eff P σ o w (.enter f args) w') (hc:Calls P f args w' (Ret kk))
  (h:∀ v w,kk v w→K1 (a.put o.dst v) w):o.wpIn (fe r) 0 P a w K1 Q:=by
 refine ⟨fun f _=>(zGA r).fn f,?_⟩
 rw [Oper.semAt_eq _ _ _ (zHM nd)]
 have h1:(execOp a.eval o).run P w = .ok (.enter f args) w':=hp { a with defers:=[] } n hs.1
 rw [h1,Oper.uponIn_enter]
 refine ⟨(fun h=>by rw [zRK r] at h; cases h),zGD (zGA r) (zRJ r) (hc.mono fun e w'' he=>?_)⟩
 cases e with
 | returned v=>exact h v _ he
 | panicked c=>exact he.elim
 | outgrown=>exact he.elim
theorem zNB {K1:Act→World→Prop} {y:Nat} {args:Array Value} {kk:Value→K} (hs:SlotsD dl a n σ) (nd:isDef o.op = false) (hp:∀ (x:Next),(Instr.yield y args).run P w = .ok x w→Eff P σ o w x w) (hc:YieldAt Fence.wide 0 P y args w (Ret kk))
  (h:∀ v w,kk v w→K1 (a.put o.dst v) w):o.wpIn Fence.wide 0 P a w K1 Q:=by
 obtain ⟨fn,tmps,as1,bd,hy,hr⟩:=hc
 refine ⟨fun f _=>trivial,?_⟩
 rw [Oper.semAt_eq _ _ _ (zHM nd)]
 have h1:(execOp a.eval o).run P w = .ok (.round y fn tmps as1 bd) w:=hp _ hy { a with defers:=[] } n hs.1
 rw [h1,Oper.uponIn_round]
 refine ⟨(fun h=>by cases h),zMu (hr.mono fun e w'' he=>?_)⟩
 cases e with
 | returned v=>exact h v _ he
 | panicked c=>exact he.elim
 | outgrown=>exact he.elim
theorem t_run (hs:SlotsD dl a n σ) (hw:wants ops σ o = some true) (h:o.wpIn (fe r) 0 P a w (wpListIn (fe r) 0 P ops Q l) Q):wpListIn (fe r) 0 P ops Q (o::l) a w:=by
 unfold wpListIn
 rw [if_pos (zB0 hs.1 hw)]; exact h
theorem tx_p {d:Nat} (h:G dl n ((d,v)::σ) k (Tx r P ops Q l)) (hd:o.dst = some d:=by rfl) (hw:wants ops σ o = some true:=by rfl) (hp:Pure P σ o v:=by exact zK0) (hn:Nat.ble (d + 1) n = true:=by rfl) (nd:isDef o.op = false:=by rfl) :
  G dl n σ k (Tx r P ops Q (o::l)):=fun a w hs hk=>t_run hs hw (zDn hs nd (hp.eff w) (by rw [hd]; exact h _ w (hs.put (Nat.le_of_ble_eq_true hn) v) hk))
theorem tx_no {d:Nat} (h:G dl n ((d,undef)::σ) k (Tx r P ops Q l)) (hd:o.dst = some d:=by rfl) (hw:wants ops σ o = some false:=by rfl) (hn:Nat.ble (d + 1) n = true:=by rfl):G dl n σ k (Tx r P ops Q (o::l)):=fun a w hs hk=>by
 show wpListIn (fe r) 0 P ops Q (o::l) a w
 unfold wpListIn
 rw [if_neg (by rw [zB0 hs.1 hw]; simp),hd]
 exact ⟨fun f _=>(zGA r).fn f,h _ w (hs.put (Nat.le_of_ble_eq_true hn) _) hk⟩
theorem tx_no' (h:G dl n σ k (Tx r P ops Q l)) (hd:o.dst = none:=by rfl) (hw:wants ops σ o = some false:=by rfl):G dl n σ k (Tx r P ops Q (o::l)):=fun a w hs hk=>by
 show wpListIn (fe r) 0 P ops Q (o::l) a w
 unfold wpListIn
 rw [if_neg (by rw [zB0 hs.1 hw]; simp),hd]
 exact ⟨fun f _=>(zGA r).fn f,h _ w hs hk⟩
section
variable {α:Type} {vx:α→Value} {k':α→K}
theorem WP.wr {σ:List (Nat×Value)} (h:WP P σ o k vx k'):WR P σ o k vx k':=fun w hk=>by obtain ⟨x,hp,h⟩:=h w hk; exact ⟨x,hp.eff w,h⟩
theorem WR.we {σ:List (Nat×Value)} (h:WR P σ o k vx k'):WE P σ o k vx k':=fun w hk=>by obtain ⟨x,hp,h⟩:=h w hk; exact ⟨x,w,hp,h⟩
theorem tx_e0 {d:Nat} (he:WE P σ o k vx k') (h:∀ x,G dl n ((d,vx x)::σ) (k' x) (Tx r P ops Q l)) (hd:o.dst = some d) (hw:wants ops σ o = some true) (hn:Nat.ble (d + 1) n = true) (nd:isDef o.op = false):G dl n σ k (Tx r P ops Q (o::l)):=fun a w hs hk=>by
 obtain ⟨x,w',hp,h'⟩:=he w hk
 exact t_run hs hw (zDn hs nd hp (by rw [hd]; exact h x _ w' (hs.put (Nat.le_of_ble_eq_true hn) _) h'))
theorem tx_wp {d:Nat} (h:∀ x,G dl n ((d,vx x)::σ) (k' x) (Tx r P ops Q l)) (hd:o.dst = some d:=by rfl) (hw:wants ops σ o = some true:=by rfl) (hp:WP P σ o k vx k':=by exact zIl) (hn:Nat.ble (d + 1) n = true:=by rfl) (nd:isDef o.op = false:=by rfl):G dl n σ k (Tx r P ops Q (o::l)):=tx_e0 hp.wr.we h hd hw hn nd
theorem tx_wr {d:Nat} (h:∀ x,G dl n ((d,vx x)::σ) (k' x) (Tx r P ops Q l)) (hd:o.dst = some d:=by rfl) (hw:wants ops σ o = some true:=by rfl) (hp:WR P σ o k vx k':=by exact zF4) (hn:Nat.ble (d + 1) n = true:=by rfl) (nd:isDef o.op = false:=by rfl):G dl n σ k (Tx r P ops Q (o::l)):=tx_e0 hp.we h hd hw hn nd
theorem tx_we {d:Nat} (h:∀ x,G dl n ((d,vx x)::σ) (k' x) (Tx r P ops Q l)) (hd:o.dst = some d:=by rfl) (hw:wants ops σ o = some true:=by rfl) (hp:WE P σ o k vx k':=by exact zF5) (hn:Nat.ble (d + 1) n = true:=by rfl) (nd:isDef o.op = false:=by rfl):G dl n σ k (Tx r P ops Q (o::l)):=tx_e0 hp h hd hw hn nd
theorem tx_wen (h:∀ x,G dl n σ (k' x) (Tx r P ops Q l)) (hd:o.dst = none:=by rfl) (hw:wants ops σ o = some true:=by rfl) (hp:WE P σ o k vx k':=by exact zF5) (nd:isDef o.op = false:=by rfl):G dl n σ k (Tx r P ops Q (o::l)):=fun a w hs hk=>by
 obtain ⟨x,w',hp,h'⟩:=hp w hk
 exact t_run hs hw (zDn hs nd hp (by rw [hd]; exact h x _ w' hs h'))
end
theorem tx_wk {k':K} (h:G dl n σ k' (Tx r P ops Q l)) (hd:o.dst = none:=by rfl) (hw:wants ops σ o = some true:=by rfl) (hp:WK P σ o k k':=by exact zK1) (nd:isDef o.op = false:=by rfl):G dl n σ k (Tx r P ops Q (o::l)):=fun a w hs hk=>by
 obtain ⟨w',hp,h'⟩:=hp w hk
 exact t_run hs hw (zK6 hs nd hp (by rw [hd]; exact h _ w' hs h'))
theorem tx_wc {d:Nat} {kk:Value→K} (h:∀ u,G dl n ((d,u)::σ) (kk u) (Tx r P ops Q l)) (hd:o.dst = some d:=by rfl) (hw:wants ops σ o = some true:=by rfl) (hp:WC P σ o k kk:=by exact zGs) (hn:Nat.ble (d + 1) n = true:=by rfl) (nd:isDef o.op = false:=by rfl):G dl n σ k (Tx r P ops Q (o::l)):=fun a w hs hk=>by
 obtain ⟨f,args,w',hp,hc⟩:=hp w hk
 exact t_run hs hw (zGy hs nd hp hc fun v w h'=>by rw [hd]; exact h v _ w (hs.put (Nat.le_of_ble_eq_true hn) _) h')
theorem tx_wcn {kk:Value→K} (h:∀ u,G dl n σ (kk u) (Tx r P ops Q l)) (hd:o.dst = none:=by rfl) (hw:wants ops σ o = some true:=by rfl) (hp:WC P σ o k kk:=by exact zGs) (nd:isDef o.op = false:=by rfl):G dl n σ k (Tx r P ops Q (o::l)):=fun a w hs hk=>by
 obtain ⟨f,args,w',hp,hc⟩:=hp w hk
 exact t_run hs hw (zGy hs nd hp hc fun v w h'=>by rw [hd]; exact h v _ w hs h')
theorem tx_wy {d:Nat} {kk:Value→K} (h:∀ u,G dl n ((d,u)::σ) (kk u) (Tx none P ops Q l)) (hd:o.dst = some d:=by rfl) (hw:wants ops σ o = some true:=by rfl) (hp:WY P σ o k kk:=by exact wy_y rfl rfl rfl) (hn:Nat.ble (d + 1) n = true:=by rfl) (nd:isDef o.op = false:=by rfl):G dl n σ k (Tx none P ops Q (o::l)):=fun a w hs hk=>by
 obtain ⟨y,args,hp,hc⟩:=hp w hk
 exact t_run (r:=none) hs hw (zNB hs nd hp hc fun v w h'=>by rw [hd]; exact h v _ w (hs.put (Nat.le_of_ble_eq_true hn) _) h')
theorem tx_nil (h:G dl n σ k (Ex Q .normal)):G dl n σ k (Tx r P ops Q []):=fun a w hs hk=>h a w hs hk
section
variable {α β γ δ ε:Type} {d:Nat} {u:Value}
theorem an_0 {v0:Value} (h:G dl n ((d,v0)::σ) k X):G dl n ((d,u)::σ) (Ans0 v0 k u) X:=fun a w hs ⟨hu,hk⟩=>h a w (hu ▸ hs) hk
theorem an_1 {c:α→Value} {k:α→K} (h:∀ x,G dl n ((d,c x)::σ) (k x) X):G dl n ((d,u)::σ) (Ans1 c k u) X:=fun a w hs ⟨x,hu,hk⟩=>h x a w (hu ▸ hs) hk
theorem an_2 {c:α→β→Value} {k:α→β→K} (h:∀ x y,G dl n ((d,c x y)::σ) (k x y) X):G dl n ((d,u)::σ) (Ans2 c k u) X:=fun a w hs ⟨x,y,hu,hk⟩=>h x y a w (hu ▸ hs) hk
theorem an_3 {c:α→β→γ→Value} {k:α→β→γ→K} (h:∀ x y z,G dl n ((d,c x y z)::σ) (k x y z) X):G dl n ((d,u)::σ) (Ans3 c k u) X:=fun a w hs ⟨x,y,z,hu,hk⟩=>h x y z a w (hu ▸ hs) hk
theorem an_4 {c:α→β→γ→δ→Value} {k:α→β→γ→δ→K} (h:∀ x y z t,G dl n ((d,c x y z t)::σ) (k x y z t) X):G dl n ((d,u)::σ) (Ans4 c k u) X:=fun a w hs ⟨x,y,z,t,hu,hk⟩=>h x y z t a w (hu ▸ hs) hk
theorem an_5 {c:α→β→γ→δ→ε→Value} {k:α→β→γ→δ→ε→K} (h:∀ x y z t s,G dl n ((d,c x y z t s)::σ) (k x y z t s) X):G dl n ((d,u)::σ) (Ans5 c k u) X:=fun a w hs ⟨x,y,z,t,s,hu,hk⟩=>h x y z t s a w (hu ▸ hs) hk
theorem am_0 {v0:Value} (h:G dl n σ k X):G dl n σ (Ans0 v0 k u) X:=fun a w hs ⟨_,hk⟩=>h a w hs hk
theorem am_1 {c:α→Value} {k:α→K} (h:∀ x,G dl n σ (k x) X):G dl n σ (Ans1 c k u) X:=fun a w hs ⟨x,_,hk⟩=>h x a w hs hk
theorem am_2 {c:α→β→Value} {k:α→β→K} (h:∀ x y,G dl n σ (k x y) X):G dl n σ (Ans2 c k u) X:=fun a w hs ⟨x,y,_,hk⟩=>h x y a w hs hk
end
def gslot (ops:Array Oper) (σ:List (Nat×Value)) (o:Oper):Option Value:=match o.guard with
 | none=>none
 | some (j,_)=>match (ops[j]?).bind (·.dst) with
  | none=>none
  | some t=>look σ t
theorem tx_ite {b:Bool} {x y:K} (h1:b = true→G dl n σ x (Tx r P ops Q (o::l))) (h2:b = false→G dl n σ y (Tx r P ops Q (o::l))) (hg:gslot ops σ o = some (.bool b):=by rfl):G dl n σ (Ite b x y) (Tx r P ops Q (o::l)):=fun a w hs hk=>by
 cases b
 ·exact h2 rfl a w hs (hk.2 rfl)
 ·exact h1 rfl a w hs (hk.1 rfl)
theorem zCy (h:∀ a w,SlotsD dl a n σ→k w→X a w):G dl n σ k X:=h
theorem gx_nn {p:Option Addr} {kp:Addr→K} (h:∀ a,p = some a→G dl n σ (kp a) X):G dl n σ (Nn p kp) X:=fun a w hs ⟨b,hb,hk⟩=>h b hb a w hs hk
theorem gx_fv {f:Value} {kf:FuncId→Array Value→Array Value→K} (h:∀ g fs cs,f = .func (.func g) fs cs→CB P g→G dl n σ (kf g fs cs) X):G dl n σ (Fv P f kf) X:=fun a w hs ⟨g,fs,cs,hf,hc,hk⟩=>h g fs cs hf ⟨hc⟩ a w hs hk
theorem zIp:G dl n σ Dead X:=fun _ _ _ hk=>hk.elim
def Gp (dl:List Deferred) (n:Nat) (X:Act→World→Prop) (τ:List (Nat×Value)) (k:K):Prop:=G dl n τ k X
theorem gp_in (h:G dl n σ k X):Gp dl n X σ k:=h
theorem zEu (h:Sub σ τ:=by repeat (first | exact trivial | refine ⟨rfl,?_⟩)):Sub σ τ:=h
theorem zIq (h:Gp dl n X τ k:=by apply_assumption) (hs:Sub σ τ:=by exact zEu):G dl n σ k X:=fun a w hs' hk=>h a w (hs'.to hs) hk
theorem gx_unf (h:G dl n σ k X):∀ a w,SlotsD dl a n σ→k w→X a w:=h
def firstTwo (a b:Nat):Nat:=match Nat.beq a 1000000 with
 | true=>b
 | false=>a
def firstReg:Code→Nat
 | .region id _ _=>id
 | .seq x y=>firstTwo (firstReg x) (firstReg y)
 | .cond _ x y=>firstTwo (firstReg x) (firstReg y)
 | .block _ c=>firstReg c
 | .loop c=>firstReg c
 | .scope c=>firstReg c
 | .rangeFunc _ _ a _=>firstReg a
 | _=>1000000
def lastReg:Code→Nat
 | .region id _ _=>id
 | .seq x y=>firstTwo (lastReg y) (lastReg x)
 | .cond _ x y=>firstTwo (lastReg y) (lastReg x)
 | .block _ c=>lastReg c
 | .loop c=>lastReg c
 | .scope c=>lastReg c
 | .rangeFunc _ _ _ b=>lastReg b
 | _=>1000000
def seqKey (x y:Code):Nat:=firstTwo (firstReg y) (1000000 + lastReg x)
structure JH (id:Nat) (H:(List (Nat×Value)→((List (Nat×Value)→K→Prop)→Prop)→Prop)→Prop):Prop where
 h:∀ D,H D→∃ pre C,D pre C
structure LH (id:Nat) {α:Type} (S:α→List (Nat×Value)) (body:(α→K)→α→K):Prop
structure XH (id:Nat) {α:Type} (X:α→K):Prop
variable {x y c:Code} {id:Nat}
theorem cx_seq (h:G dl n σ k (Cx r P x (Exit.then (Cx r P y Q) Q))):G dl n σ k (Cx r P (.seq x y) Q):=fun a w hs hk=>wpIn_seq (h a w hs hk)
def Jp (dl:List Deferred) (n:Nat) (σ:List (Nat×Value)) (k:K) (r:Option Nat) (P:Program) (x y:Code) (Q:Exit→Act→World→Prop) (pre:List (Nat×Value)) (C:(List (Nat×Value)→K→Prop)→Prop):Prop :=
 Sub σ pre∧C (Gp dl n (Cx r P y Q))∧∀ Kc,C (Gp dl n Kc)→G dl n σ k (Cx r P x (Exit.then Kc Q))
theorem ex_i {α:Sort _} {p:α→Prop} {x:α} (h:p x):∃ x,p x:=⟨x,h⟩
theorem zIr {H:(List (Nat×Value)→((List (Nat×Value)→K→Prop)→Prop)→Prop)→Prop} (h:H (Jp dl n σ k r P x y Q)) (hi:seqKey x y = id:=by rfl) (hh:JH id H:=by first | assumption | (apply_assumption <;> assumption)):G dl n σ k (Cx r P (.seq x y) Q):=fun a w hs hk=>by
 obtain ⟨pre,C,_,h1,h2⟩:=hh.h _ h
 exact wpIn_seq (h2 _ h1 a w hs hk)
theorem zIs (h:G dl n σ k (Ex Q .normal)):G dl n σ k (Cx r P .skip Q):=fun a w hs hk=>wpIn_skip (h a w hs hk)
theorem zHN {i:Nat} (h:G dl n σ k (Ex Q .normal)):G dl n σ k (Cx r P (.label i) Q):=fun a w hs hk=>wpIn_label (h a w hs hk)
theorem zIt {i:Nat} (h:G dl n σ k (Ex Q (.exit i))):G dl n σ k (Cx r P (.exit i) Q):=fun a w hs hk=>wpIn_exit (h a w hs hk)
theorem cx_ret (h:G dl n σ k (Ex Q .ret)):G dl n σ k (Cx r P .ret Q):=fun a w hs hk=>wpIn_ret (h a w hs hk)
theorem zHO {i:Nat} (h:G dl n σ k (Cx r P c (Exit.inBlock i Q))):G dl n σ k (Cx r P (.block i c) Q):=fun a w hs hk=>wpIn_block (h a w hs hk)
theorem zSo {e:Operand} {b:Bool} {kx ky:K} (h1:G dl n σ kx (Cx r P x Q)) (h2:G dl n σ ky (Cx r P y Q)) (he:ev σ e = some (.bool b):=by rfl):G dl n σ (Ite b kx ky) (Cx r P (.cond e x y) Q):=fun a w hs hk =>
 wpIn_cond_split (hs.1.ev he) (fun hb=>h1 a w hs (hk.1 hb)) (fun hb=>h2 a w hs (hk.2 hb))
theorem zGR {e:Operand} (h:G dl n σ k (Cx r P x Q)) (he:ev σ e = some (.bool true):=by rfl):G dl n σ k (Cx r P (.cond e x y) Q):=fun a w hs hk=>wpIn_cond_true (hs.1.ev he) (h a w hs hk)
theorem zGS {e:Operand} (h:G dl n σ k (Cx r P y Q)) (he:ev σ e = some (.bool false):=by rfl):G dl n σ k (Cx r P (.cond e x y) Q):=fun a w hs hk=>wpIn_cond_false (hs.1.ev he) (h a w hs hk)
theorem cx_reg {i:Nat} (h:G dl n σ k (Tx r P l.toArray Q l)):G dl n σ k (Cx r P (.region i l.toArray false) Q):=fun a w hs hk=>wpIn_region_lit (h a w hs hk)
def Lx (dl:List Deferred) (n:Nat) {α:Type} (S:α→List (Nat×Value)) (X:α→K):Act→World→Prop:=fun a w=>∃ x,SlotsD dl a n (S x)∧X x w
theorem zIu {α:Type} {body:(α→K)→α→K} {x0:α} {S:α→List (Nat×Value)} (h:∀ X:α→K,XH id X→∀ x,G dl n (S x) (body X x) (Cx r P c (Exit.then (Lx dl n S X) Q))) (hi:firstReg c = id:=by rfl) (hh:LH id S body:=by first | assumption | (apply_assumption <;> assumption)) (h0:Sub σ (S x0):=by exact zEu) :
  G dl n σ (LoopK body x0) (Cx r P (.loop c) Q):=fun a w hs ⟨I,μ,hI,hr⟩=>by
 refine zSf I μ (fun x a=>SlotsD dl a n (S x)) x0 hI (hs.to h0) fun x a w hI hG=>?_
 refine wpIn_mono (h _ ⟨⟩ x a w hG (hr x w hI)) fun e a w hq=>?_
 cases e with
 | normal=>exact hq
 | _=>exact hq
theorem lx_end {α:Type} {S:α→List (Nat×Value)} {X:α→K} {x:α} (hk:k = X x:=by rfl) (h0:Sub σ (S x):=by exact zEu):G dl n σ k (Lx dl n S X):=fun a w hs h=>⟨x,hs.to h0,hk ▸ h⟩
theorem zIv {Kc:Act→World→Prop} (h:G dl n σ k Kc):G dl n σ k (Ex (Exit.then Kc Q) .normal):=h
theorem zGT {Kc:Act→World→Prop} {i:Nat} (h:G dl n σ k (Ex Q (.exit i))):G dl n σ k (Ex (Exit.then Kc Q) (.exit i)):=h
theorem zGU {Kc:Act→World→Prop} (h:G dl n σ k (Ex Q .ret)):G dl n σ k (Ex (Exit.then Kc Q) .ret):=h
theorem ex_blk {i:Nat} (h:G dl n σ k (Ex Q .normal)):G dl n σ k (Ex (Exit.inBlock i Q) .normal):=h
theorem zHP {i:Nat} (h:G dl n σ k (Ex Q .ret)):G dl n σ k (Ex (Exit.inBlock i Q) .ret):=h
theorem zHQ {i:Nat} (h:G dl n σ k (Ex Q .normal)):G dl n σ k (Ex (Exit.inBlock i Q) (.exit i)):=fun a w hs hk=>by
 show Exit.inBlock i Q (.exit i) a w
 simp only [Exit.inBlock,if_true]; exact h a w hs hk
theorem zHR {i j:Nat} (h:G dl n σ k (Ex Q (.exit j))) (hij:Nat.beq j i = false:=by rfl):G dl n σ k (Ex (Exit.inBlock i Q) (.exit j)):=fun a w hs hk=>by
 show Exit.inBlock i Q (.exit j) a w
 have:j ≠ i:=fun e=>by rw [e,Nat.beq_refl] at hij; cases hij
 simp only [Exit.inBlock,this,if_false]; exact h a w hs hk
def fin:List Value→Value
 | [v]=>v
 | l=>.tuple l.toArray
theorem fin_eq (l:List Value):fin l = if h:l.toArray.size = 1 then l.toArray[0] else .tuple l.toArray:=by
 cases l with
 | nil=>rfl
 | cons v l=>cases l <;> rfl
def Rx (P:Program) (kk:Value→K) (rs:List ResultVar) (vs:List Value):Act→World→Prop:=fun a w=>∃ us,(List.mapM (resSem a.tmps) rs).run P w = .ok us w∧kk (fin (vs++us)) w
theorem rx_run {fn:Func} {kk:Value→K} (h:Rx P kk fn.results.toList [] a w):∃ v,(results fn a.tmps).run P w = .ok v w∧kk v w:=by
 obtain ⟨us,h1,h2⟩:=h
 refine ⟨fin us,?_,h2⟩
 rw [zPL,← Array.toArray_toList (xs:=fn.results),Array.mapM_eq_mapM_toList]
 simp only [Array.toArray_toList]
 simp only [Sem.run_bind,Sem.run_map,h1,Result.andThen,Sem.run_pure]
 rw [fin_eq]
theorem ex_ret {fn:Func} {kk:Value→K} {rs:List ResultVar} (h:G [] n σ k (Rx P kk rs [])) (hr:fn.results = rs.toArray:=by rfl):G [] n σ k (Ex (bodyPostT P fn (Ret kk)) .ret):=fun a w hs hk=>by
 obtain ⟨v,h1,h2⟩:=rx_run (fn:=fn) (by rw [hr]; exact h a w hs hk)
 show LeavesInM Fence.wide 0 P fn a.tmps (Ret kk) a.defers .returning w
 rw [hs.2]
 exact ⟨v,h1,h2⟩
theorem ex_end {fn:Func} {kk:Value→K} (h:G dl n σ k (Ex (bodyPostT P fn (Ret kk)) .ret)):G dl n σ k (Ex (bodyPostT P fn (Ret kk)) .normal):=h
theorem zIw {fn:Func} {kk:Value→K} {D:Nat} {rs:List ResultVar} (h:G (markD D) n σ k (Rx P kk rs [])) (hr:fn.results = rs.toArray:=by rfl):G (markD D) n σ (TakeD D k) (Ex (bodyPostT P fn (Ret kk)) .ret):=fun a w hs hk=>by
 obtain ⟨v,h1,h2⟩:=rx_run (fn:=fn) (by rw [hr]; exact h a _ hs hk.2)
 show LeavesInM Fence.wide 0 P fn a.tmps (Ret kk) a.defers .returning w
 rw [hs.2]
 exact ⟨by simp,.inl ⟨D,_,rfl,run_takeDeferred hk.1,v,h1,h2⟩⟩
theorem rx_tmp {kk:Value→K} {t:Nat} {rs:List ResultVar} {vs:List Value} (h:G dl n σ k (Rx P kk rs (vs++[v]))) (ht:look σ t = some v:=by rfl):G dl n σ k (Rx P kk (.tmp t::rs) vs):=fun a w hs hk=>by
 obtain ⟨us,h1,h2⟩:=h a w hs hk
 refine ⟨v::us,?_,by simpa using h2⟩
 rw [List.mapM_cons]
 have h3:(resSem a.tmps (.tmp t)).run P w = .ok v w:=zIJ (a:={ a with defers:=[] }) hs.1 (r:=.tmp t) ht
 simp only [Sem.run_bind,h3,h1,Sem.run_pure,Result.andThen]
theorem zIx {α:Type} {c:α→Value} {kx:α→K} {kk:Value→K} {t T:Nat} {b:Addr} {rs:List ResultVar} {vs:List Value} [cl:CT P T] (h:∀ x,G dl n σ (kx x) (Rx P kk rs (vs++[c x]))) (ht:look σ t = some (.pointer (some b)):=by rfl):G dl n σ (Ld b c kx) (Rx P kk (.cell t T::rs) vs):=fun a w hs ⟨x,hv,hk⟩=>by
 obtain ⟨us,h1,h2⟩:=h x a w hs hk
 refine ⟨c x::us,?_,by simpa using h2⟩
 rw [List.mapM_cons]
 have h3:(resSem a.tmps (.cell t T)).run P w = .ok (c x) w:=zIJ (a:={ a with defers:=[] }) hs.1 (r:=.cell t T) ⟨_,ht,zN4 cl.h hv⟩
 simp only [Sem.run_bind,h3,h1,Sem.run_pure,Result.andThen]
theorem zHS {kx:Array Value→K} {kk:Value→K} {t T m:Nat} {b:Addr} {rs:List ResultVar} {vs:List Value} [cl:AT P T m] (h:∀ x,G dl n σ (kx x) (Rx P kk rs (vs++[.agg x]))) (ht:look σ t = some (.pointer (some b)):=by rfl):G dl n σ (LdN b m kx) (Rx P kk (.cell t T::rs) vs):=fun a w hs ⟨x,hn,hv,hk⟩=>by
 obtain ⟨us,h1,h2⟩:=h x a w hs hk
 refine ⟨.agg x::us,?_,by simpa using h2⟩
 rw [List.mapM_cons]
 have h3:(resSem a.tmps (.cell t T)).run P w = .ok (.agg x) w:=zIJ (a:={ a with defers:=[] }) hs.1 (r:=.cell t T) ⟨_,ht,zMs cl.h hn hv⟩
 simp only [Sem.run_bind,h3,h1,Sem.run_pure,Result.andThen]
def Fx (k:K):Act→World→Prop:=fun _ w=>k w
theorem rx_nil {kk:Value→K} {vs:List Value} (h:G dl n σ k (Fx (kk (fin vs)))):G dl n σ k (Rx P kk [] vs):=fun a w hs hk=>⟨[],by simp,by rw [List.append_nil]; exact h a w hs hk⟩
section
variable {α β γ δ ε:Type} {u:Value}
theorem fx_0 {v0:Value} {q:K} (hk:k = q:=by rfl) (hu:u = v0:=by rfl):G dl n σ k (Fx (Ans0 v0 q u)):=fun _ w _ h=>⟨hu,hk ▸ h⟩
theorem fx_1 {c:α→Value} {q:α→K} {x:α} (hk:k = q x:=by rfl) (hu:u = c x:=by rfl):G dl n σ k (Fx (Ans1 c q u)):=fun _ w _ h=>⟨x,hu,hk ▸ h⟩
theorem fx_2 {c:α→β→Value} {q:α→β→K} {x:α} {y:β} (hk:k = q x y:=by rfl) (hu:u = c x y:=by rfl):G dl n σ k (Fx (Ans2 c q u)):=fun _ w _ h=>⟨x,y,hu,hk ▸ h⟩
theorem fx_3 {c:α→β→γ→Value} {q:α→β→γ→K} {x:α} {y:β} {z:γ} (hk:k = q x y z:=by rfl) (hu:u = c x y z:=by rfl):G dl n σ k (Fx (Ans3 c q u)):=fun _ w _ h=>⟨x,y,z,hu,hk ▸ h⟩
theorem fx_4 {c:α→β→γ→δ→Value} {q:α→β→γ→δ→K} {x:α} {y:β} {z:γ} {t:δ} (hk:k = q x y z t:=by rfl) (hu:u = c x y z t:=by rfl):G dl n σ k (Fx (Ans4 c q u)):=fun _ w _ h=>⟨x,y,z,t,hu,hk ▸ h⟩
theorem fx_5 {c:α→β→γ→δ→ε→Value} {q:α→β→γ→δ→ε→K} {x:α} {y:β} {z:γ} {t:δ} {s:ε} (hk:k = q x y z t s:=by rfl) (hu:u = c x y z t s:=by rfl):G dl n σ k (Fx (Ans5 c q u)):=fun _ w _ h=>⟨x,y,z,t,s,hu,hk ▸ h⟩
end
end
def numb:Nat→List Value→List (Nat×Value)
 | _,[]=>[]
 | i,v::vs=>(i,v)::numb (i + 1) vs
theorem zOh (l:List Value) (i:Nat):((l.zipIdx i).map fun p=>(p.2,p.1)) = numb i l:=by
 induction l generalizing i with
 | nil=>rfl
 | cons v l ih=>simp [numb,List.zipIdx_cons,ih]
theorem zK7 {P:Program} {f:FuncId} {fn:Func} {c:Code} {args:List Value} {kk:Value→K} {k:K} (n:Nat) {w:World} (hk:k w) (hf:P.funcs[f]? = some fn) (h:G [] n (numb 0 args) k (Cx none P c (bodyPostT P fn (Ret kk)))) (hb:fn.body = some c:=by rfl) (hn:fn.ntmps = n:=by rfl) (hl:Nat.ble args.length n = true:=by rfl) :
  CallF P f args.toArray kk w:=by
 subst hn
 refine zRE hf hb (Nat.le_of_ble_eq_true hl) fun a hs=>h a w (by rw [← zOh]; exact hs) hk
end Go.Sep
namespace Go.Sep
open Go
inductive Scr where
 | e
 | s (l:List Nat) (t:Scr)
 | a (l:List (Nat×Nat×Scr))
 | i (x y:Scr)
structure DH (id mode:Nat) (ds:List Nat) (t:Scr):Prop
def lst (n:Nat) (done:List Nat):Array Bool:=(Array.range n).map fun i=>done.contains i
theorem zOi (n i:Nat) (done:List Nat):(lst n done).setIfInBounds i true = lst n (i::done):=by
 apply Array.ext
 ·simp [lst]
 ·intro j h1 h2
  have h3:j < (lst n done).size:=by simpa using h1
  rw [Array.getElem_setIfInBounds h3]
  by_cases h:i = j
  ·subst h; simp [lst]
  ·have h':¬ j = i:=fun e=>h e.symm
   simp [lst,h,h']
theorem zK8 (n:Nat):Array.replicate n false = lst n []:=by
 apply Array.ext
 ·simp [lst]
 ·intro j h1 h2; simp [lst]
def Dx (P:Program) (ops:Array Oper) (Q:Exit→Act→World→Prop) (S:World→Prop) (ds done:List Nat) (t:Scr):Act→World→Prop:=fun a w=>Tight Q→wpAnyD P ops Q S ds (ops.size - done.length) (lst ops.size done) a w
def Al (S:World→Prop) (k:K):K:=fun w=>S w∧k w
def Ox (P:Program) (ops:Array Oper) (Q:Exit→Act→World→Prop) (S:World→Prop) (ds done:List Nat) (i tag:Nat) (t:Scr):Act→World→Prop:=fun a w=>Tight Q →
 opW P ops Q i (fun a' w'=>(alive ds (lst ops.size done) = true→i ∉ ds→S w→S w')∧wpAnyD P ops Q S ds (ops.size - done.length - 1) (lst ops.size (i::done)) a' w') a w
def Ax (P:Program) (ops:Array Oper) (Q:Exit→Act→World→Prop) (S:World→Prop) (ds done:List Nat) (l:List (Nat×Nat×Scr)):Act→World→Prop:=fun a w=>∀ p ∈ l,Ox P ops Q S ds done p.1 p.2.1 p.2.2 a w
def takeC (ops:Array Oper) (ds done:List Nat) (i:Nat):Bool :=
 Region.noSelect ops && Region.free .any ops (lst ops.size done) i && (Region.ready .any ops (lst ops.size done)).contains i && !ds.contains i && Nat.ble (done.length + 1) ops.size
def closedB (ops:Array Oper) (l:Array Bool):Bool :=
 (List.range ops.size).all fun j=>match ops[j]? with
  | some oj=>!l.getD j false || oj.after.all fun e=>!Region.binds .any e || l.getD e.on false
  | none=>true
def reachF (ops:Array Oper) (i:Nat):Nat→Nat→List Nat→List Nat
 | 0,_,acc=>acc
 | n + 1,k,acc=>match (match ops[k]? with
   | some o=>o.after.any fun e=>Region.binds .any e && (e.on == i || acc.contains e.on)
   | none=>false) with
  | true=>reachF ops i n (k + 1) (k::acc)
  | false=>reachF ops i n (k + 1) acc
theorem zGh {ops:Array Oper} {i:Nat}:∀ (n k:Nat) (acc:List Nat),(∀ x ∈ acc,∃ m,reach ops i m x = true)→∀ d ∈ reachF ops i n k acc,∃ m,reach ops i m d = true
 | 0,_,_,h,d,hd=>h d hd
 | n + 1,k,acc,h,d,hd=>by
  unfold reachF at hd
  split at hd
  ·rename_i hb
   refine zGh n (k + 1) (k::acc) (fun x hx=>?_) d hd
   rcases List.mem_cons.1 hx with rfl | hx
   ·cases ho:ops[x]? with
    | none=>simp [ho] at hb
    | some o =>
     simp only [ho,Array.any_eq_true'] at hb
     obtain ⟨e,he,hb⟩:=hb
     simp only [Bool.and_eq_true,Bool.or_eq_true] at hb
     rcases hb.2 with h2 | h2
     ·refine ⟨1,?_⟩
      simp only [reach,ho,Array.any_eq_true']
      exact ⟨e,he,by simp [hb.1,h2]⟩
     ·obtain ⟨m,hm⟩:=h e.on (List.contains_iff_mem.1 h2)
      refine ⟨m + 1,?_⟩
      simp only [reach,ho,Array.any_eq_true']
      exact ⟨e,he,by simp [hb.1,hm]⟩
   ·exact h x hx
  ·exact zGh n (k + 1) acc h d hd
def readC (ops:Array Oper) (ds done:List Nat) (i:Nat):Bool:=takeC ops ds done i && closedB ops (lst ops.size done) && ds.all fun d=>(reachF ops i (d - i) (i + 1) []).contains d
theorem zNC {ops:Array Oper} {l:Array Bool} (h:closedB ops l = true):Closed ops l:=fun j oj hj hl e he hb=>by
 have h1:=List.all_eq_true.1 h j (by simpa using (Array.getElem?_eq_some_iff.1 hj).1)
 simp only [hj,hl,Bool.not_true,Bool.false_or,Array.all_eq_true_iff_forall_mem] at h1
 have h2:=h1 e he
 simpa [hb] using h2
theorem zPN {Q:Exit→Act→World→Prop} {K:Act→World→Prop} (h:Tight Q):Tight (Exit.then K Q):=fun c a w hc=>h c a w hc
theorem zP3 {Q:Exit→Act→World→Prop} {i:Nat} (h:Tight Q):Tight (Exit.inBlock i Q):=fun c a w hc=>h c a w hc
theorem zN7 {P:Program} {fn:Func} {kk:Value→K}:Tight (bodyPost P fn (Ret kk)):=fun _ _ _ h=>h.2
theorem zHT {Q:Exit→Act→World→Prop} (h:Tight Q:=by repeat (first | refine zPN ?_ | refine zP3 ?_ | exact zN6 | exact zN7)):Tight Q:=h
section
variable {P:Program} {dl:List Deferred} {n:Nat} {σ τ:List (Nat×Value)} {k:K} {X:Act→World→Prop} {ops:Array Oper} {Q:Exit→Act→World→Prop} {l:List Oper} {o:Oper} {v:Value} {S:World→Prop} {ds done:List Nat} {i:Nat} {is:List Nat} {t:Scr}
theorem zFW {T:World→Prop} (hi:ops[i]? = some o) (hc:takeC ops ds done i = true) (hT:(∀ w,T w)∨(T = S∧readC ops ds done i = true)) (hQ:Tight Q) {a:Act} {w:World} (hy:YieldsIf P ops T o v a) (hw:T w)
  (h:wpAnyD P ops Q S ds (ops.size - (i::done).length) (lst ops.size (i::done)) (a.put o.dst v) w):wpAnyD P ops Q S ds (ops.size - done.length) (lst ops.size done) a w:=by
 simp only [takeC,Bool.and_eq_true,Bool.not_eq_true'] at hc
 obtain ⟨⟨⟨⟨h1,h2⟩,h3⟩,h4⟩,h5⟩:=hc
 have h5:=Nat.le_of_ble_eq_true h5
 rw [show ops.size - done.length = (ops.size - (i::done).length) + 1 by simp only [List.length_cons]; omega]
 refine zMw hi (by intro hm; rw [List.contains_iff_mem.2 hm] at h4; cases h4) (Region.noSelect_spec h1) hQ _ _ a w (Region.free_spec hi h2) ?_ (by simpa using h3) hy hw (by rw [zOi]; exact h)
 rcases hT with h | ⟨h,hr⟩
 ·exact .inl h
 ·simp only [readC,Bool.and_eq_true] at hr
  exact .inr ⟨h,zNC hr.1.2,fun d hd=>zGh _ _ _ (by simp) d (List.contains_iff_mem.1 (List.all_eq_true.1 hr.2 d hd))⟩
theorem dx_p {d:Nat} (h:G dl n ((d,v)::σ) k (Dx P ops Q S ds (i::done) (.s is t))) (hi:ops[i]? = some o:=by rfl) (hd:o.dst = some d:=by rfl) (hw:wants ops σ o = some true:=by rfl) (hp:Pure P σ o v:=by exact zK0) (hc:takeC ops ds done i = true:=by as_aux_lemma=>kernel_rfl)
  (hn:Nat.ble (d + 1) n = true:=by rfl):G dl n σ k (Dx P ops Q S ds done (.s (i::is) t)):=fun a w hs hk hQ =>
 zFW (T:=fun _=>True) hi hc (.inl fun _=>trivial) hQ (.inl ⟨zB0 hs.1 hw,fun w _=>hp { a with defers:=[] } n hs.1 w⟩) trivial (by rw [hd]; exact h _ w (hs.put (Nat.le_of_ble_eq_true hn) v) hk hQ)
def less (ds:List Nat) (i:Nat):List Nat:=ds.filter fun j=>!Nat.beq j i
theorem zND:∀ d ∈ less ds i,d ∈ ds:=fun d hd=>(List.mem_filter.1 hd).1
theorem dx_no {d:Nat} (h:G dl n ((d,undef)::σ) k (Dx P ops Q S (less ds i) (i::done) (.s is t))) (hi:ops[i]? = some o:=by rfl) (hd:o.dst = some d:=by rfl) (hw:wants ops σ o = some false:=by rfl) (hc:takeC ops (less ds i) done i = true:=by as_aux_lemma=>kernel_rfl)
  (hn:Nat.ble (d + 1) n = true:=by rfl):G dl n σ k (Dx P ops Q S ds done (.s (i::is) t)):=fun a w hs hk hQ =>
 zIL zND _ _ _ _ (zFW (T:=fun _=>True) (v:=undef) hi hc (.inl fun _=>trivial) hQ (.inr ⟨zB0 hs.1 hw,rfl⟩) trivial (by rw [hd]; exact h _ w (hs.put (Nat.le_of_ble_eq_true hn) undef) hk hQ))
theorem dx_no' (h:G dl n σ k (Dx P ops Q S (less ds i) (i::done) (.s is t))) (hi:ops[i]? = some o:=by rfl) (hd:o.dst = none:=by rfl) (hw:wants ops σ o = some false:=by rfl) (hc:takeC ops (less ds i) done i = true:=by as_aux_lemma=>kernel_rfl):G dl n σ k (Dx P ops Q S ds done (.s (i::is) t)):=fun a w hs hk hQ =>
 zIL zND _ _ _ _ (zFW (T:=fun _=>True) (v:=undef) hi hc (.inl fun _=>trivial) hQ (.inr ⟨zB0 hs.1 hw,rfl⟩) trivial (by rw [hd]; exact h _ w hs hk hQ))
theorem dx_end (h:G dl n σ k (Dx P ops Q S ds done t)):G dl n σ k (Dx P ops Q S ds done (.s [] t)):=h
section
variable {α:Type} {vx:α→Value} {k':α→K} {d:Nat}
theorem dx_wp (h:∀ x,G dl n ((d,vx x)::σ) (k' x) (Dx P ops Q S ds (i::done) (.s is t))) (hi:ops[i]? = some o:=by rfl) (hd:o.dst = some d:=by rfl) (hw:wants ops σ o = some true:=by rfl) (hp:WP P σ o k vx k':=by exact zIl) (hc:takeC ops ds done i = true:=by as_aux_lemma=>kernel_rfl)
  (hn:Nat.ble (d + 1) n = true:=by rfl):G dl n σ k (Dx P ops Q S ds done (.s (i::is) t)):=fun a w hs hk hQ=>by
 obtain ⟨x,hp,hk⟩:=hp w hk
 exact zFW (T:=fun _=>True) hi hc (.inl fun _=>trivial) hQ (.inl ⟨zB0 hs.1 hw,fun w _=>hp { a with defers:=[] } n hs.1 w⟩) trivial (by rw [hd]; exact h x _ w (hs.put (Nat.le_of_ble_eq_true hn) _) hk hQ)
theorem dx_wpA (h:∀ x,G dl n ((d,vx x)::σ) (Al S (k' x)) (Dx P ops Q S ds (i::done) (.s is t))) (hi:ops[i]? = some o:=by rfl) (hd:o.dst = some d:=by rfl) (hw:wants ops σ o = some true:=by rfl) (hp:WP P σ o k vx k':=by exact zIl) (hc:takeC ops ds done i = true:=by as_aux_lemma=>kernel_rfl)
  (hn:Nat.ble (d + 1) n = true:=by rfl):G dl n σ (Al S k) (Dx P ops Q S ds done (.s (i::is) t)):=fun a w hs ⟨hS,hk⟩ hQ=>by
 obtain ⟨x,hp,hk⟩:=hp w hk
 exact zFW (T:=fun _=>True) hi hc (.inl fun _=>trivial) hQ (.inl ⟨zB0 hs.1 hw,fun w _=>hp { a with defers:=[] } n hs.1 w⟩) trivial (by rw [hd]; exact h x _ w (hs.put (Nat.le_of_ble_eq_true hn) _) ⟨hS,hk⟩ hQ)
theorem dx_r0 (h:∀ x,G dl n ((d,vx x)::σ) (Al S (k' x)) (Dx P ops Q S ds (i::done) (.s is t))) (hi:ops[i]? = some o) (hd:o.dst = some d) (hw:wants ops σ o = some true) (hp:∀ w,S w→k w→∃ x,(∀ w,S w→Eff P σ o w (.value (vx x)) w)∧k' x w) (hc:readC ops ds done i = true)
  (hn:Nat.ble (d + 1) n = true):G dl n σ (Al S k) (Dx P ops Q S ds done (.s (i::is) t)):=fun a w hs ⟨hS,hk⟩ hQ=>by
 obtain ⟨x,hp,hk⟩:=hp w hS hk
 have hc':takeC ops ds done i = true:=by simp only [readC,Bool.and_eq_true] at hc; exact hc.1.1
 exact zFW (T:=S) hi hc' (.inr ⟨rfl,hc⟩) hQ (.inl ⟨zB0 hs.1 hw,fun w hw=>hp w hw { a with defers:=[] } n hs.1⟩) hS (by rw [hd]; exact h x _ w (hs.put (Nat.le_of_ble_eq_true hn) _) ⟨hS,hk⟩ hQ)
theorem dx_is {w1:World} (h:∀ x,G dl n ((d,vx x)::σ) (Al (Is w1) (k' x)) (Dx P ops Q (Is w1) ds (i::done) (.s is t))) (hi:ops[i]? = some o:=by rfl) (hd:o.dst = some d:=by rfl) (hw:wants ops σ o = some true:=by rfl) (hp:WR P σ o k vx k':=by exact zF4) (hc:readC ops ds done i = true:=by as_aux_lemma=>kernel_rfl)
  (hn:Nat.ble (d + 1) n = true:=by rfl):G dl n σ (Al (Is w1) k) (Dx P ops Q (Is w1) ds done (.s (i::is) t)):=dx_r0 h hi hd hw hp.is hc hn
theorem dx_S (h:∀ x,G dl n ((d,vx x)::σ) (Al S (k' x)) (Dx P ops Q S ds (i::done) (.s is t))) (hi:ops[i]? = some o:=by rfl) (hd:o.dst = some d:=by rfl) (hw:wants ops σ o = some true:=by rfl) (hp:WS P S σ o k vx k':=by exact zSi) (hc:readC ops ds done i = true:=by as_aux_lemma=>kernel_rfl)
  (hn:Nat.ble (d + 1) n = true:=by rfl):G dl n σ (Al S k) (Dx P ops Q S ds done (.s (i::is) t)):=dx_r0 h hi hd hw (fun w _ hk=>hp w hk) hc hn
end
theorem dx_nil (h:G dl n σ k (Ex Q .normal)) (hc:Region.ready .any ops (lst ops.size done) = []:=by as_aux_lemma=>kernel_rfl):G dl n σ k (Dx P ops Q S ds done .e):=fun a w hs hk _=>by
 show wpAnyD P ops Q S ds (ops.size - done.length) (lst ops.size done) a w
 cases ops.size - done.length with
 | zero=>exact ⟨hc,h a w hs hk⟩
 | succ m=>exact ⟨fun _=>h a w hs hk,by rw [hc]; simp⟩
theorem zCF (h:G dl n σ k X):G dl n σ (Al S k) X:=fun a w hs hk=>h a w hs hk.2
theorem dx_ite {b:Bool} {x y:K} {s t:Scr} (h1:b = true→G dl n σ x (Dx P ops Q S ds done s)) (h2:b = false→G dl n σ y (Dx P ops Q S ds done t)):G dl n σ (Ite b x y) (Dx P ops Q S ds done (.i s t)):=fun a w hs hk=>by
 cases b
 ·exact h2 rfl a w hs (hk.2 rfl)
 ·exact h1 rfl a w hs (hk.1 rfl)
theorem zIy {b:Bool} {x y:K} {s t:Scr} (h1:b = true→G dl n σ (Al S x) (Dx P ops Q S ds done s)) (h2:b = false→G dl n σ (Al S y) (Dx P ops Q S ds done t)):G dl n σ (Al S (Ite b x y)) (Dx P ops Q S ds done (.i s t)):=fun a w hs ⟨hS,hk⟩=>by
 cases b
 ·exact h2 rfl a w hs ⟨hS,hk.2 rfl⟩
 ·exact h1 rfl a w hs ⟨hS,hk.1 rfl⟩
theorem al_nn {p:Option Addr} {kp:Addr→K} (h:∀ a,p = some a→G dl n σ (Al S (kp a)) X):G dl n σ (Al S (Nn p kp)) X:=fun a w hs ⟨hS,b,hb,hk⟩=>h b hb a w hs ⟨hS,hk⟩
theorem al_fv {f:Value} {kf:FuncId→Array Value→Array Value→K} (h:∀ g fs cs,f = .func (.func g) fs cs→CB P g→G dl n σ (Al S (kf g fs cs)) X):G dl n σ (Al S (Fv P f kf)) X:=fun a w hs ⟨hS,g,fs,cs,hf,hc,hk⟩=>h g fs cs hf ⟨hc⟩ a w hs ⟨hS,hk⟩
theorem al_an1 {α:Type} {d:Nat} {u:Value} {c:α→Value} {k:α→K} (h:∀ x,G dl n ((d,c x)::σ) (Al S (k x)) X):G dl n ((d,u)::σ) (Al S (Ans1 c k u)) X:=fun a w hs ⟨hS,x,hu,hk⟩=>h x a w (hu ▸ hs) ⟨hS,hk⟩
theorem al_an2 {α β:Type} {d:Nat} {u:Value} {c:α→β→Value} {k:α→β→K} (h:∀ x y,G dl n ((d,c x y)::σ) (Al S (k x y)) X):G dl n ((d,u)::σ) (Al S (Ans2 c k u)) X:=fun a w hs ⟨hS,x,y,hu,hk⟩=>h x y a w (hu ▸ hs) ⟨hS,hk⟩
theorem dx_a {m:List (Nat×Nat×Scr)} (h:G dl n σ k (Ax P ops Q S ds done m)) (hr:Region.ready .any ops (lst ops.size done) = m.map (·.1):=by as_aux_lemma=>kernel_rfl) (hl:(Nat.ble (done.length + 1) ops.size && !m.isEmpty) = true:=by rfl):G dl n σ k (Dx P ops Q S ds done (.a m)):=fun a w hs hk hQ=>by
 simp only [Bool.and_eq_true,Bool.not_eq_true'] at hl
 have h5:=Nat.le_of_ble_eq_true hl.1
 show wpAnyD P ops Q S ds (ops.size - done.length) (lst ops.size done) a w
 have h0:=h a w hs hk
 rw [show ops.size - done.length = (ops.size - done.length - 1) + 1 by omega]
 refine ⟨fun h0=>?_,fun i hi=>?_⟩
 ·rw [h0] at hr
  cases m with
  | nil=>simp at hl
  | cons p m=>simp at hr
 ·rw [hr] at hi
  obtain ⟨p,hp,rfl⟩:=List.mem_map.1 hi
  have:=h0 p hp hQ
  rw [zOi]
  exact this
theorem ax_all {ks:List K} {m:List (Nat×Nat×Scr)} {i tag:Nat} {t:Scr} (h1:G dl n σ k (Ox P ops Q S ds done i tag t)) (h2:G dl n σ (All ks) (Ax P ops Q S ds done m)):G dl n σ (All (k::ks)) (Ax P ops Q S ds done ((i,tag,t)::m)):=fun a w hs hk p hp=>by
 rcases List.mem_cons.1 hp with rfl | hp
 ·exact h1 a w hs (hk 0 _ rfl)
 ·exact h2 a w hs (fun j x hx=>hk (j + 1) x (by simpa using hx)) p hp
theorem zIz {ks:List K} {m:List (Nat×Nat×Scr)} {i tag:Nat} {t:Scr} (h1:G dl n σ (Al S k) (Ox P ops Q S ds done i tag t)) (h2:G dl n σ (Al S (All ks)) (Ax P ops Q S ds done m)):G dl n σ (Al S (All (k::ks))) (Ax P ops Q S ds done ((i,tag,t)::m)):=fun a w hs ⟨hS,hk⟩ p hp=>by
 rcases List.mem_cons.1 hp with rfl | hp
 ·exact h1 a w hs ⟨hS,hk 0 _ rfl⟩
 ·exact h2 a w hs ⟨hS,fun j x hx=>hk (j + 1) x (by simpa using hx)⟩ p hp
theorem ax_nil:G dl n σ k (Ax P ops Q S ds done []):=fun _ _ _ _ _ hp=>by cases hp
theorem ax_one {i tag:Nat} {t:Scr} (h1:G dl n σ k (Ox P ops Q S ds done i tag t)):G dl n σ k (Ax P ops Q S ds done [(i,tag,t)]):=fun a w hs hk p hp=>by
 rcases List.mem_cons.1 hp with rfl | hp
 ·exact h1 a w hs hk
 ·cases hp
def okK (ops:Array Oper) (S:World→Prop) (ds done:List Nat) (i:Nat):Prop:=(∀ w,S w)∨(ds.contains i || !alive ds (lst ops.size done)) = true
theorem okK.keep (h:okK ops S ds done i) (w w':World):alive ds (lst ops.size done) = true→i ∉ ds→S w→S w':=fun ha hi _=>by
 rcases h with h | h
 ·exact h w'
 ·rw [ha] at h
  simp only [Bool.not_true,Bool.or_false] at h
  exact absurd (List.contains_iff_mem.1 h) hi
theorem zEv (h:okK ops S ds done i:=by first | exact .inl (fun _=>trivial) | exact .inr (by as_aux_lemma=>kernel_rfl)):okK ops S ds done i:=h
theorem ox_run {a:Act} {w:World} (hs:SlotsD dl a n σ) (hi:ops[i]? = some o) (hw:wants ops σ o = some true) {tag:Nat} (h:Tight Q→o.wpIn Fence.wide 0 P a w (fun a' w'=>(alive ds (lst ops.size done) = true→i ∉ ds→S w→S w')∧wpAnyD P ops Q S ds (ops.size - done.length - 1) (lst ops.size (i::done)) a' w') Q):Ox P ops Q S ds done i tag t a w:=by
 intro hQ
 unfold opW wpOpIn
 simp only [hi,zB0 hs.1 hw,if_true]
 exact h hQ
theorem dn_len {m:Nat}:ops.size - done.length - 1 = ops.size - (i::done).length:=by simp only [List.length_cons]; omega
section
variable {α:Type} {vx:α→Value} {k':α→K} {d:Nat} {k1:K}
theorem ox_e (h:∀ x,G dl n ((d,vx x)::σ) (k' x) (Dx P ops Q S ds (i::done) t)) (hi:ops[i]? = some o:=by rfl) (hd:o.dst = some d:=by rfl) (hw:wants ops σ o = some true:=by rfl) (hp:WE P σ o k vx k':=by first | exact zF5 | exact WR.we zF4) (hK:okK ops S ds done i:=by exact zEv)
  (hn:Nat.ble (d + 1) n = true:=by rfl) (nd:isDef o.op = false:=by rfl):G dl n σ k (Ox P ops Q S ds done i 0 t):=fun a w hs hk=>by
 obtain ⟨x,w',hp,h'⟩:=hp w hk
 refine ox_run hs hi hw fun hQ=>(zDn (r:=none) hs nd hp ⟨hK.keep w w',?_⟩)
 rw [hd,dn_len (m:=0)]; exact h x _ w' (hs.put (Nat.le_of_ble_eq_true hn) _) h' hQ
theorem ox_en (h:∀ x,G dl n σ (k' x) (Dx P ops Q S ds (i::done) t)) (hi:ops[i]? = some o:=by rfl) (hd:o.dst = none:=by rfl) (hw:wants ops σ o = some true:=by rfl) (hp:WE P σ o k vx k':=by exact zF5) (hK:okK ops S ds done i:=by exact zEv)
  (nd:isDef o.op = false:=by rfl):G dl n σ k (Ox P ops Q S ds done i 0 t):=fun a w hs hk=>by
 obtain ⟨x,w',hp,h'⟩:=hp w hk
 refine ox_run hs hi hw fun hQ=>(zDn (r:=none) hs nd hp ⟨hK.keep w w',?_⟩)
 rw [hd,dn_len (m:=0)]; exact h x _ w' hs h' hQ
theorem ox_k (h:G dl n σ k1 (Dx P ops Q S ds (i::done) t)) (hi:ops[i]? = some o:=by rfl) (hd:o.dst = none:=by rfl) (hw:wants ops σ o = some true:=by rfl) (hp:WK P σ o k k1:=by exact zK1) (hK:okK ops S ds done i:=by exact zEv)
  (nd:isDef o.op = false:=by rfl):G dl n σ k (Ox P ops Q S ds done i 0 t):=fun a w hs hk=>by
 obtain ⟨w',hp,h'⟩:=hp w hk
 refine ox_run hs hi hw fun hQ=>(zK6 (r:=none) hs nd hp ⟨hK.keep w w',?_⟩)
 rw [hd,dn_len (m:=0)]; exact h _ w' hs h' hQ
theorem ox_c {kk:Value→K} (h:∀ u,G dl n ((d,u)::σ) (kk u) (Dx P ops Q S ds (i::done) t)) (hi:ops[i]? = some o:=by rfl) (hd:o.dst = some d:=by rfl) (hw:wants ops σ o = some true:=by rfl) (hp:WC P σ o k kk:=by exact zGs) (hK:okK ops S ds done i:=by exact zEv)
  (hn:Nat.ble (d + 1) n = true:=by rfl) (nd:isDef o.op = false:=by rfl):G dl n σ k (Ox P ops Q S ds done i 0 t):=fun a w hs hk=>by
 obtain ⟨f,args,w',hp,hc⟩:=hp w hk
 refine ox_run hs hi hw fun hQ=>(zGy (r:=none) hs nd hp hc fun v w1 h'=>⟨hK.keep w w1,?_⟩)
 rw [hd,dn_len (m:=0)]; exact h v _ w1 (hs.put (Nat.le_of_ble_eq_true hn) _) h' hQ
theorem ox_cn {kk:Value→K} (h:∀ u,G dl n σ (kk u) (Dx P ops Q S ds (i::done) t)) (hi:ops[i]? = some o:=by rfl) (hd:o.dst = none:=by rfl) (hw:wants ops σ o = some true:=by rfl) (hp:WC P σ o k kk:=by exact zGs) (hK:okK ops S ds done i:=by exact zEv)
  (nd:isDef o.op = false:=by rfl):G dl n σ k (Ox P ops Q S ds done i 0 t):=fun a w hs hk=>by
 obtain ⟨f,args,w',hp,hc⟩:=hp w hk
 refine ox_run hs hi hw fun hQ=>(zGy (r:=none) hs nd hp hc fun v w1 h'=>⟨hK.keep w w1,?_⟩)
 rw [hd,dn_len (m:=0)]; exact h v _ w1 hs h' hQ
theorem ox_y {kk:Value→K} (h:∀ u,G dl n ((d,u)::σ) (kk u) (Dx P ops Q S ds (i::done) t)) (hi:ops[i]? = some o:=by rfl) (hd:o.dst = some d:=by rfl) (hw:wants ops σ o = some true:=by rfl) (hp:WY P σ o k kk:=by exact wy_y rfl rfl rfl) (hK:okK ops S ds done i:=by exact zEv)
  (hn:Nat.ble (d + 1) n = true:=by rfl) (nd:isDef o.op = false:=by rfl):G dl n σ k (Ox P ops Q S ds done i 0 t):=fun a w hs hk=>by
 obtain ⟨y,args,hp,hc⟩:=hp w hk
 refine ox_run hs hi hw fun hQ=>(zNB hs nd hp hc fun v w1 h'=>⟨hK.keep w w1,?_⟩)
 rw [hd,dn_len (m:=0)]; exact h v _ w1 (hs.put (Nat.le_of_ble_eq_true hn) _) h' hQ
theorem ox_e1 (h:∀ x,G dl n ((d,vx x)::σ) (Al S (k' x)) (Dx P ops Q S ds (i::done) t)) (hi:ops[i]? = some o:=by rfl) (hd:o.dst = some d:=by rfl) (hw:wants ops σ o = some true:=by rfl) (hp:WE P σ o k vx (fun x=>Sv S (k' x)):=by exact zF5)
  (hn:Nat.ble (d + 1) n = true:=by rfl) (nd:isDef o.op = false:=by rfl):G dl n σ (Al S k) (Ox P ops Q S ds done i 1 t):=fun a w hs ⟨_,hk⟩=>by
 obtain ⟨x,w',hp,hS,h'⟩:=hp w hk
 refine ox_run hs hi hw fun hQ=>(zDn (r:=none) hs nd hp ⟨fun _ _ _=>hS,?_⟩)
 rw [hd,dn_len (m:=0)]; exact h x _ w' (hs.put (Nat.le_of_ble_eq_true hn) _) ⟨hS,h'⟩ hQ
theorem ox_en1 (h:∀ x,G dl n σ (Al S (k' x)) (Dx P ops Q S ds (i::done) t)) (hi:ops[i]? = some o:=by rfl) (hd:o.dst = none:=by rfl) (hw:wants ops σ o = some true:=by rfl) (hp:WE P σ o k vx (fun x=>Sv S (k' x)):=by exact zF5)
  (nd:isDef o.op = false:=by rfl):G dl n σ (Al S k) (Ox P ops Q S ds done i 1 t):=fun a w hs ⟨_,hk⟩=>by
 obtain ⟨x,w',hp,hS,h'⟩:=hp w hk
 refine ox_run hs hi hw fun hQ=>(zDn (r:=none) hs nd hp ⟨fun _ _ _=>hS,?_⟩)
 rw [hd,dn_len (m:=0)]; exact h x _ w' hs ⟨hS,h'⟩ hQ
theorem ox_k1 (h:G dl n σ (Al S k1) (Dx P ops Q S ds (i::done) t)) (hi:ops[i]? = some o:=by rfl) (hd:o.dst = none:=by rfl) (hw:wants ops σ o = some true:=by rfl) (hp:WK P σ o k (Sv S k1):=by exact zK1)
  (nd:isDef o.op = false:=by rfl):G dl n σ (Al S k) (Ox P ops Q S ds done i 1 t):=fun a w hs ⟨_,hk⟩=>by
 obtain ⟨w',hp,hS,h'⟩:=hp w hk
 refine ox_run hs hi hw fun hQ=>(zK6 (r:=none) hs nd hp ⟨fun _ _ _=>hS,?_⟩)
 rw [hd,dn_len (m:=0)]; exact h _ w' hs ⟨hS,h'⟩ hQ
def SvA (S:World→Prop) (kk:Value→K) (kS:Value→K):Prop:=∀ u w,kk u w→S w∧kS u w
theorem sva_0 {v0:Value} {k:K}:SvA S (Ans0 v0 (Sv S k)) (Ans0 v0 k):=fun _ _ ⟨h,hS,hk⟩=>⟨hS,h,hk⟩
theorem sva_1 {α:Type} {c:α→Value} {k:α→K}:SvA S (Ans1 c fun x=>Sv S (k x)) (Ans1 c k):=fun _ _ ⟨x,h,hS,hk⟩=>⟨hS,x,h,hk⟩
theorem sva_2 {α β:Type} {c:α→β→Value} {k:α→β→K}:SvA S (Ans2 c fun x y=>Sv S (k x y)) (Ans2 c k):=fun _ _ ⟨x,y,h,hS,hk⟩=>⟨hS,x,y,h,hk⟩
theorem sva_3 {α β γ:Type} {c:α→β→γ→Value} {k:α→β→γ→K}:SvA S (Ans3 c fun x y z=>Sv S (k x y z)) (Ans3 c k):=fun _ _ ⟨x,y,z,h,hS,hk⟩=>⟨hS,x,y,z,h,hk⟩
theorem ox_c1 {kk kS:Value→K} (h:∀ u,G dl n ((d,u)::σ) (Al S (kS u)) (Dx P ops Q S ds (i::done) t)) (hi:ops[i]? = some o:=by rfl) (hd:o.dst = some d:=by rfl) (hw:wants ops σ o = some true:=by rfl) (hp:WC P σ o k kk:=by exact zGs)
  (hS:SvA S kk kS:=by first | exact sva_1 | exact sva_0 | exact sva_2 | exact sva_3) (hn:Nat.ble (d + 1) n = true:=by rfl) (nd:isDef o.op = false:=by rfl):G dl n σ (Al S k) (Ox P ops Q S ds done i 1 t):=fun a w hs ⟨_,hk⟩=>by
 obtain ⟨f,args,w',hp,hc⟩:=hp w hk
 refine ox_run hs hi hw fun hQ=>(zGy (r:=none) hs nd hp hc fun v w1 h'=>⟨fun _ _ _=>(hS v w1 h').1,?_⟩)
 rw [hd,dn_len (m:=0)]; exact h v _ w1 (hs.put (Nat.le_of_ble_eq_true hn) _) (hS v w1 h') hQ
theorem ox_r2 (h:∀ x,G dl n ((d,vx x)::σ) (k' x) (Dx P ops Q S ds (i::done) t)) (hi:ops[i]? = some o:=by rfl) (hd:o.dst = some d:=by rfl) (hw:wants ops σ o = some true:=by rfl) (hp:WR P σ o k vx k':=by exact zF4)
  (hn:Nat.ble (d + 1) n = true:=by rfl) (nd:isDef o.op = false:=by rfl):G dl n σ k (Ox P ops Q S ds done i 2 t):=fun a w hs hk=>by
 obtain ⟨x,hp,h'⟩:=hp w hk
 refine ox_run hs hi hw fun hQ=>(zDn (r:=none) hs nd hp ⟨fun _ _ h=>h,?_⟩)
 rw [hd,dn_len (m:=0)]; exact h x _ w (hs.put (Nat.le_of_ble_eq_true hn) _) h' hQ
theorem ox_r2A (h:∀ x,G dl n ((d,vx x)::σ) (Al S (k' x)) (Dx P ops Q S ds (i::done) t)) (hi:ops[i]? = some o:=by rfl) (hd:o.dst = some d:=by rfl) (hw:wants ops σ o = some true:=by rfl) (hp:WR P σ o k vx k':=by exact zF4)
  (hn:Nat.ble (d + 1) n = true:=by rfl) (nd:isDef o.op = false:=by rfl):G dl n σ (Al S k) (Ox P ops Q S ds done i 2 t):=fun a w hs ⟨hS,hk⟩=>by
 obtain ⟨x,hp,h'⟩:=hp w hk
 refine ox_run hs hi hw fun hQ=>(zDn (r:=none) hs nd hp ⟨fun _ _ h=>h,?_⟩)
 rw [hd,dn_len (m:=0)]; exact h x _ w (hs.put (Nat.le_of_ble_eq_true hn) _) ⟨hS,h'⟩ hQ
end
variable {k0:K} {id:Nat}
theorem zHU (h:G dl n σ k0 (Dx P l.toArray Q Any ds [] t)) (hh:DH id 0 ds t:=by assumption) (hQ:Tight Q:=by exact zHT) [hm:MX P]:G dl n σ (Dr k0) (Cx none P (.region id l.toArray true) Q):=fun a w hs ⟨w1,hw,hk⟩=>by
 subst hw
 have h1:=h a _ hs hk hQ
 refine wpIn_region_any hm.h (zFF (S:=Any) (ds:=ds) _ _ _ _ ?_)
 rw [zK8]; exact h1
theorem zHV (h:∀ w1,G dl n σ (Al (Is w1) k0) (Dx P l.toArray Q (Is w1) ds [] t)) (hh:DH id 1 ds t:=by assumption) (hQ:Tight Q:=by exact zHT) [hm:MX P]:G dl n σ (Dr k0) (Cx none P (.region id l.toArray true) Q):=fun a w hs ⟨w1,hw,hk⟩=>by
 subst hw
 have h1:=h _ a _ hs ⟨Is.intro _,hk⟩ hQ
 refine wpIn_region_any hm.h (zFF (S:=Is { w with drawn:=w.drawn + 1 }) (ds:=ds) _ _ _ _ ?_)
 rw [zK8]; exact h1
theorem zHW {kS:(World→Prop)→K} (h:∀ S,G dl n σ (Al S (kS S)) (Dx P l.toArray Q S ds [] t)) (hh:DH id 2 ds t:=by assumption) (hQ:Tight Q:=by exact zHT) [hm:MX P]:G dl n σ (Dr (WithS kS)) (Cx none P (.region id l.toArray true) Q):=fun a w hs ⟨w1,hw,S,hS,hk⟩=>by
 subst hw
 have h1:=h S a _ hs ⟨hS,hk⟩ hQ
 refine wpIn_region_any hm.h (zFF (S:=S) (ds:=ds) _ _ _ _ ?_)
 rw [zK8]; exact h1
def Sx (P:Program) (ops:Array Oper) (Q:Exit→Act→World→Prop) (l:List Oper):Act→World→Prop:=fun a w=>wpStill P ops w (fun a'=>Q .normal a' w) l a
theorem zHX (h:G [] n σ k0 (Sx P l.toArray Q l)) [hm:MX P] (hB:Region.lexB .any l.toArray = true:=by as_aux_lemma=>kernel_rfl):G [] n σ (Dr k0) (Cx none P (.region id l.toArray true) Q):=fun a w hs ⟨w1,hw,hk⟩=>by
 refine wpIn_wide.2 (zSS hm.h hB hw (h a w1 hs hk))
theorem sx_p {d:Nat} (h:G [] n ((d,v)::σ) k (Sx P ops Q l)) (hd:o.dst = some d:=by rfl) (hw:wants ops σ o = some true:=by rfl) (hp:Pure P σ o v:=by exact zK0) (hn:Nat.ble (d + 1) n = true:=by rfl):G [] n σ k (Sx P ops Q (o::l)):=fun a w hs hk =>
 s_yes hs.nil hw (s_pure hs.nil rfl hd (Nat.le_of_ble_eq_true hn) hp fun a h'=>h a w h'.D hk)
theorem sx_no {d:Nat} (h:G [] n ((d,undef)::σ) k (Sx P ops Q l)) (hd:o.dst = some d:=by rfl) (hw:wants ops σ o = some false:=by rfl) (hn:Nat.ble (d + 1) n = true:=by rfl):G [] n σ k (Sx P ops Q (o::l)):=fun a w hs hk =>
 s_no hs.nil hw hd (Nat.le_of_ble_eq_true hn) fun a h'=>h a w h'.D hk
section
variable {α:Type} {vx:α→Value} {k':α→K} {d:Nat}
theorem sx_r0 (hr:WR P σ o k vx k') (h:∀ x,G [] n ((d,vx x)::σ) (k' x) (Sx P ops Q l)) (hd:o.dst = some d) (hw:wants ops σ o = some true) (hn:Nat.ble (d + 1) n = true):G [] n σ k (Sx P ops Q (o::l)):=fun a w hs hk=>by
 obtain ⟨x,hp,h'⟩:=hr w hk
 exact s_yes hs.nil hw (s_eff hs.nil rfl hd (Nat.le_of_ble_eq_true hn) hp fun a hs'=>h x a w hs'.D h')
theorem sx_wp (h:∀ x,G [] n ((d,vx x)::σ) (k' x) (Sx P ops Q l)) (hd:o.dst = some d:=by rfl) (hw:wants ops σ o = some true:=by rfl) (hp:WP P σ o k vx k':=by exact zIl) (hn:Nat.ble (d + 1) n = true:=by rfl):G [] n σ k (Sx P ops Q (o::l)):=sx_r0 hp.wr h hd hw hn
theorem sx_wr (h:∀ x,G [] n ((d,vx x)::σ) (k' x) (Sx P ops Q l)) (hd:o.dst = some d:=by rfl) (hw:wants ops σ o = some true:=by rfl) (hp:WR P σ o k vx k':=by exact zF4) (hn:Nat.ble (d + 1) n = true:=by rfl):G [] n σ k (Sx P ops Q (o::l)):=sx_r0 hp h hd hw hn
end
theorem sx_ite {b:Bool} {x y:K} (h1:b = true→G dl n σ x (Sx P ops Q (o::l))) (h2:b = false→G dl n σ y (Sx P ops Q (o::l))) (hg:gslot ops σ o = some (.bool b):=by rfl):G dl n σ (Ite b x y) (Sx P ops Q (o::l)):=fun a w hs hk=>by
 cases b
 ·exact h2 rfl a w hs (hk.2 rfl)
 ·exact h1 rfl a w hs (hk.1 rfl)
theorem sx_nil (h:G [] n σ k (Ex Q .normal)):G [] n σ k (Sx P ops Q []):=fun a w hs hk=>h a w hs hk
end
end Go.Sep
namespace Go.Sep
open Go
def jumpC:Exit→Code
 | .exit i=>.exit i
 | _=>.ret
def BeginR (l:Nat) (r:Loop) (k:K):K:=fun w=>w.heap[l]? = some (.loop r)∧k (w.putObj l (.loop { r with state:=.busy }))
def StopR (l:Nat) (r:Loop) (J:Exit) (k:K):K:=fun w=>w.heap[l]? = some (.loop r)∧k (w.putObj l (.loop { r with state:=.done,pending:=some (jumpC J) }))
def YN (kN kJ:K):Value→K:=fun v w=>(v = .bool true∧kN w)∨(v = .bool false∧kJ w)
def RangeJ {α:Type} (P:Program) (fv:Value) (J:Exit) (cX:α→List Value) (body:(K→K)→K→K→α→K) (after afterJ:Nat→K):K:=fun w =>
 ∃ g cs,fv = .func (.func g) #[] cs∧callable P g = true ∧
  ∀ (r:Loop) (w1:World),r.state = .ready→r.pending = none→r.defers = w.heap.size→w1 = (w.alloc (.deferred (some []))).alloc (.loop r) →
   (∀ (x:α) (kN kJ:K) (W:World),W.heap[w.heap.size + 1]? = some (.loop r) →
    body (BeginR (w.heap.size + 1) r) (EndR (w.heap.size + 1) { r with state:=.busy } kN) (StopR (w.heap.size + 1) { r with state:=.busy } J kJ) x W →
    YieldAt Fence.wide 0 P (w.heap.size + 1) (cX x).toArray W (Ret (YN kN kJ))) →
   Calls P g (yv (w.heap.size + 1)::cs.toList).toArray w1 (Ret fun _ w3 =>
    (w3.heap[w.heap.size + 1]? = some (.loop r)∧after w.heap.size (w3.putObj (w.heap.size + 1) (.loop { r with state:=.exhausted }))) ∨
    (w3.heap[w.heap.size + 1]? = some (.loop { r with state:=.done,pending:=some (jumpC J) })∧afterJ w.heap.size (w3.putObj (w.heap.size + 1) (.loop { r with state:=.exhausted,pending:=some (jumpC J) }))))
def FQ:Exit→Act→World→Prop:=fun _ _ _=>False
def RQ (J:Exit) (kN kJ:K):Exit→Act→World→Prop:=fun e _ w=>match e with
 | .normal=>kN w
 | .ret=>J = .ret∧kJ w
 | .exit i=>J = .exit i∧kJ w
 | _=>False
def Bx (kb k:K) (r:Option Nat) (P:Program) (body:Code) (Q:Exit→Act→World→Prop):Act→World→Prop:=fun a w=>k w∧∀ w,kb w→body.wpIn (fe r) 0 P Q a w
def Bj (BG:K→K) (r:Option Nat) (P:Program) (body:Code) (Q:Exit→Act→World→Prop):Act→World→Prop:=fun a w=>∃ k,BG k w∧∀ w,k w→body.wpIn (fe r) 0 P Q a w
def zipS:List Nat→List Value→List (Nat×Value)→List (Nat×Value)
 | p::ps,v::vs,σ=>zipS ps vs ((p,v)::σ)
 | _,_,σ=>σ
section
variable {P:Program} {dl:List Deferred} {n:Nat} {σ τ:List (Nat×Value)} {k kb:K} {r:Option Nat} {Q:Exit→Act→World→Prop} {body assign:Code} {a:Act} {w:World}
theorem bx_b (h:G dl n σ kb (Cx r P body Q)):G dl n σ k (Bx kb k r P body Q):=fun a _ hs hk=>⟨hk,fun w hk=>h a w hs hk⟩
theorem bj_b {BG:K→K} (h:G dl n σ k (Cx r P body Q)):G dl n σ (BG k) (Bj BG r P body Q):=fun a w hs hk=>⟨k,hk,fun w hk=>h a w hs hk⟩
theorem rq_n {J:Exit} {kJ:K}:G dl n σ k (Ex (RQ J k kJ) .normal):=fun _ _ _ hk=>hk
theorem rq_r {kN:K}:G dl n σ k (Ex (RQ .ret kN k) .ret):=fun _ _ _ hk=>⟨rfl,hk⟩
theorem rq_x {kN:K} {i:Nat}:G dl n σ k (Ex (RQ (.exit i) kN k) (.exit i)):=fun _ _ _ hk=>⟨rfl,hk⟩
theorem zLs:∀ (ps:List Nat) (vs:List Value) (σ:List (Nat×Value)) (t:Array Value),(ps.all fun p=>Nat.ble (p + 1) n) = true→Slots { tmps:=t,defers:=[] } n σ →
  Slots { tmps:=(ps.zip vs).foldl (fun t p=>t.setIfInBounds p.1 p.2) t,defers:=[] } n (zipS ps vs σ)
 | [],_,_,_,_,h=>h
 | p::ps,[],_,_,_,h=>h
 | p::ps,v::vs,σ,t,hp,h=>by
  simp only [List.all_cons,Bool.and_eq_true] at hp
  have h1:=h.put (Nat.le_of_ble_eq_true hp.1) v
  exact zLs ps vs _ _ hp.2 h1
theorem zGV {α:Type} {g:Operand} {ps:List Tmp} {fv:Value} {J:Exit} {cX:α→List Value} {bk:(K→K)→K→K→α→K} {after afterJ:Nat→K}
  (h1:∀ (l:Nat) (BG:K→K) (KN KJ:K) (x:α),G [] n (zipS ps (cX x) σ) (bk BG KN KJ x) (Cx (some l) P assign (Exit.then (Bj BG (some l) P body (RQ J KN KJ)) FQ)))
  (h2:∀ D,G (markD D) n σ (after D) (Ex Q .normal)) (h3:∀ D,G (markD D) n σ (afterJ D) (Ex Q J)) (hg:ev σ g = some fv:=by rfl) (hp:(ps.all fun p=>Nat.ble (p + 1) n) = true:=by rfl) (hlen:∀ x,(cX x).length = ps.length:=by exact fun _=>rfl) (hJ:J = .ret∨∃ i,J = .exit i:=by first | exact .inl rfl | exact .inr ⟨_,rfl⟩) :
  G [] n σ (RangeJ P fv J cX bk after afterJ) (Cx none P (.rangeFunc g ps.toArray assign body) Q):=fun a w hs ⟨gf,cs,hfv,hcb,h⟩=>by
 show (Code.rangeFunc g ps.toArray assign body).wpIn Fence.wide 0 P Q a w
 refine wpIn_rangeFunc fun fn hfn=>?_
 obtain ⟨r,hr⟩:∃ r:Loop,r = { state:=.ready,pending:=none,fn,tmps:=a.tmps,params:=ps.toArray,assign,body,defers:=w.heap.size }:=⟨_,rfl⟩
 have hh:=h r _ (by rw [hr]) (by rw [hr]) (by rw [hr]) rfl
 refine ⟨w.heap.size + 1,markD w.heap.size,(w.alloc (.deferred (some []))).alloc (.loop r),{ target:=.fn (.func gf) cs,args:=#[.func (.yield (w.heap.size + 1)) #[] #[]] },(w.alloc (.deferred (some []))).alloc (.loop r),gf,
  (yv (w.heap.size + 1)::cs.toList).toArray,(w.alloc (.deferred (some []))).alloc (.loop r),?_,?_,fun _ _=>trivial,?_,(fun h=>by cases h),?_⟩
 ·rw [hr]; exact run_enterLoop_outer _ _ _ _ _
 ·have he:a.eval g = .func (.func gf) #[] cs:=by rw [← hfv]; exact hs.1.ev hg
  simp only [resolve,he]
  simp [go_sem]
 ·simp [invoke,zEF hcb]
 ·refine zGD zGO rfl ((hh ?_).mono fun e w3 he=>?_)
  ·intro x kN kJ W hl hb
   refine ⟨fn,_,assign,body,(run_yield (P:=P) (args:=(cX x).toArray) hl (by rw [hr]; simp [hlen])).trans (by rw [hr]),?_⟩
   refine roundIn_of_wpIn trivial ?_
   have hs1:=zLs ps (cX x) σ a.tmps hp (show Slots { tmps:=a.tmps,defers:=[] } n σ from by have:=hs.1; exact this)
   have h4:=h1 (w.heap.size + 1) _ _ _ x { tmps:=(ps.zip (cX x)).foldl (fun t p=>t.setIfInBounds p.1 p.2) a.tmps,defers:=[] } W ⟨hs1,rfl⟩ hb
   have h5:assign.wpIn (Fence.wide.inRound (w.heap.size + 1)) 0 P (Exit.then (Bj (BeginR (w.heap.size + 1) r) (some (w.heap.size + 1)) P body (RQ J (EndR (w.heap.size + 1) { r with state:=.busy } kN) (StopR (w.heap.size + 1) { r with state:=.busy } J kJ))) FQ)
     { tmps:=(ps.toArray.zip (cX x).toArray).foldl (fun t p=>t.setIfInBounds p.1 p.2) a.tmps,defers:=[] } W:=by
    have:(ps.toArray.zip (cX x).toArray).foldl (fun t p=>t.setIfInBounds p.1 p.2) a.tmps = (ps.zip (cX x)).foldl (fun t p=>t.setIfInBounds p.1 p.2) a.tmps:=by simp
    rw [this]; exact h4
   refine wpIn_mono h5 fun e a2 w2 hq=>?_
   cases e with
   | normal =>
    obtain ⟨kk,hk,hbd⟩:=hq
    refine ⟨_,run_beginRound hk.1 (by rw [hr]),?_⟩
    refine wpIn_mono (hbd _ hk.2) fun e a3 w3 hq=>?_
    cases e with
    | normal =>
     obtain ⟨h3,h4⟩:=hq
     exact ⟨_,_,run_endRound none h3,.inl ⟨rfl,h4⟩⟩
    | ret =>
     obtain ⟨rfl,h3,h4⟩:=hq
     exact ⟨_,_,run_endRound (some .ret) h3,.inr ⟨rfl,h4⟩⟩
    | exit i =>
     obtain ⟨rfl,h3,h4⟩:=hq
     exact ⟨_,_,run_endRound (some (.exit i)) h3,.inr ⟨rfl,h4⟩⟩
    | goto t=>exact hq.elim
    | panic c=>exact hq.elim
    | outgrown=>exact hq.elim
   | _=>exact hq.elim
  ·cases e with
   | returned v =>
    have hn:r.pending = none:=by rw [hr]
    rcases he with ⟨h3',h4⟩ | ⟨h3',h4⟩
    ·refine ⟨_,_,run_endLoop h3' (by rw [hr]; simp),?_⟩
     have h5:=h2 _ { a with defers:=markD w.heap.size++a.defers } _ ⟨hs.1,by simp [hs.2,markD]⟩ h4
     rw [hn] at h5 ⊢
     exact h5
    ·refine ⟨_,_,run_endLoop h3' (by simp),?_⟩
     have h5:=h3 _ { a with defers:=markD w.heap.size++a.defers } _ ⟨hs.1,by simp [hs.2,markD]⟩ h4
     rcases hJ with rfl | ⟨i,rfl⟩
     ·exact wpIn_ret h5
     ·exact wpIn_exit h5
   | panicked c=>exact he.elim
   | outgrown=>exact he.elim
theorem zGW {α:Type} {g:Operand} {p:Tmp} {fv:Value} {cX:α→Value} {bk:K→α→K} {after:Nat→K}
  (h1:∀ (l:Nat) (KN:K) (x:α) (k1:K),G [] n ((p,cX x)::σ) k1 (Cx (some l) P assign (Exit.then (Bx (bk KN x) k1 (some l) P body (RQ .normal KN Dead)) FQ)))
  (h2:∀ D,G (markD D) n σ (after D) (Ex Q .normal)) (hg:ev σ g = some fv:=by rfl) (hp:Nat.ble (p + 1) n = true:=by rfl) :
  G [] n σ (RangeF P fv cX bk after) (Cx none P (.rangeFunc g #[p] assign body) Q):=fun a w hs ⟨gf,cs,hfv,hcb,h⟩=>by
 show (Code.rangeFunc g #[p] assign body).wpIn Fence.wide 0 P Q a w
 refine wpIn_rangeFunc fun fn hfn=>?_
 obtain ⟨r,hr⟩:∃ r:Loop,r = { state:=.ready,pending:=none,fn,tmps:=a.tmps,params:=#[p],assign,body,defers:=w.heap.size }:=⟨_,rfl⟩
 have hh:=h r _ (by rw [hr]) (by rw [hr]) (by rw [hr]) rfl
 refine ⟨w.heap.size + 1,markD w.heap.size,(w.alloc (.deferred (some []))).alloc (.loop r),{ target:=.fn (.func gf) cs,args:=#[.func (.yield (w.heap.size + 1)) #[] #[]] },(w.alloc (.deferred (some []))).alloc (.loop r),gf,
  (yv (w.heap.size + 1)::cs.toList).toArray,(w.alloc (.deferred (some []))).alloc (.loop r),?_,?_,fun _ _=>trivial,?_,(fun h=>by cases h),?_⟩
 ·rw [hr]; exact run_enterLoop_outer _ _ _ _ _
 ·have he:a.eval g = .func (.func gf) #[] cs:=by rw [← hfv]; exact hs.1.ev hg
  simp only [resolve,he]
  simp [go_sem]
 ·simp [invoke,zEF hcb]
 ·refine zGD zGO rfl ((hh ?_).mono fun e w3 he=>?_)
  ·intro x kN W hl hb
   refine ⟨fn,_,assign,body,(run_yield (P:=P) (args:=#[cX x]) hl (by rw [hr]; rfl)).trans (by rw [hr]),?_⟩
   refine roundIn_of_wpIn trivial ?_
   have hs1:SlotsD [] { tmps:=a.tmps.setIfInBounds p (cX x),defers:=[] } n ((p,cX x)::σ):=by
    have:=hs.1.put (Nat.le_of_ble_eq_true hp) (cX x)
    exact ⟨this,rfl⟩
   have h4:=h1 (w.heap.size + 1) (EndR (w.heap.size + 1) { r with state:=.busy } kN) x (fun w=>w = W) _ W hs1 rfl
   refine wpIn_mono (show assign.wpIn (Fence.wide.inRound (w.heap.size + 1)) 0 P _ _ W from by simp only [Cx] at h4; simpa using h4) fun e a2 w2 hq=>?_
   cases e with
   | normal =>
    obtain ⟨rfl,hbd⟩:=hq
    refine ⟨_,run_beginRound hl (by rw [hr]),?_⟩
    refine wpIn_mono (hbd _ hb) fun e a3 w3 hq=>?_
    cases e with
    | normal =>
     obtain ⟨h3,h4⟩:=hq
     exact ⟨_,_,run_endRound none h3,rfl,h4⟩
    | ret=>exact absurd hq.1 (by simp)
    | exit i=>exact absurd hq.1 (by simp)
    | _=>exact hq.elim
   | _=>exact hq.elim
  ·cases e with
   | returned v =>
    have hn:r.pending = none:=by rw [hr]
    obtain ⟨h3,h4⟩:=he
    refine ⟨_,_,run_endLoop h3 (by rw [hr]; simp),?_⟩
    have h5:=h2 _ { a with defers:=markD w.heap.size++a.defers } _ ⟨hs.1,by simp [hs.2,markD]⟩ h4
    rw [hn] at h5 ⊢
    exact h5
   | panicked c=>exact he.elim
   | outgrown=>exact he.elim
end
end Go.Sep
namespace Go.Sep
open Go
def opb:Builtin→Nat
 | .len=>20
 | .max | .min=>21
 | _=>22
def opc:Op→Nat
 | .move _ | .assign _=>0
 | .pick _ _ _=>1
 | .nilCheck _=>2
 | .fieldAddr _ _ _=>3
 | .extract _ _=>4
 | .makeFunc _ _ _=>5
 | .unOp o _ _=>match o with
  | .not=>6
  | _=>7
 | .binOp o _ _ _ _=>match o with
  | .add | .sub | .mul | .and | .or | .xor=>8
  | .shl | .shr | .quo | .rem | .andNot=>9
  | _=>10
 | .convert _ _ _=>11
 | .build _ _=>12
 | .load _ _=>13
 | .lookup _ _ _ _=>14
 | .alloc _ | .box _ _=>15
 | .buildSlice _ _ _=>16
 | .store _ _ _=>17
 | .mapUpdate _ _ _ _=>18
 | .call c=>match c.callee with
  | .builtin b=>opb b
  | _=>19
 | .makeMap _ _ | .makeSlice _ _ _=>23
 | .range _ _ | .next _ _ | .entry _=>24
 | .makeInterface _ _=>25
 | .field _ _ _=>26
 | .index _ _ _ | .indexAddr _ _ _=>27
 | .slice _ _ _ _ _=>28
 | _=>99
def opi (ops:Array Oper) (i:Nat):Nat:=match ops[i]? with
 | some o=>opc o.op
 | none=>98
section
variable {P:Program} {dl:List Deferred} {n:Nat} {σ:List (Nat×Value)} {k:K} {r:Option Nat} {ops:Array Oper} {Q:Exit→Act→World→Prop} {l:List Oper} {o:Oper} {S:World→Prop} {ds done is:List Nat} {i tag:Nat} {t:Scr} {c x y:Code} {e:Exit} {kk:Value→K} {u:Operand}
theorem is_tx (h:G dl n σ k (Tx r P ops Q l)):G dl n σ k (Tx r P ops Q l):=h
theorem is_cx (h:G dl n σ k (Cx r P c Q)):G dl n σ k (Cx r P c Q):=h
theorem is_ex (h:G dl n σ k (Ex Q e)):G dl n σ k (Ex Q e):=h
theorem is_rx {rs:List ResultVar} {vs:List Value} (h:G dl n σ k (Rx P kk rs vs)):G dl n σ k (Rx P kk rs vs):=h
theorem is_fx {q:K} (h:G dl n σ k (Fx q)):G dl n σ k (Fx q):=h
theorem is_dx (h:G dl n σ k (Dx P ops Q S ds done t)):G dl n σ k (Dx P ops Q S ds done t):=h
theorem is_ox (h:G dl n σ k (Ox P ops Q S ds done i tag t)):G dl n σ k (Ox P ops Q S ds done i tag t):=h
theorem is_sx (h:G dl n σ k (Sx P ops Q l)):G dl n σ k (Sx P ops Q l):=h
theorem is_lx {α:Type} {S:α→List (Nat×Value)} {X:α→K} (h:G dl n σ k (Lx dl n S X)):G dl n σ k (Lx dl n S X):=h
theorem is_seq (h:G dl n σ k (Cx r P (.seq x y) Q)):G dl n σ k (Cx r P (.seq x y) Q):=h
theorem zI0 (h:G dl n σ k (Cx r P (.cond u x y) Q)):G dl n σ k (Cx r P (.cond u x y) Q):=h
theorem zI1 (h:G dl n σ k (Cx r P (.region i ops true) Q)):G dl n σ k (Cx r P (.region i ops true) Q):=h
theorem is_t (c:Nat) (h:G dl n σ k (Tx r P ops Q (o::l))) (hc:opc o.op = c):G dl n σ k (Tx r P ops Q (o::l)):=h
theorem is_s (c:Nat) (h:G dl n σ k (Sx P ops Q (o::l))) (hc:opc o.op = c):G dl n σ k (Sx P ops Q (o::l)):=h
theorem is_d (c:Nat) (h:G dl n σ k (Dx P ops Q S ds done (.s (i::is) t))) (hc:opi ops i = c):G dl n σ k (Dx P ops Q S ds done (.s (i::is) t)):=h
theorem is_o (c:Nat) (h:G dl n σ k (Ox P ops Q S ds done i tag t)) (hc:opi ops i = c):G dl n σ k (Ox P ops Q S ds done i tag t):=h
theorem is_gd (h:G dl n σ k (Tx r P ops Q (o::l))) (hc:o.guard.isSome = true):G dl n σ k (Tx r P ops Q (o::l)):=h
theorem is_gs (h:G dl n σ k (Sx P ops Q (o::l))) (hc:o.guard.isSome = true):G dl n σ k (Sx P ops Q (o::l)):=h
theorem is_gdx (h:G dl n σ k (Dx P ops Q S ds done (.s (i::is) t))) (hc:(ops[i]?).map (fun o=>o.guard.isSome) = some true):G dl n σ k (Dx P ops Q S ds done (.s (i::is) t)):=h
theorem zGX {b:Bool} {kx ky:K} (h1:G dl n σ kx (Cx r P x Q)) (h2:G dl n σ ky (Cx r P y Q)) (he:ev σ u = some (.bool b)):G dl n σ (Ite b kx ky) (Cx r P (.cond u x y) Q):=zSo h1 h2 he
theorem al_an0 {d:Nat} {u v0:Value} {X1:Act→World→Prop} (h:G dl n ((d,v0)::σ) (Al S k) X1):G dl n ((d,u)::σ) (Al S (Ans0 v0 k u)) X1:=fun a w hs ⟨hS,hu,hk⟩=>h a w (hu ▸ hs) ⟨hS,hk⟩
theorem au_p0 {v:Value} (h:Pure P σ o v:=by first | exact p_move rfl rfl | exact zMn rfl rfl):Pure P σ o v:=h
theorem au_p1 {v:Value} (h:Pure P σ o v:=by first | exact zMo rfl rfl rfl | exact zMp rfl rfl rfl | exact zMq rfl rfl rfl rfl):Pure P σ o v:=h
theorem au_p2 {v:Value} (h:Pure P σ o v:=by first | exact p_nil rfl rfl | exact p_nilf rfl rfl):Pure P σ o v:=h
theorem au_p3 {v:Value} (h:Pure P σ o v:=by first | exact zIM rfl rfl | exact zJV rfl rfl):Pure P σ o v:=h
theorem au_p4 {v:Value} (h:Pure P σ o v:=by exact zLj rfl rfl rfl):Pure P σ o v:=h
theorem au_p5 {v:Value} (h:Pure P σ o v:=by exact zKF rfl rfl rfl):Pure P σ o v:=h
theorem au_p6 {v:Value} (h:Pure P σ o v:=by exact p_not rfl rfl):Pure P σ o v:=h
theorem au_p10 {v:Value} (h:Pure P σ o v:=by first | exact p_eq rfl rfl rfl | exact p_ne rfl rfl rfl | exact p_lt rfl rfl rfl | exact p_le rfl rfl rfl | exact p_gt rfl rfl rfl | exact p_ge rfl rfl rfl | exact p_eqs rfl rfl rfl | exact p_nes rfl rfl rfl | exact p_lts rfl rfl rfl | exact p_gts rfl rfl rfl | exact p_ges rfl rfl rfl | exact p_les rfl rfl rfl | exact zMy rfl rfl rfl | exact zMz rfl rfl rfl | exact zOT rfl rfl rfl | exact zOU rfl rfl rfl | exact q_eqb rfl rfl rfl | exact q_neb rfl rfl rfl):Pure P σ o v:=h
theorem au_p11 {v:Value} (h:Pure P σ o v:=by exact zKM rfl rfl):Pure P σ o v:=h
theorem au_p12 {v:Value} (h:Pure P σ o v:=by exact zOV rfl rfl rfl rfl (by kernel_rfl)):Pure P σ o v:=h
theorem au_p20 {v:Value} (h:Pure P σ o v:=by first | exact q_len rfl rfl | exact q_lens rfl rfl):Pure P σ o v:=h
theorem au_p26 {v:Value} (h:Pure P σ o v:=by exact zMx rfl rfl):Pure P σ o v:=h
theorem au_wp4 {α:Type} {k:K} {vx:α→Value} {k1:α→K} (h:WP P σ o k vx k1:=by exact wp_ext rfl rfl):WP P σ o k vx k1:=h
theorem au_wp7 {α:Type} {k:K} {vx:α→Value} {k1:α→K} (h:WP P σ o k vx k1:=by exact wp_ar (by first | exact p_neg rfl rfl | exact p_com rfl rfl)):WP P σ o k vx k1:=h
theorem au_wp8 {α:Type} {k:K} {vx:α→Value} {k1:α→K} (h:WP P σ o k vx k1:=by first | exact wp_ar (by first | exact p_add rfl rfl rfl | exact p_sub rfl rfl rfl | exact p_mul rfl rfl rfl | exact p_and rfl rfl rfl | exact p_or rfl rfl rfl | exact p_xor rfl rfl rfl) | exact wp_cat rfl rfl rfl):WP P σ o k vx k1:=h
theorem au_wp9 {α:Type} {k:K} {vx:α→Value} {k1:α→K} (h:WP P σ o k vx k1:=by exact zOW (fun h0=>by first | exact p_shl rfl rfl rfl h0 | exact p_shr rfl rfl rfl h0 | exact p_quo rfl rfl rfl h0 | exact p_rem rfl rfl rfl h0)):WP P σ o k vx k1:=h
theorem zCz {α:Type} {k:K} {vx:α→Value} {k1:α→K} (h:WP P σ o k vx k1:=by exact wp_pu (zM6 rfl rfl rfl)):WP P σ o k vx k1:=h
theorem zC0 {α:Type} {k:K} {vx:α→Value} {k1:α→K} (h:WP P σ o k vx k1:=by exact wp_ar (zKN rfl rfl)):WP P σ o k vx k1:=h
theorem zC1 {α:Type} {k:K} {vx:α→Value} {k1:α→K} (h:WP P σ o k vx k1:=by first | exact wp_bld rfl rfl rfl | exact wp_pu (zLm rfl rfl)):WP P σ o k vx k1:=h
theorem zC2 {α:Type} {k:K} {vx:α→Value} {k1:α→K} (h:WP P σ o k vx k1:=by exact wp_ar (by first | exact p_max _ rfl rfl rfl | exact p_min _ rfl rfl rfl)):WP P σ o k vx k1:=h
theorem zC3 {α:Type} {k:K} {vx:α→Value} {k1:α→K} (h:WP P σ o k vx k1:=by exact wp_fld rfl rfl):WP P σ o k vx k1:=h
theorem zC4 {α:Type} {k:K} {vx:α→Value} {k1:α→K} (h:WP P σ o k vx k1:=by first | exact wp_idx rfl rfl rfl | exact zOY rfl rfl rfl | exact zOX rfl rfl rfl):WP P σ o k vx k1:=h
theorem zC5 {α:Type} {k:K} {vx:α→Value} {k1:α→K} (h:WP P σ o k vx k1:=by first | exact wp_slc rfl rfl (by first | exact rfl | exact ⟨_,rfl⟩) (by first | exact rfl | exact ⟨_,rfl⟩) (by first | exact rfl | exact ⟨_,rfl⟩) rfl | exact zOZ rfl rfl (by first | exact rfl | exact ⟨_,rfl⟩) (by first | exact rfl | exact ⟨_,rfl⟩)):WP P σ o k vx k1:=h
theorem zCG {α:Type} {k:K} {vx:α→Value} {k1:α→K} (h:WR P σ o k vx k1:=by exact wr_rd (zEV rfl rfl)):WR P σ o k vx k1:=h
theorem zCH {α:Type} {k:K} {vx:α→Value} {k1:α→K} (h:WR P σ o k vx k1:=by first | exact wr_ld rfl rfl | exact wr_ldN rfl rfl):WR P σ o k vx k1:=h
theorem zCI {α:Type} {k:K} {vx:α→Value} {k1:α→K} (h:WR P σ o k vx k1:=by exact wr_rd (e_len' rfl rfl rfl)):WR P σ o k vx k1:=h
theorem zCJ {α:Type} {k:K} {vx:α→Value} {k1:α→K} (h:WR P σ o k vx k1:=by exact wr_rd (e_mkI' rfl rfl)):WR P σ o k vx k1:=h
theorem zDZ {α:Type} {k:K} {vx:α→Value} {k1:α→K} (h:WE P σ o k vx k1:=by exact we_do (zEV rfl rfl)):WE P σ o k vx k1:=h
theorem zDa {α:Type} {k:K} {vx:α→Value} {k1:α→K} (h:WE P σ o k vx k1:=by first | exact we_box rfl rfl rfl | exact zM0 rfl rfl):WE P σ o k vx k1:=h
theorem zDb {α:Type} {k:K} {vx:α→Value} {k1:α→K} (h:WE P σ o k vx k1:=by first | exact zM1 rfl rfl rfl rfl (by kernel_rfl) | exact zJW rfl rfl rfl (by kernel_rfl)):WE P σ o k vx k1:=h
theorem zBs {α:Type} {k:K} {vx:α→Value} {k1:α→K} (h:WE P σ o k vx k1:=by exact we_do (by first | exact zLk rfl rfl rfl rfl | exact zOb rfl rfl rfl rfl | exact zLl rfl rfl rfl rfl | exact e_cap' rfl rfl rfl | exact zM3 rfl rfl rfl)):WE P σ o k vx k1:=h
theorem zDc {α:Type} {k:K} {vx:α→Value} {k1:α→K} (h:WE P σ o k vx k1:=by exact we_do (by first | exact zKO rfl | exact zIN rfl rfl rfl)):WE P σ o k vx k1:=h
theorem zDd {α:Type} {k:K} {vx:α→Value} {k1:α→K} (h:WE P σ o k vx k1:=by exact we_do (by first | exact zOc rfl rfl rfl | exact zM4 rfl rfl | exact zM5 rfl rfl)):WE P σ o k vx k1:=h
theorem zDe {k k1:K} (h:WK P σ o k k1:=by first | exact wk_st rfl rfl rfl | exact wk_stN rfl rfl rfl):WK P σ o k k1:=h
theorem zDf {k k1:K} (h:WK P σ o k k1:=by exact wk_do (zIO rfl rfl rfl rfl)):WK P σ o k k1:=h
theorem zCK {k:K} {kk:Value→K} (h:WC P σ o k kk:=by first | exact zOa rfl rfl rfl rfl | exact zM2 rfl rfl rfl rfl | exact wc_fv rfl rfl rfl):WC P σ o k kk:=h
theorem zI2 {S:World→Prop} {α:Type} {k:K} {vx:α→Value} {k1:α→K} (h:WS P S σ o k vx k1:=by exact ws_rd (zEV rfl rfl)):WS P S σ o k vx k1:=h
theorem zI3 {S:World→Prop} {α:Type} {k:K} {vx:α→Value} {k1:α→K} (h:WS P S σ o k vx k1:=by first | exact ws_ld rfl rfl | exact ws_ldN rfl rfl):WS P S σ o k vx k1:=h
theorem zI4 {S:World→Prop} {α:Type} {k:K} {vx:α→Value} {k1:α→K} (h:WS P S σ o k vx k1:=by exact ws_rd (e_len' rfl rfl rfl)):WS P S σ o k vx k1:=h
theorem zI5 {S:World→Prop} {α:Type} {k:K} {vx:α→Value} {k1:α→K} (h:WS P S σ o k vx k1:=by exact ws_rd (e_mkI' rfl rfl)):WS P S σ o k vx k1:=h
end
set_option maxRecDepth 100000 in
theorem g_walk {P:Program} {f:FuncId} {fn:Func} {c:Code} {args:List Value} {kk:Value→K} {k:K} (n:Nat) {w:World} (hk:k w) (hf:P.funcs[f]? = some fn) (hb:fn.body = some c:=by rfl) (hn:fn.ntmps = n:=by rfl) (hl:Nat.ble args.length n = true:=by rfl)
  (h:G [] n (numb 0 args) k (Cx none P c (bodyPostT P fn (Ret kk))):=by
   repeat' first
   | intro _
   | (refine is_tx ?_; first
     | refine tx_nil ?_
     | (refine is_gd ?_ rfl; first | refine tx_no ?_ | refine tx_no' ?_)
     | (refine is_t 0 ?_ rfl; refine tx_p (hp:=by exact au_p0) ?_)
     | (refine is_t 2 ?_ rfl; first | refine tx_p (hp:=by exact au_p2) ?_ | (refine gx_nn ?_; intro b hb; subst hb) | (refine gx_fv ?_; intro g fs cs hf cb; subst hf))
     | (refine is_t 3 ?_ rfl; refine tx_p (hp:=by exact au_p3) ?_)
     | (refine is_t 13 ?_ rfl; refine tx_wr (hp:=by exact zCH) ?_)
     | (refine is_t 19 ?_ rfl; first | (refine tx_wc (hp:=by exact zCK) ?_; intro u; first | refine an_1 ?_ | refine an_0 ?_ | refine an_2 ?_ | refine an_3 ?_ | refine an_4 ?_ | refine an_5 ?_) | refine tx_wr (hp:=by exact wr_rd (e_ext' rfl rfl rfl)) ?_ | (refine tx_wcn (hp:=by exact zCK) ?_; intro u; first | refine am_0 ?_ | refine am_1 ?_ | refine am_2 ?_ | skip) | (refine tx_wy ?_; intro u; first | refine an_1 ?_ | refine an_0 ?_ | refine an_2 ?_ | refine an_3 ?_ | refine an_4 ?_ | refine an_5 ?_))
     | (refine is_t 10 ?_ rfl; first | refine tx_p (hp:=by exact au_p10) ?_ | refine tx_wp (hp:=by exact zCz) ?_)
     | (refine is_t 8 ?_ rfl; refine tx_wp (hp:=by exact au_wp8) ?_)
     | (refine is_t 20 ?_ rfl; first | refine tx_p (hp:=by exact au_p20) ?_ | refine tx_wr (hp:=by exact zCI) ?_)
     | (refine is_t 27 ?_ rfl; refine tx_wp (hp:=by exact zC4) ?_)
     | (refine is_t 4 ?_ rfl; first | refine tx_p (hp:=by exact au_p4) ?_ | refine tx_wp (hp:=by exact au_wp4) ?_)
     | (refine is_t 17 ?_ rfl; refine tx_wk (hp:=by exact zDe) ?_)
     | (refine is_t 1 ?_ rfl; refine tx_p (hp:=by exact au_p1) ?_)
     | (refine is_t 6 ?_ rfl; refine tx_p (hp:=by exact au_p6) ?_)
     | (refine is_t 15 ?_ rfl; refine tx_we (hp:=by exact zDa) ?_)
     | (refine is_t 16 ?_ rfl; refine tx_we (hp:=by exact zDb) ?_)
     | (refine is_t 22 ?_ rfl; first | refine tx_we (hp:=by exact zBs) ?_ | refine tx_wen (hp:=by exact zBs) ?_)
     | (refine is_t 28 ?_ rfl; refine tx_wp (hp:=by exact zC5) ?_)
     | (refine is_t 11 ?_ rfl; first | refine tx_wp (hp:=by exact zC0) ?_ | refine tx_p (hp:=by exact au_p11) ?_ | refine tx_wr (hp:=by exact zCG) ?_ | refine tx_we (hp:=by exact zDZ) ?_)
     | (refine is_t 26 ?_ rfl; first | refine tx_wp (hp:=by exact zC3) ?_ | refine tx_p (hp:=by exact au_p26) ?_)
     | (refine is_t 12 ?_ rfl; first | refine tx_wp (hp:=by exact zC1) ?_ | refine tx_p (hp:=by exact au_p12) ?_)
     | (refine is_t 5 ?_ rfl; refine tx_p (hp:=by exact au_p5) ?_)
     | (refine is_t 7 ?_ rfl; refine tx_wp (hp:=by exact au_wp7) ?_)
     | (refine is_t 9 ?_ rfl; refine tx_wp (hp:=by exact au_wp9) ?_)
     | (refine is_t 14 ?_ rfl; first | refine tx_wr (hp:=by exact wr_rd (zAX rfl rfl rfl)) ?_ | (refine tx_wr (hp:=by exact wr_rd2 (zAX rfl rfl rfl)) ?_; intro u; refine an_2 ?_))
     | (refine is_t 18 ?_ rfl; refine tx_wk (hp:=by exact zDf) ?_)
     | (refine is_t 21 ?_ rfl; refine tx_wp (hp:=by exact zC2) ?_)
     | (refine is_t 23 ?_ rfl; refine tx_we (hp:=by exact zDc) ?_)
     | (refine is_t 24 ?_ rfl; refine tx_we (hp:=by exact zDd) ?_)
     | (refine is_t 25 ?_ rfl; refine tx_wr (hp:=by exact zCJ) ?_)
     | (refine tx_ite ?_ ?_ <;> (intro hb; refine zCy ?_; intro a w hs; try rw [hb] at hs; clear hb; revert hs; revert w; revert a; refine gx_unf ?_)))
   | (refine is_cx ?_; first
     | refine cx_reg ?_
     | (refine is_seq ?_; first | (refine zIr ?_; (repeat apply ex_i); refine And.intro zEu (And.intro ?_ ?_)) | refine cx_seq ?_)
     | refine zGX ?_ ?_ rfl
     | refine zIs ?_
     | refine cx_ret ?_
     | refine zHO ?_
     | refine zIt ?_
     | refine zIu ?_
     | (refine zI0 ?_; first | refine zGR ?_ | refine zGS ?_)
     | (refine zI1 ?_; first | refine zHV ?_ | refine zHU ?_ | refine zHW ?_ | refine zHX ?_)
     | refine zHN ?_
     | refine zGW ?_ ?_
     | refine zGV ?_ ?_ ?_
     | refine zCF ?_)
   | (refine is_ex ?_; first
     | refine zIv ?_
     | refine zGU ?_
     | refine zGT ?_
     | refine ex_blk ?_
     | refine zHP ?_
     | refine zHQ ?_
     | refine zHR ?_
     | refine zIw ?_
     | refine ex_ret ?_
     | refine ex_end ?_
     | exact rq_n
     | exact rq_r
     | exact rq_x
     | refine zCF ?_)
   | exact zIp
   | refine gp_in ?_
   | (refine is_rx ?_; first
     | refine rx_tmp ?_
     | refine rx_nil ?_
     | refine zIx ?_
     | refine zHS ?_)
   | (refine is_fx ?_; first
     | exact fx_1
     | exact fx_0
     | exact fx_2
     | exact fx_3
     | exact fx_4
     | exact fx_5)
   | (refine is_dx ?_; first
     | refine dx_end ?_
     | refine dx_nil ?_
     | refine dx_a ?_
     | (refine zIy ?_ ?_ <;> (intro hb; refine zCy ?_; intro a w hs; try rw [hb] at hs; clear hb; revert hs; revert w; revert a; refine gx_unf ?_))
     | (refine dx_ite ?_ ?_ <;> (intro hb; refine zCy ?_; intro a w hs; try rw [hb] at hs; clear hb; revert hs; revert w; revert a; refine gx_unf ?_))
     | (refine is_gdx ?_ rfl; first | refine dx_no ?_ | refine dx_no' ?_)
     | (refine is_d 0 ?_ rfl; refine dx_p (hp:=by exact au_p0) ?_)
     | (refine is_d 2 ?_ rfl; first | refine dx_p (hp:=by exact au_p2) ?_ | (refine al_nn ?_; intro b hb; subst hb) | (refine gx_nn ?_; intro b hb; subst hb) | (refine al_fv ?_; intro g fs cs hf cb; subst hf) | (refine gx_fv ?_; intro g fs cs hf cb; subst hf))
     | (refine is_d 3 ?_ rfl; refine dx_p (hp:=by exact au_p3) ?_)
     | (refine is_d 13 ?_ rfl; first | refine dx_is (hp:=by exact zCH) ?_ | refine dx_S (hp:=by exact zI3) ?_)
     | (refine is_d 10 ?_ rfl; first | refine dx_p (hp:=by exact au_p10) ?_ | refine dx_wpA (hp:=by exact zCz) ?_ | refine dx_wp (hp:=by exact zCz) ?_)
     | (refine is_d 8 ?_ rfl; first | refine dx_wpA (hp:=by exact au_wp8) ?_ | refine dx_wp (hp:=by exact au_wp8) ?_)
     | (refine is_d 20 ?_ rfl; first | refine dx_p (hp:=by exact au_p20) ?_ | refine dx_is (hp:=by exact zCI) ?_ | refine dx_S (hp:=by exact zI4) ?_)
     | (refine is_d 27 ?_ rfl; first | refine dx_wpA (hp:=by exact zC4) ?_ | refine dx_wp (hp:=by exact zC4) ?_)
     | (refine is_d 4 ?_ rfl; first | refine dx_p (hp:=by exact au_p4) ?_ | refine dx_wpA (hp:=by exact au_wp4) ?_ | refine dx_wp (hp:=by exact au_wp4) ?_)
     | (refine is_d 1 ?_ rfl; refine dx_p (hp:=by exact au_p1) ?_)
     | (refine is_d 6 ?_ rfl; refine dx_p (hp:=by exact au_p6) ?_)
     | (refine is_d 28 ?_ rfl; first | refine dx_wpA (hp:=by exact zC5) ?_ | refine dx_wp (hp:=by exact zC5) ?_)
     | (refine is_d 11 ?_ rfl; first | refine dx_wpA (hp:=by exact zC0) ?_ | refine dx_wp (hp:=by exact zC0) ?_ | refine dx_p (hp:=by exact au_p11) ?_ | refine dx_is (hp:=by exact zCG) ?_ | refine dx_S (hp:=by exact zI2) ?_)
     | (refine is_d 26 ?_ rfl; first | refine dx_wpA (hp:=by exact zC3) ?_ | refine dx_wp (hp:=by exact zC3) ?_ | refine dx_p (hp:=by exact au_p26) ?_)
     | (refine is_d 12 ?_ rfl; first | refine dx_wpA (hp:=by exact zC1) ?_ | refine dx_wp (hp:=by exact zC1) ?_ | refine dx_p (hp:=by exact au_p12) ?_)
     | (refine is_d 5 ?_ rfl; refine dx_p (hp:=by exact au_p5) ?_)
     | (refine is_d 7 ?_ rfl; first | refine dx_wpA (hp:=by exact au_wp7) ?_ | refine dx_wp (hp:=by exact au_wp7) ?_)
     | (refine is_d 9 ?_ rfl; first | refine dx_wpA (hp:=by exact au_wp9) ?_ | refine dx_wp (hp:=by exact au_wp9) ?_)
     | (refine is_d 14 ?_ rfl; first | refine dx_is (hp:=by exact wr_rd (zAX rfl rfl rfl)) ?_ | (refine dx_is (hp:=by exact wr_rd2 (zAX rfl rfl rfl)) ?_; intro u; refine al_an2 ?_) | refine dx_S (hp:=by exact ws_rd (zAX rfl rfl rfl)) ?_ | (refine dx_S (hp:=by exact ws_rd2 (zAX rfl rfl rfl)) ?_; intro u; refine al_an2 ?_))
     | (refine is_d 21 ?_ rfl; first | refine dx_wpA (hp:=by exact zC2) ?_ | refine dx_wp (hp:=by exact zC2) ?_)
     | (refine is_d 25 ?_ rfl; first | refine dx_is (hp:=by exact zCJ) ?_ | refine dx_S (hp:=by exact zI5) ?_)
     | refine zCF ?_)
   | (refine is_ox ?_; first
     | (refine is_o 13 ?_ rfl; first | refine ox_r2A (hp:=by exact zCH) ?_ | refine ox_r2 (hp:=by exact zCH) ?_)
     | (refine is_o 19 ?_ rfl; first | (refine ox_c1 (hp:=by exact zCK) ?_; intro u; first | refine al_an1 ?_ | refine al_an0 ?_ | refine al_an2 ?_) | (refine ox_c (hp:=by exact zCK) ?_; intro u; first | refine an_1 ?_ | refine an_0 ?_ | refine an_2 ?_ | refine an_3 ?_ | refine an_4 ?_ | refine an_5 ?_) | (refine ox_cn (hp:=by exact zCK) ?_; intro u; first | refine am_0 ?_ | refine am_1 ?_ | refine am_2 ?_ | skip) | (refine ox_y ?_; intro u; first | refine an_1 ?_ | refine an_0 ?_ | refine an_2 ?_ | refine an_3 ?_ | refine an_4 ?_ | refine an_5 ?_))
     | (refine is_o 20 ?_ rfl; first | refine ox_r2A (hp:=by exact zCI) ?_ | refine ox_r2 (hp:=by exact zCI) ?_)
     | (refine is_o 17 ?_ rfl; first | refine ox_k1 (hp:=by exact zDe) ?_ | refine ox_k (hp:=by exact zDe) ?_)
     | (refine is_o 15 ?_ rfl; first | refine ox_e1 (hp:=by exact zDa) ?_ | refine ox_e (hp:=by exact zDa) ?_)
     | (refine is_o 16 ?_ rfl; first | refine ox_e1 (hp:=by exact zDb) ?_ | refine ox_e (hp:=by exact zDb) ?_)
     | (refine is_o 22 ?_ rfl; first | refine ox_e1 (hp:=by exact zBs) ?_ | refine ox_e (hp:=by exact zBs) ?_ | refine ox_en1 (hp:=by exact zBs) ?_ | refine ox_en (hp:=by exact zBs) ?_)
     | (refine is_o 11 ?_ rfl; first | refine ox_e1 (hp:=by exact zDZ) ?_ | refine ox_e (hp:=by exact zDZ) ?_ | refine ox_r2A (hp:=by exact zCG) ?_ | refine ox_r2 (hp:=by exact zCG) ?_)
     | (refine is_o 14 ?_ rfl; first | refine ox_r2A (hp:=by exact wr_rd (zAX rfl rfl rfl)) ?_ | (refine ox_r2A (hp:=by exact wr_rd2 (zAX rfl rfl rfl)) ?_; intro u; refine al_an2 ?_) | refine ox_r2 (hp:=by exact wr_rd (zAX rfl rfl rfl)) ?_ | (refine ox_r2 (hp:=by exact wr_rd2 (zAX rfl rfl rfl)) ?_; intro u; refine an_2 ?_))
     | (refine is_o 18 ?_ rfl; first | refine ox_k1 (hp:=by exact zDf) ?_ | refine ox_k (hp:=by exact zDf) ?_)
     | (refine is_o 23 ?_ rfl; first | refine ox_e1 (hp:=by exact zDc) ?_ | refine ox_e (hp:=by exact zDc) ?_)
     | (refine is_o 24 ?_ rfl; first | refine ox_e1 (hp:=by exact zDd) ?_ | refine ox_e (hp:=by exact zDd) ?_)
     | (refine is_o 25 ?_ rfl; first | refine ox_r2A (hp:=by exact zCJ) ?_ | refine ox_r2 (hp:=by exact zCJ) ?_)
     | refine zCF ?_)
   | refine zIz ?_ ?_
   | refine ax_all ?_ ?_
   | exact ax_nil
   | refine ax_one ?_
   | (refine is_lx ?_; exact lx_end)
   | (refine is_sx ?_; first
     | refine sx_nil ?_
     | (refine is_gs ?_ rfl; refine sx_no ?_)
     | (refine is_s 0 ?_ rfl; refine sx_p (hp:=by exact au_p0) ?_)
     | (refine is_s 2 ?_ rfl; first | refine sx_p (hp:=by exact au_p2) ?_ | (refine gx_nn ?_; intro b hb; subst hb) | (refine gx_fv ?_; intro g fs cs hf cb; subst hf))
     | (refine is_s 3 ?_ rfl; refine sx_p (hp:=by exact au_p3) ?_)
     | (refine is_s 13 ?_ rfl; refine sx_wr (hp:=by exact zCH) ?_)
     | (refine is_s 10 ?_ rfl; first | refine sx_p (hp:=by exact au_p10) ?_ | refine sx_wp (hp:=by exact zCz) ?_)
     | (refine is_s 8 ?_ rfl; refine sx_wp (hp:=by exact au_wp8) ?_)
     | (refine is_s 20 ?_ rfl; first | refine sx_p (hp:=by exact au_p20) ?_ | refine sx_wr (hp:=by exact zCI) ?_)
     | (refine is_s 27 ?_ rfl; refine sx_wp (hp:=by exact zC4) ?_)
     | (refine is_s 4 ?_ rfl; first | refine sx_p (hp:=by exact au_p4) ?_ | refine sx_wp (hp:=by exact au_wp4) ?_)
     | (refine is_s 1 ?_ rfl; refine sx_p (hp:=by exact au_p1) ?_)
     | (refine is_s 6 ?_ rfl; refine sx_p (hp:=by exact au_p6) ?_)
     | (refine is_s 28 ?_ rfl; refine sx_wp (hp:=by exact zC5) ?_)
     | (refine is_s 11 ?_ rfl; first | refine sx_wp (hp:=by exact zC0) ?_ | refine sx_p (hp:=by exact au_p11) ?_ | refine sx_wr (hp:=by exact zCG) ?_)
     | (refine is_s 26 ?_ rfl; first | refine sx_wp (hp:=by exact zC3) ?_ | refine sx_p (hp:=by exact au_p26) ?_)
     | (refine is_s 12 ?_ rfl; first | refine sx_wp (hp:=by exact zC1) ?_ | refine sx_p (hp:=by exact au_p12) ?_)
     | (refine is_s 5 ?_ rfl; refine sx_p (hp:=by exact au_p5) ?_)
     | (refine is_s 7 ?_ rfl; refine sx_wp (hp:=by exact au_wp7) ?_)
     | (refine is_s 9 ?_ rfl; refine sx_wp (hp:=by exact au_wp9) ?_)
     | (refine is_s 14 ?_ rfl; first | refine sx_wr (hp:=by exact wr_rd (zAX rfl rfl rfl)) ?_ | (refine sx_wr (hp:=by exact wr_rd2 (zAX rfl rfl rfl)) ?_; intro u; refine an_2 ?_))
     | (refine is_s 21 ?_ rfl; refine sx_wp (hp:=by exact zC2) ?_)
     | (refine is_s 25 ?_ rfl; refine sx_wr (hp:=by exact zCJ) ?_)
     | (refine sx_ite ?_ ?_ <;> (intro hb; refine zCy ?_; intro a w hs; try rw [hb] at hs; clear hb; revert hs; revert w; revert a; refine gx_unf ?_)))
   | refine bx_b ?_
   | refine bj_b ?_
   | exact zIq
   | refine zCF ?_) :
  CallF P f args.toArray kk w:=zK7 n hk hf h hb hn hl
end Go.Sep
namespace Go.Proofs.YtdemfamgieonbaaGreat
open Go Go.Sep
abbrev ty_int:Nat:=3
abbrev zAe:Nat:=5
abbrev zB1:Nat:=9
abbrev zDG:Nat:=22
abbrev zAp:Nat:=25
abbrev zEw:Nat:=29
abbrev zLt:Nat:=35
abbrev zBP:Nat:=37
abbrev zBe:Nat:=40
abbrev zNE:Nat:=42
abbrev zDo:Nat:=48
abbrev zDt:Nat:=49
abbrev zBO:Nat:=51
abbrev zBV:Nat:=53
abbrev zDU:Nat:=56
abbrev zBG:Nat:=84
abbrev zKP:Nat:=85
abbrev zAv:Nat:=87
abbrev zHY:Nat:=95
abbrev zA8:Nat:=123
abbrev zEx:Nat:=130
abbrev zJg:Nat:=133
abbrev zAw:Nat:=135
abbrev zCM:Nat:=136
abbrev zCo:Nat:=146
abbrev zIQ:Nat:=151
abbrev zBQ:Nat:=173
abbrev zA1:Nat:=180
abbrev zCi:Nat:=191
abbrev zA2:Nat:=194
abbrev zD4:Nat:=195
abbrev zEL:Nat:=196
abbrev zCY:Nat:=198
abbrev zCN:Nat:=200
abbrev zEl:Nat:=207
abbrev zCg:Nat:=219
abbrev zGF:Nat:=222
abbrev zBB:Nat:=224
abbrev zC7:Nat:=226
abbrev zEm:Nat:=256
abbrev zEn:Nat:=257
abbrev zEY:Nat:=258
abbrev zE8:Nat:=260
abbrev zE9:Nat:=262
abbrev zCO:Nat:=319
abbrev zDH:Nat:=321
abbrev zFA:Nat:=331
theorem zEo:zeroT Tryz.prog ty_int (.int .i64 0):=⟨Tryz.t3,by kernel_rfl,by kernel_rfl⟩
theorem zMU:zeroT Tryz.prog zAe (.int .u8 0):=⟨Tryz.t5,by kernel_rfl,by kernel_rfl⟩
theorem zK9:zeroT Tryz.prog zB1 (.string ⟨#[]⟩):=⟨Tryz.t9,by kernel_rfl,by kernel_rfl⟩
theorem zIR:zeroT Tryz.prog zAv (.agg #[(.bool false),(Sl.val ⟨none,0,0⟩),(.int .i64 0),(.int .u64 0)]):=⟨Tryz.t87,by kernel_rfl,by kernel_rfl⟩
theorem zHZ:zeroT Tryz.prog zCg (.pointer none):=⟨Tryz.t219,by kernel_rfl,by kernel_rfl⟩
theorem mixed:Tryz.prog.follows .mixedOrders = true:=by kernel_rfl
end Go.Proofs.YtdemfamgieonbaaGreat
namespace Go.Sep
open Go
abbrev dfr (g:FuncId) (fs cs:Array Value) (vs:List Value):Deferred:={ target:=.fn (.func g) cs,args:=fs++vs.toArray }
def CallD (P:Program) (f:FuncId) (args:Array Value) (kk:Value→K):K:=fun w=>∀ u,CallsDIn Fence.wide 0 P f args u w fun e u' w'=>u' = u∧Ret kk e w'
section
variable {P:Program} {dl:List Deferred} {n:Nat} {σ:List (Nat×Value)} {k:K} {ops:Array Oper} {Q:Exit→Act→World→Prop} {l:List Oper} {o:Oper} {a:Act} {w:World}
theorem zNF {K1:Act→World→Prop} {x:Operand} {xs:Array Operand} {ts:Array TypeId} {g:FuncId} {fs cs:Array Value} {vs:List Value} (hs:SlotsD dl a n σ) (ho:o.op = .defer { callee:=.value x,args:=xs,argTypes:=ts }) (hx:ev σ x = some (.func (.func g) fs cs)) (hv:evs σ xs.toList = some vs)
  (h:K1 ({ a with defers:=dfr g fs cs vs::a.defers }.put o.dst undef) w):o.wpIn (fe none) 0 P a w K1 Q:=by
 refine ⟨fun f _=>trivial,?_⟩
 have h1:xs.map a.eval = vs.toArray:=by
  have h0:xs.map (Act.eval { a with defers:=[] }) = vs.toArray:=by apply Array.ext'; simpa using zFS hs.1 hv
  exact h0
 have h3:a.eval x = .func (.func g) fs cs:=hs.1.ev hx
 have h2:(execOp a.eval o).run P w = .ok (.defer (dfr g fs cs vs)) w:=by
  simp [execOp,ho,resolve,h3,h1,Deferred.ofValue,dfr]
 show o.uponIn Fence.wide 0 P a K1 Q ((o.semAt none a.eval).run P w)
 rw [Oper.semAt_none,h2,Oper.uponIn_defer]
 exact h
theorem tx_def {x:Operand} {xs:Array Operand} {ts:Array TypeId} {g:FuncId} {fs cs:Array Value} {vs:List Value} (h:G (dfr g fs cs vs::dl) n σ k (Tx none P ops Q l)) (ho:o.op = .defer { callee:=.value x,args:=xs,argTypes:=ts }:=by rfl) (hd:o.dst = none:=by rfl) (hw:wants ops σ o = some true:=by rfl)
  (hx:ev σ x = some (.func (.func g) fs cs):=by rfl) (hv:evs σ xs.toList = some vs:=by rfl):G dl n σ k (Tx none P ops Q (o::l)):=fun a w hs hk=>by
 refine t_run hs hw (zNF hs ho hx hv ?_)
 rw [hd]
 exact h _ w ⟨hs.1,by rw [← hs.2]; rfl⟩ hk
theorem zSp {fn:Func} {kk kv:Value→K} {g:FuncId} {fs cs A:Array Value} {vs:List Value} {rs:List ResultVar} (h:∀ u,G [dfr g fs cs vs] n σ (kv u) (Rx P kk rs [])) (hr:fn.results = rs.toArray:=by rfl) (hA:fs++vs.toArray++cs = A:=by rfl) [cb:CB P g] :
  G [dfr g fs cs vs] n σ (CallD P g A kv) (Ex (bodyPostT P fn (Ret kk)) .ret):=fun a w hs hk=>by
 show LeavesInM Fence.wide 0 P fn a.tmps (Ret kk) a.defers .returning w
 rw [hs.2]
 refine ⟨by simp,.inr ⟨(fun h=>by cases h),.func g,cs,g,A,rfl,?_,fun _ _=>trivial,?_⟩⟩
 ·show (invoke (.fn (.func g) cs) (fs++vs.toArray)).run P w = _
  simp only [invoke]
  rw [zEF cb.h,hA]
 ·refine (hk .returning).mono fun e u' w' he=>?_
  obtain ⟨rfl,he⟩:=he
  cases e with
  | returned v =>
   obtain ⟨v2,h1,h2⟩:=rx_run (fn:=fn) (a:=a) (w:=w') (by rw [hr]; exact h v a w' hs he)
   exact ⟨v2,h1,h2⟩
  | panicked c=>exact he.elim
  | outgrown=>exact he.elim
theorem zP4 {x y:Operand} {T:TypeId} {vx vy:Value} (ho:o.op = .index T x y) (hx:ev σ x = some vx) (hy:ev σ y = some vy):∀ v w w',(Instr.index T vx vy).run P w = .ok v w'→Eff P σ o w (.value v) w':=fun v w w' hr _ _ hs=>by
 simp [execOp,ho,hs.ev hx,hs.ev hy,hr]
theorem ox_def {x:Operand} {xs:Array Operand} {ts:Array TypeId} {g:FuncId} {fs cs:Array Value} {vs:List Value} {S:World→Prop} {ds done:List Nat} {i:Nat} {t:Scr} (h:G (dfr g fs cs vs::dl) n σ k (Dx P ops Q S ds (i::done) t)) (hi:ops[i]? = some o:=by rfl) (ho:o.op = .defer { callee:=.value x,args:=xs,argTypes:=ts }:=by rfl) (hd:o.dst = none:=by rfl) (hw:wants ops σ o = some true:=by rfl)
  (hx:ev σ x = some (.func (.func g) fs cs):=by rfl) (hv:evs σ xs.toList = some vs:=by rfl) (hK:okK ops S ds done i:=by exact zEv):G dl n σ k (Ox P ops Q S ds done i 0 t):=fun a w hs hk=>by
 refine ox_run hs hi hw fun hQ=>(zNF hs ho hx hv ⟨hK.keep w w,?_⟩)
 rw [hd,dn_len (m:=0)]
 exact h _ w ⟨hs.1,by rw [← hs.2]; rfl⟩ hk hQ
theorem zSq {fn:Func} {kk:Value→K} {rs:List ResultVar} (h:G [] n σ k (Rx P kk rs [])) (hr:fn.results = rs.toArray:=by rfl):G [] n σ k (Ex (bodyPost P fn (Ret kk)) .ret):=fun a w hs hk=>by
 obtain ⟨v,h1,h2⟩:=rx_run (fn:=fn) (by rw [hr]; exact h a w hs hk)
 exact ⟨hs.2,v,h1,h2⟩
theorem zSr {fn:Func} {kk:Value→K} (h:G dl n σ k (Ex (bodyPost P fn (Ret kk)) .ret)):G dl n σ k (Ex (bodyPost P fn (Ret kk)) .normal):=h
end
set_option maxRecDepth 100000 in
theorem zSs {P:Program} {f:FuncId} {fn:Func} {c:Code} {args:List Value} {kk:Value→K} {k:K} (n:Nat) {w:World} (hk:k w) (hf:P.funcs[f]? = some fn) (hb:fn.body = some c:=by rfl) (hn:fn.ntmps = n:=by rfl) (hl:Nat.ble args.length n = true:=by rfl)
  (h:G [] n (numb 0 args) k (Cx none P c (bodyPostT P fn (Ret kk))):=by
   repeat' first
   | intro _
   | (refine is_tx ?_; first
     | refine tx_nil ?_
     | (refine is_gd ?_ rfl; first | refine tx_no ?_ | refine tx_no' ?_)
     | (refine is_t 0 ?_ rfl; refine tx_p (hp:=by exact au_p0) ?_)
     | (refine is_t 2 ?_ rfl; first | refine tx_p (hp:=by exact au_p2) ?_ | (refine gx_nn ?_; intro b hb; subst hb) | (refine gx_fv ?_; intro g fs cs hf cb; subst hf))
     | (refine is_t 3 ?_ rfl; refine tx_p (hp:=by exact au_p3) ?_)
     | (refine is_t 13 ?_ rfl; refine tx_wr (hp:=by exact zCH) ?_)
     | (refine is_t 19 ?_ rfl; first | (refine tx_wc (hp:=by exact zCK) ?_; intro u; first | refine an_1 ?_ | refine an_0 ?_ | refine an_2 ?_ | refine an_3 ?_ | refine an_4 ?_ | refine an_5 ?_) | refine tx_wr (hp:=by exact wr_rd (e_ext' rfl rfl rfl)) ?_ | (refine tx_wcn (hp:=by exact zCK) ?_; intro u; first | refine am_0 ?_ | refine am_1 ?_ | refine am_2 ?_ | skip) | (refine tx_wy ?_; intro u; first | refine an_1 ?_ | refine an_0 ?_ | refine an_2 ?_ | refine an_3 ?_ | refine an_4 ?_ | refine an_5 ?_))
     | (refine is_t 10 ?_ rfl; first | refine tx_p (hp:=by exact au_p10) ?_ | refine tx_wp (hp:=by exact zCz) ?_)
     | (refine is_t 8 ?_ rfl; refine tx_wp (hp:=by exact au_wp8) ?_)
     | (refine is_t 20 ?_ rfl; first | refine tx_p (hp:=by exact au_p20) ?_ | refine tx_wr (hp:=by exact zCI) ?_)
     | (refine is_t 27 ?_ rfl; refine tx_wp (hp:=by exact zC4) ?_)
     | (refine is_t 27 ?_ rfl; refine tx_wr (hp:=by exact wr_rd (zP4 rfl rfl rfl)) ?_)
     | (refine is_t 4 ?_ rfl; first | refine tx_p (hp:=by exact au_p4) ?_ | refine tx_wp (hp:=by exact au_wp4) ?_)
     | (refine is_t 17 ?_ rfl; refine tx_wk (hp:=by exact zDe) ?_)
     | (refine is_t 1 ?_ rfl; refine tx_p (hp:=by exact au_p1) ?_)
     | (refine is_t 6 ?_ rfl; refine tx_p (hp:=by exact au_p6) ?_)
     | (refine is_t 15 ?_ rfl; refine tx_we (hp:=by exact zDa) ?_)
     | (refine is_t 16 ?_ rfl; refine tx_we (hp:=by exact zDb) ?_)
     | (refine is_t 22 ?_ rfl; first | refine tx_we (hp:=by exact zBs) ?_ | refine tx_wen (hp:=by exact zBs) ?_)
     | (refine is_t 28 ?_ rfl; refine tx_wp (hp:=by exact zC5) ?_)
     | (refine is_t 11 ?_ rfl; first | refine tx_wp (hp:=by exact zC0) ?_ | refine tx_p (hp:=by exact au_p11) ?_ | refine tx_wr (hp:=by exact zCG) ?_ | refine tx_we (hp:=by exact zDZ) ?_)
     | (refine is_t 26 ?_ rfl; first | refine tx_wp (hp:=by exact zC3) ?_ | refine tx_p (hp:=by exact au_p26) ?_)
     | (refine is_t 12 ?_ rfl; first | refine tx_wp (hp:=by exact zC1) ?_ | refine tx_p (hp:=by exact au_p12) ?_)
     | (refine is_t 5 ?_ rfl; refine tx_p (hp:=by exact au_p5) ?_)
     | (refine is_t 7 ?_ rfl; refine tx_wp (hp:=by exact au_wp7) ?_)
     | (refine is_t 9 ?_ rfl; refine tx_wp (hp:=by exact au_wp9) ?_)
     | (refine is_t 14 ?_ rfl; first | refine tx_wr (hp:=by exact wr_rd (zAX rfl rfl rfl)) ?_ | (refine tx_wr (hp:=by exact wr_rd2 (zAX rfl rfl rfl)) ?_; intro u; refine an_2 ?_))
     | (refine is_t 18 ?_ rfl; refine tx_wk (hp:=by exact zDf) ?_)
     | (refine is_t 21 ?_ rfl; refine tx_wp (hp:=by exact zC2) ?_)
     | (refine is_t 23 ?_ rfl; refine tx_we (hp:=by exact zDc) ?_)
     | (refine is_t 24 ?_ rfl; refine tx_we (hp:=by exact zDd) ?_)
     | (refine is_t 25 ?_ rfl; refine tx_wr (hp:=by exact zCJ) ?_)
     | (refine is_t 99 ?_ rfl; refine tx_def ?_)
     | (refine tx_ite ?_ ?_ <;> (intro hb; refine zCy ?_; intro a w hs; try rw [hb] at hs; clear hb; revert hs; revert w; revert a; refine gx_unf ?_)))
   | (refine is_cx ?_; first
     | refine cx_reg ?_
     | (refine is_seq ?_; first | (refine zIr ?_; (repeat apply ex_i); refine And.intro zEu (And.intro ?_ ?_)) | refine cx_seq ?_)
     | refine zGX ?_ ?_ rfl
     | refine zIs ?_
     | refine cx_ret ?_
     | refine zHO ?_
     | refine zIt ?_
     | refine zIu ?_
     | (refine zI0 ?_; first | refine zGR ?_ | refine zGS ?_)
     | (refine zI1 ?_; first | refine zHV ?_ | refine zHU ?_ | refine zHW ?_ | refine zHX ?_)
     | refine zHN ?_
     | refine zGW ?_ ?_
     | refine zGV ?_ ?_ ?_
     | refine zCF ?_)
   | (refine is_ex ?_; first
     | refine zIv ?_
     | refine zGU ?_
     | refine zGT ?_
     | refine ex_blk ?_
     | refine zHP ?_
     | refine zHQ ?_
     | refine zHR ?_
     | (refine zSp ?_; intro u; refine am_0 ?_)
     | refine zIw ?_
     | refine ex_ret ?_
     | refine ex_end ?_
     | exact rq_n
     | exact rq_r
     | exact rq_x
     | refine zCF ?_)
   | exact zIp
   | refine gp_in ?_
   | (refine is_rx ?_; first
     | refine rx_tmp ?_
     | refine rx_nil ?_
     | refine zIx ?_
     | refine zHS ?_)
   | (refine is_fx ?_; first
     | exact fx_1
     | exact fx_0
     | exact fx_2
     | exact fx_3
     | exact fx_4
     | exact fx_5)
   | (refine is_dx ?_; first
     | refine dx_end ?_
     | refine dx_nil ?_
     | refine dx_a ?_
     | (refine zIy ?_ ?_ <;> (intro hb; refine zCy ?_; intro a w hs; try rw [hb] at hs; clear hb; revert hs; revert w; revert a; refine gx_unf ?_))
     | (refine dx_ite ?_ ?_ <;> (intro hb; refine zCy ?_; intro a w hs; try rw [hb] at hs; clear hb; revert hs; revert w; revert a; refine gx_unf ?_))
     | (refine is_gdx ?_ rfl; first | refine dx_no ?_ | refine dx_no' ?_)
     | (refine is_d 0 ?_ rfl; refine dx_p (hp:=by exact au_p0) ?_)
     | (refine is_d 2 ?_ rfl; first | refine dx_p (hp:=by exact au_p2) ?_ | (refine al_nn ?_; intro b hb; subst hb) | (refine gx_nn ?_; intro b hb; subst hb) | (refine al_fv ?_; intro g fs cs hf cb; subst hf) | (refine gx_fv ?_; intro g fs cs hf cb; subst hf))
     | (refine is_d 3 ?_ rfl; refine dx_p (hp:=by exact au_p3) ?_)
     | (refine is_d 13 ?_ rfl; first | refine dx_is (hp:=by exact zCH) ?_ | refine dx_S (hp:=by exact zI3) ?_)
     | (refine is_d 10 ?_ rfl; first | refine dx_p (hp:=by exact au_p10) ?_ | refine dx_wpA (hp:=by exact zCz) ?_ | refine dx_wp (hp:=by exact zCz) ?_)
     | (refine is_d 8 ?_ rfl; first | refine dx_wpA (hp:=by exact au_wp8) ?_ | refine dx_wp (hp:=by exact au_wp8) ?_)
     | (refine is_d 20 ?_ rfl; first | refine dx_p (hp:=by exact au_p20) ?_ | refine dx_is (hp:=by exact zCI) ?_ | refine dx_S (hp:=by exact zI4) ?_)
     | (refine is_d 27 ?_ rfl; first | refine dx_wpA (hp:=by exact zC4) ?_ | refine dx_wp (hp:=by exact zC4) ?_)
     | (refine is_d 4 ?_ rfl; first | refine dx_p (hp:=by exact au_p4) ?_ | refine dx_wpA (hp:=by exact au_wp4) ?_ | refine dx_wp (hp:=by exact au_wp4) ?_)
     | (refine is_d 1 ?_ rfl; refine dx_p (hp:=by exact au_p1) ?_)
     | (refine is_d 6 ?_ rfl; refine dx_p (hp:=by exact au_p6) ?_)
     | (refine is_d 28 ?_ rfl; first | refine dx_wpA (hp:=by exact zC5) ?_ | refine dx_wp (hp:=by exact zC5) ?_)
     | (refine is_d 11 ?_ rfl; first | refine dx_wpA (hp:=by exact zC0) ?_ | refine dx_wp (hp:=by exact zC0) ?_ | refine dx_p (hp:=by exact au_p11) ?_ | refine dx_is (hp:=by exact zCG) ?_ | refine dx_S (hp:=by exact zI2) ?_)
     | (refine is_d 26 ?_ rfl; first | refine dx_wpA (hp:=by exact zC3) ?_ | refine dx_wp (hp:=by exact zC3) ?_ | refine dx_p (hp:=by exact au_p26) ?_)
     | (refine is_d 12 ?_ rfl; first | refine dx_wpA (hp:=by exact zC1) ?_ | refine dx_wp (hp:=by exact zC1) ?_ | refine dx_p (hp:=by exact au_p12) ?_)
     | (refine is_d 5 ?_ rfl; refine dx_p (hp:=by exact au_p5) ?_)
     | (refine is_d 7 ?_ rfl; first | refine dx_wpA (hp:=by exact au_wp7) ?_ | refine dx_wp (hp:=by exact au_wp7) ?_)
     | (refine is_d 9 ?_ rfl; first | refine dx_wpA (hp:=by exact au_wp9) ?_ | refine dx_wp (hp:=by exact au_wp9) ?_)
     | (refine is_d 14 ?_ rfl; first | refine dx_is (hp:=by exact wr_rd (zAX rfl rfl rfl)) ?_ | (refine dx_is (hp:=by exact wr_rd2 (zAX rfl rfl rfl)) ?_; intro u; refine al_an2 ?_) | refine dx_S (hp:=by exact ws_rd (zAX rfl rfl rfl)) ?_ | (refine dx_S (hp:=by exact ws_rd2 (zAX rfl rfl rfl)) ?_; intro u; refine al_an2 ?_))
     | (refine is_d 21 ?_ rfl; first | refine dx_wpA (hp:=by exact zC2) ?_ | refine dx_wp (hp:=by exact zC2) ?_)
     | (refine is_d 25 ?_ rfl; first | refine dx_is (hp:=by exact zCJ) ?_ | refine dx_S (hp:=by exact zI5) ?_)
     | refine zCF ?_)
   | (refine is_ox ?_; first
     | (refine is_o 13 ?_ rfl; first | refine ox_r2A (hp:=by exact zCH) ?_ | refine ox_r2 (hp:=by exact zCH) ?_)
     | (refine is_o 19 ?_ rfl; first | (refine ox_c1 (hp:=by exact zCK) ?_; intro u; first | refine al_an1 ?_ | refine al_an0 ?_ | refine al_an2 ?_) | (refine ox_c (hp:=by exact zCK) ?_; intro u; first | refine an_1 ?_ | refine an_0 ?_ | refine an_2 ?_ | refine an_3 ?_ | refine an_4 ?_ | refine an_5 ?_) | (refine ox_cn (hp:=by exact zCK) ?_; intro u; first | refine am_0 ?_ | refine am_1 ?_ | refine am_2 ?_ | skip) | (refine ox_y ?_; intro u; first | refine an_1 ?_ | refine an_0 ?_ | refine an_2 ?_ | refine an_3 ?_ | refine an_4 ?_ | refine an_5 ?_))
     | (refine is_o 20 ?_ rfl; first | refine ox_r2A (hp:=by exact zCI) ?_ | refine ox_r2 (hp:=by exact zCI) ?_)
     | (refine is_o 17 ?_ rfl; first | refine ox_k1 (hp:=by exact zDe) ?_ | refine ox_k (hp:=by exact zDe) ?_)
     | (refine is_o 15 ?_ rfl; first | refine ox_e1 (hp:=by exact zDa) ?_ | refine ox_e (hp:=by exact zDa) ?_)
     | (refine is_o 16 ?_ rfl; first | refine ox_e1 (hp:=by exact zDb) ?_ | refine ox_e (hp:=by exact zDb) ?_)
     | (refine is_o 22 ?_ rfl; first | refine ox_e1 (hp:=by exact zBs) ?_ | refine ox_e (hp:=by exact zBs) ?_ | refine ox_en1 (hp:=by exact zBs) ?_ | refine ox_en (hp:=by exact zBs) ?_)
     | (refine is_o 11 ?_ rfl; first | refine ox_e1 (hp:=by exact zDZ) ?_ | refine ox_e (hp:=by exact zDZ) ?_ | refine ox_r2A (hp:=by exact zCG) ?_ | refine ox_r2 (hp:=by exact zCG) ?_)
     | (refine is_o 14 ?_ rfl; first | refine ox_r2A (hp:=by exact wr_rd (zAX rfl rfl rfl)) ?_ | (refine ox_r2A (hp:=by exact wr_rd2 (zAX rfl rfl rfl)) ?_; intro u; refine al_an2 ?_) | refine ox_r2 (hp:=by exact wr_rd (zAX rfl rfl rfl)) ?_ | (refine ox_r2 (hp:=by exact wr_rd2 (zAX rfl rfl rfl)) ?_; intro u; refine an_2 ?_))
     | (refine is_o 18 ?_ rfl; first | refine ox_k1 (hp:=by exact zDf) ?_ | refine ox_k (hp:=by exact zDf) ?_)
     | (refine is_o 23 ?_ rfl; first | refine ox_e1 (hp:=by exact zDc) ?_ | refine ox_e (hp:=by exact zDc) ?_)
     | (refine is_o 24 ?_ rfl; first | refine ox_e1 (hp:=by exact zDd) ?_ | refine ox_e (hp:=by exact zDd) ?_)
     | (refine is_o 25 ?_ rfl; first | refine ox_r2A (hp:=by exact zCJ) ?_ | refine ox_r2 (hp:=by exact zCJ) ?_)
     | (refine is_o 99 ?_ rfl; refine ox_def ?_)
     | refine zCF ?_)
   | refine zIz ?_ ?_
   | refine ax_all ?_ ?_
   | exact ax_nil
   | refine ax_one ?_
   | (refine is_lx ?_; exact lx_end)
   | (refine is_sx ?_; first
     | refine sx_nil ?_
     | (refine is_gs ?_ rfl; refine sx_no ?_)
     | (refine is_s 0 ?_ rfl; refine sx_p (hp:=by exact au_p0) ?_)
     | (refine is_s 2 ?_ rfl; first | refine sx_p (hp:=by exact au_p2) ?_ | (refine gx_nn ?_; intro b hb; subst hb) | (refine gx_fv ?_; intro g fs cs hf cb; subst hf))
     | (refine is_s 3 ?_ rfl; refine sx_p (hp:=by exact au_p3) ?_)
     | (refine is_s 13 ?_ rfl; refine sx_wr (hp:=by exact zCH) ?_)
     | (refine is_s 10 ?_ rfl; first | refine sx_p (hp:=by exact au_p10) ?_ | refine sx_wp (hp:=by exact zCz) ?_)
     | (refine is_s 8 ?_ rfl; refine sx_wp (hp:=by exact au_wp8) ?_)
     | (refine is_s 20 ?_ rfl; first | refine sx_p (hp:=by exact au_p20) ?_ | refine sx_wr (hp:=by exact zCI) ?_)
     | (refine is_s 27 ?_ rfl; refine sx_wp (hp:=by exact zC4) ?_)
     | (refine is_s 4 ?_ rfl; first | refine sx_p (hp:=by exact au_p4) ?_ | refine sx_wp (hp:=by exact au_wp4) ?_)
     | (refine is_s 1 ?_ rfl; refine sx_p (hp:=by exact au_p1) ?_)
     | (refine is_s 6 ?_ rfl; refine sx_p (hp:=by exact au_p6) ?_)
     | (refine is_s 28 ?_ rfl; refine sx_wp (hp:=by exact zC5) ?_)
     | (refine is_s 11 ?_ rfl; first | refine sx_wp (hp:=by exact zC0) ?_ | refine sx_p (hp:=by exact au_p11) ?_ | refine sx_wr (hp:=by exact zCG) ?_)
     | (refine is_s 26 ?_ rfl; first | refine sx_wp (hp:=by exact zC3) ?_ | refine sx_p (hp:=by exact au_p26) ?_)
     | (refine is_s 12 ?_ rfl; first | refine sx_wp (hp:=by exact zC1) ?_ | refine sx_p (hp:=by exact au_p12) ?_)
     | (refine is_s 5 ?_ rfl; refine sx_p (hp:=by exact au_p5) ?_)
     | (refine is_s 7 ?_ rfl; refine sx_wp (hp:=by exact au_wp7) ?_)
     | (refine is_s 9 ?_ rfl; refine sx_wp (hp:=by exact au_wp9) ?_)
     | (refine is_s 14 ?_ rfl; first | refine sx_wr (hp:=by exact wr_rd (zAX rfl rfl rfl)) ?_ | (refine sx_wr (hp:=by exact wr_rd2 (zAX rfl rfl rfl)) ?_; intro u; refine an_2 ?_))
     | (refine is_s 21 ?_ rfl; refine sx_wp (hp:=by exact zC2) ?_)
     | (refine is_s 25 ?_ rfl; refine sx_wr (hp:=by exact zCJ) ?_)
     | (refine sx_ite ?_ ?_ <;> (intro hb; refine zCy ?_; intro a w hs; try rw [hb] at hs; clear hb; revert hs; revert w; revert a; refine gx_unf ?_)))
   | refine bx_b ?_
   | refine bj_b ?_
   | exact zIq
   | refine zCF ?_) :
  CallF P f args.toArray kk w:=zK7 n hk hf h hb hn hl
set_option maxRecDepth 100000 in
theorem zSt {P:Program} {f:FuncId} {fn:Func} {c:Code} {args:List Value} {kk:Value→K} {k:K} (n:Nat) {w:World} (hk:k w) (hf:P.funcs[f]? = some fn) (hb:fn.body = some c:=by rfl) (hn:fn.ntmps = n:=by rfl) (hl:Nat.ble args.length n = true:=by rfl)
  (h:G [] n (numb 0 args) k (Cx none P c (bodyPost P fn (Ret kk))):=by
   repeat' first
   | intro _
   | (refine is_tx ?_; first
     | refine tx_nil ?_
     | (refine is_gd ?_ rfl; first | refine tx_no ?_ | refine tx_no' ?_)
     | (refine is_t 0 ?_ rfl; refine tx_p (hp:=by exact au_p0) ?_)
     | (refine is_t 2 ?_ rfl; first | refine tx_p (hp:=by exact au_p2) ?_ | (refine gx_nn ?_; intro b hb; subst hb) | (refine gx_fv ?_; intro g fs cs hf cb; subst hf))
     | (refine is_t 3 ?_ rfl; refine tx_p (hp:=by exact au_p3) ?_)
     | (refine is_t 13 ?_ rfl; refine tx_wr (hp:=by exact zCH) ?_)
     | (refine is_t 19 ?_ rfl; first | (refine tx_wc (hp:=by exact zCK) ?_; intro u; first | refine an_1 ?_ | refine an_0 ?_ | refine an_2 ?_ | refine an_3 ?_ | refine an_4 ?_ | refine an_5 ?_) | refine tx_wr (hp:=by exact wr_rd (e_ext' rfl rfl rfl)) ?_ | (refine tx_wcn (hp:=by exact zCK) ?_; intro u; first | refine am_0 ?_ | refine am_1 ?_ | refine am_2 ?_ | skip) | (refine tx_wy ?_; intro u; first | refine an_1 ?_ | refine an_0 ?_ | refine an_2 ?_ | refine an_3 ?_ | refine an_4 ?_ | refine an_5 ?_))
     | (refine is_t 10 ?_ rfl; first | refine tx_p (hp:=by exact au_p10) ?_ | refine tx_wp (hp:=by exact zCz) ?_)
     | (refine is_t 8 ?_ rfl; refine tx_wp (hp:=by exact au_wp8) ?_)
     | (refine is_t 20 ?_ rfl; first | refine tx_p (hp:=by exact au_p20) ?_ | refine tx_wr (hp:=by exact zCI) ?_)
     | (refine is_t 27 ?_ rfl; refine tx_wp (hp:=by exact zC4) ?_)
     | (refine is_t 4 ?_ rfl; first | refine tx_p (hp:=by exact au_p4) ?_ | refine tx_wp (hp:=by exact au_wp4) ?_)
     | (refine is_t 17 ?_ rfl; refine tx_wk (hp:=by exact zDe) ?_)
     | (refine is_t 1 ?_ rfl; refine tx_p (hp:=by exact au_p1) ?_)
     | (refine is_t 6 ?_ rfl; refine tx_p (hp:=by exact au_p6) ?_)
     | (refine is_t 15 ?_ rfl; refine tx_we (hp:=by exact zDa) ?_)
     | (refine is_t 16 ?_ rfl; refine tx_we (hp:=by exact zDb) ?_)
     | (refine is_t 22 ?_ rfl; first | refine tx_we (hp:=by exact zBs) ?_ | refine tx_wen (hp:=by exact zBs) ?_)
     | (refine is_t 28 ?_ rfl; refine tx_wp (hp:=by exact zC5) ?_)
     | (refine is_t 11 ?_ rfl; first | refine tx_wp (hp:=by exact zC0) ?_ | refine tx_p (hp:=by exact au_p11) ?_ | refine tx_wr (hp:=by exact zCG) ?_ | refine tx_we (hp:=by exact zDZ) ?_)
     | (refine is_t 26 ?_ rfl; first | refine tx_wp (hp:=by exact zC3) ?_ | refine tx_p (hp:=by exact au_p26) ?_)
     | (refine is_t 12 ?_ rfl; first | refine tx_wp (hp:=by exact zC1) ?_ | refine tx_p (hp:=by exact au_p12) ?_)
     | (refine is_t 5 ?_ rfl; refine tx_p (hp:=by exact au_p5) ?_)
     | (refine is_t 7 ?_ rfl; refine tx_wp (hp:=by exact au_wp7) ?_)
     | (refine is_t 9 ?_ rfl; refine tx_wp (hp:=by exact au_wp9) ?_)
     | (refine is_t 14 ?_ rfl; first | refine tx_wr (hp:=by exact wr_rd (zAX rfl rfl rfl)) ?_ | (refine tx_wr (hp:=by exact wr_rd2 (zAX rfl rfl rfl)) ?_; intro u; refine an_2 ?_))
     | (refine is_t 18 ?_ rfl; refine tx_wk (hp:=by exact zDf) ?_)
     | (refine is_t 21 ?_ rfl; refine tx_wp (hp:=by exact zC2) ?_)
     | (refine is_t 23 ?_ rfl; refine tx_we (hp:=by exact zDc) ?_)
     | (refine is_t 24 ?_ rfl; refine tx_we (hp:=by exact zDd) ?_)
     | (refine is_t 25 ?_ rfl; refine tx_wr (hp:=by exact zCJ) ?_)
     | (refine tx_ite ?_ ?_ <;> (intro hb; refine zCy ?_; intro a w hs; try rw [hb] at hs; clear hb; revert hs; revert w; revert a; refine gx_unf ?_)))
   | (refine is_cx ?_; first
     | refine cx_reg ?_
     | (refine is_seq ?_; first | (refine zIr ?_; (repeat apply ex_i); refine And.intro zEu (And.intro ?_ ?_)) | refine cx_seq ?_)
     | refine zGX ?_ ?_ rfl
     | refine zIs ?_
     | refine cx_ret ?_
     | refine zHO ?_
     | refine zIt ?_
     | refine zIu ?_
     | (refine zI0 ?_; first | refine zGR ?_ | refine zGS ?_)
     | (refine zI1 ?_; first | refine zHV ?_ | refine zHU ?_ | refine zHW ?_ | refine zHX ?_)
     | refine zHN ?_
     | refine zGW ?_ ?_
     | refine zGV ?_ ?_ ?_
     | refine zCF ?_)
   | (refine is_ex ?_; first
     | refine zIv ?_
     | refine zGU ?_
     | refine zGT ?_
     | refine ex_blk ?_
     | refine zHP ?_
     | refine zHQ ?_
     | refine zHR ?_
     | refine zIw ?_
     | refine zSq ?_
     | refine zSr ?_
     | exact rq_n
     | exact rq_r
     | exact rq_x
     | refine zCF ?_)
   | exact zIp
   | refine gp_in ?_
   | (refine is_rx ?_; first
     | refine rx_tmp ?_
     | refine rx_nil ?_
     | refine zIx ?_
     | refine zHS ?_)
   | (refine is_fx ?_; first
     | exact fx_1
     | exact fx_0
     | exact fx_2
     | exact fx_3
     | exact fx_4
     | exact fx_5)
   | (refine is_dx ?_; first
     | refine dx_end ?_
     | refine dx_nil ?_
     | refine dx_a ?_
     | (refine zIy ?_ ?_ <;> (intro hb; refine zCy ?_; intro a w hs; try rw [hb] at hs; clear hb; revert hs; revert w; revert a; refine gx_unf ?_))
     | (refine dx_ite ?_ ?_ <;> (intro hb; refine zCy ?_; intro a w hs; try rw [hb] at hs; clear hb; revert hs; revert w; revert a; refine gx_unf ?_))
     | (refine is_gdx ?_ rfl; first | refine dx_no ?_ | refine dx_no' ?_)
     | (refine is_d 0 ?_ rfl; refine dx_p (hp:=by exact au_p0) ?_)
     | (refine is_d 2 ?_ rfl; first | refine dx_p (hp:=by exact au_p2) ?_ | (refine al_nn ?_; intro b hb; subst hb) | (refine gx_nn ?_; intro b hb; subst hb) | (refine al_fv ?_; intro g fs cs hf cb; subst hf) | (refine gx_fv ?_; intro g fs cs hf cb; subst hf))
     | (refine is_d 3 ?_ rfl; refine dx_p (hp:=by exact au_p3) ?_)
     | (refine is_d 13 ?_ rfl; first | refine dx_is (hp:=by exact zCH) ?_ | refine dx_S (hp:=by exact zI3) ?_)
     | (refine is_d 10 ?_ rfl; first | refine dx_p (hp:=by exact au_p10) ?_ | refine dx_wpA (hp:=by exact zCz) ?_ | refine dx_wp (hp:=by exact zCz) ?_)
     | (refine is_d 8 ?_ rfl; first | refine dx_wpA (hp:=by exact au_wp8) ?_ | refine dx_wp (hp:=by exact au_wp8) ?_)
     | (refine is_d 20 ?_ rfl; first | refine dx_p (hp:=by exact au_p20) ?_ | refine dx_is (hp:=by exact zCI) ?_ | refine dx_S (hp:=by exact zI4) ?_)
     | (refine is_d 27 ?_ rfl; first | refine dx_wpA (hp:=by exact zC4) ?_ | refine dx_wp (hp:=by exact zC4) ?_)
     | (refine is_d 4 ?_ rfl; first | refine dx_p (hp:=by exact au_p4) ?_ | refine dx_wpA (hp:=by exact au_wp4) ?_ | refine dx_wp (hp:=by exact au_wp4) ?_)
     | (refine is_d 1 ?_ rfl; refine dx_p (hp:=by exact au_p1) ?_)
     | (refine is_d 6 ?_ rfl; refine dx_p (hp:=by exact au_p6) ?_)
     | (refine is_d 28 ?_ rfl; first | refine dx_wpA (hp:=by exact zC5) ?_ | refine dx_wp (hp:=by exact zC5) ?_)
     | (refine is_d 11 ?_ rfl; first | refine dx_wpA (hp:=by exact zC0) ?_ | refine dx_wp (hp:=by exact zC0) ?_ | refine dx_p (hp:=by exact au_p11) ?_ | refine dx_is (hp:=by exact zCG) ?_ | refine dx_S (hp:=by exact zI2) ?_)
     | (refine is_d 26 ?_ rfl; first | refine dx_wpA (hp:=by exact zC3) ?_ | refine dx_wp (hp:=by exact zC3) ?_ | refine dx_p (hp:=by exact au_p26) ?_)
     | (refine is_d 12 ?_ rfl; first | refine dx_wpA (hp:=by exact zC1) ?_ | refine dx_wp (hp:=by exact zC1) ?_ | refine dx_p (hp:=by exact au_p12) ?_)
     | (refine is_d 5 ?_ rfl; refine dx_p (hp:=by exact au_p5) ?_)
     | (refine is_d 7 ?_ rfl; first | refine dx_wpA (hp:=by exact au_wp7) ?_ | refine dx_wp (hp:=by exact au_wp7) ?_)
     | (refine is_d 9 ?_ rfl; first | refine dx_wpA (hp:=by exact au_wp9) ?_ | refine dx_wp (hp:=by exact au_wp9) ?_)
     | (refine is_d 14 ?_ rfl; first | refine dx_is (hp:=by exact wr_rd (zAX rfl rfl rfl)) ?_ | (refine dx_is (hp:=by exact wr_rd2 (zAX rfl rfl rfl)) ?_; intro u; refine al_an2 ?_) | refine dx_S (hp:=by exact ws_rd (zAX rfl rfl rfl)) ?_ | (refine dx_S (hp:=by exact ws_rd2 (zAX rfl rfl rfl)) ?_; intro u; refine al_an2 ?_))
     | (refine is_d 21 ?_ rfl; first | refine dx_wpA (hp:=by exact zC2) ?_ | refine dx_wp (hp:=by exact zC2) ?_)
     | (refine is_d 25 ?_ rfl; first | refine dx_is (hp:=by exact zCJ) ?_ | refine dx_S (hp:=by exact zI5) ?_)
     | refine zCF ?_)
   | (refine is_ox ?_; first
     | (refine is_o 13 ?_ rfl; first | refine ox_r2A (hp:=by exact zCH) ?_ | refine ox_r2 (hp:=by exact zCH) ?_)
     | (refine is_o 19 ?_ rfl; first | (refine ox_c1 (hp:=by exact zCK) ?_; intro u; first | refine al_an1 ?_ | refine al_an0 ?_ | refine al_an2 ?_) | (refine ox_c (hp:=by exact zCK) ?_; intro u; first | refine an_1 ?_ | refine an_0 ?_ | refine an_2 ?_ | refine an_3 ?_ | refine an_4 ?_ | refine an_5 ?_) | (refine ox_cn (hp:=by exact zCK) ?_; intro u; first | refine am_0 ?_ | refine am_1 ?_ | refine am_2 ?_ | skip) | (refine ox_y ?_; intro u; first | refine an_1 ?_ | refine an_0 ?_ | refine an_2 ?_ | refine an_3 ?_ | refine an_4 ?_ | refine an_5 ?_))
     | (refine is_o 20 ?_ rfl; first | refine ox_r2A (hp:=by exact zCI) ?_ | refine ox_r2 (hp:=by exact zCI) ?_)
     | (refine is_o 17 ?_ rfl; first | refine ox_k1 (hp:=by exact zDe) ?_ | refine ox_k (hp:=by exact zDe) ?_)
     | (refine is_o 15 ?_ rfl; first | refine ox_e1 (hp:=by exact zDa) ?_ | refine ox_e (hp:=by exact zDa) ?_)
     | (refine is_o 16 ?_ rfl; first | refine ox_e1 (hp:=by exact zDb) ?_ | refine ox_e (hp:=by exact zDb) ?_)
     | (refine is_o 22 ?_ rfl; first | refine ox_e1 (hp:=by exact zBs) ?_ | refine ox_e (hp:=by exact zBs) ?_ | refine ox_en1 (hp:=by exact zBs) ?_ | refine ox_en (hp:=by exact zBs) ?_)
     | (refine is_o 11 ?_ rfl; first | refine ox_e1 (hp:=by exact zDZ) ?_ | refine ox_e (hp:=by exact zDZ) ?_ | refine ox_r2A (hp:=by exact zCG) ?_ | refine ox_r2 (hp:=by exact zCG) ?_)
     | (refine is_o 14 ?_ rfl; first | refine ox_r2A (hp:=by exact wr_rd (zAX rfl rfl rfl)) ?_ | (refine ox_r2A (hp:=by exact wr_rd2 (zAX rfl rfl rfl)) ?_; intro u; refine al_an2 ?_) | refine ox_r2 (hp:=by exact wr_rd (zAX rfl rfl rfl)) ?_ | (refine ox_r2 (hp:=by exact wr_rd2 (zAX rfl rfl rfl)) ?_; intro u; refine an_2 ?_))
     | (refine is_o 18 ?_ rfl; first | refine ox_k1 (hp:=by exact zDf) ?_ | refine ox_k (hp:=by exact zDf) ?_)
     | (refine is_o 23 ?_ rfl; first | refine ox_e1 (hp:=by exact zDc) ?_ | refine ox_e (hp:=by exact zDc) ?_)
     | (refine is_o 24 ?_ rfl; first | refine ox_e1 (hp:=by exact zDd) ?_ | refine ox_e (hp:=by exact zDd) ?_)
     | (refine is_o 25 ?_ rfl; first | refine ox_r2A (hp:=by exact zCJ) ?_ | refine ox_r2 (hp:=by exact zCJ) ?_)
     | refine zCF ?_)
   | refine zIz ?_ ?_
   | refine ax_all ?_ ?_
   | exact ax_nil
   | refine ax_one ?_
   | (refine is_lx ?_; exact lx_end)
   | (refine is_sx ?_; first
     | refine sx_nil ?_
     | (refine is_gs ?_ rfl; refine sx_no ?_)
     | (refine is_s 0 ?_ rfl; refine sx_p (hp:=by exact au_p0) ?_)
     | (refine is_s 2 ?_ rfl; first | refine sx_p (hp:=by exact au_p2) ?_ | (refine gx_nn ?_; intro b hb; subst hb) | (refine gx_fv ?_; intro g fs cs hf cb; subst hf))
     | (refine is_s 3 ?_ rfl; refine sx_p (hp:=by exact au_p3) ?_)
     | (refine is_s 13 ?_ rfl; refine sx_wr (hp:=by exact zCH) ?_)
     | (refine is_s 10 ?_ rfl; first | refine sx_p (hp:=by exact au_p10) ?_ | refine sx_wp (hp:=by exact zCz) ?_)
     | (refine is_s 8 ?_ rfl; refine sx_wp (hp:=by exact au_wp8) ?_)
     | (refine is_s 20 ?_ rfl; first | refine sx_p (hp:=by exact au_p20) ?_ | refine sx_wr (hp:=by exact zCI) ?_)
     | (refine is_s 27 ?_ rfl; refine sx_wp (hp:=by exact zC4) ?_)
     | (refine is_s 4 ?_ rfl; first | refine sx_p (hp:=by exact au_p4) ?_ | refine sx_wp (hp:=by exact au_wp4) ?_)
     | (refine is_s 1 ?_ rfl; refine sx_p (hp:=by exact au_p1) ?_)
     | (refine is_s 6 ?_ rfl; refine sx_p (hp:=by exact au_p6) ?_)
     | (refine is_s 28 ?_ rfl; refine sx_wp (hp:=by exact zC5) ?_)
     | (refine is_s 11 ?_ rfl; first | refine sx_wp (hp:=by exact zC0) ?_ | refine sx_p (hp:=by exact au_p11) ?_ | refine sx_wr (hp:=by exact zCG) ?_)
     | (refine is_s 26 ?_ rfl; first | refine sx_wp (hp:=by exact zC3) ?_ | refine sx_p (hp:=by exact au_p26) ?_)
     | (refine is_s 12 ?_ rfl; first | refine sx_wp (hp:=by exact zC1) ?_ | refine sx_p (hp:=by exact au_p12) ?_)
     | (refine is_s 5 ?_ rfl; refine sx_p (hp:=by exact au_p5) ?_)
     | (refine is_s 7 ?_ rfl; refine sx_wp (hp:=by exact au_wp7) ?_)
     | (refine is_s 9 ?_ rfl; refine sx_wp (hp:=by exact au_wp9) ?_)
     | (refine is_s 14 ?_ rfl; first | refine sx_wr (hp:=by exact wr_rd (zAX rfl rfl rfl)) ?_ | (refine sx_wr (hp:=by exact wr_rd2 (zAX rfl rfl rfl)) ?_; intro u; refine an_2 ?_))
     | (refine is_s 21 ?_ rfl; refine sx_wp (hp:=by exact zC2) ?_)
     | (refine is_s 25 ?_ rfl; refine sx_wr (hp:=by exact zCJ) ?_)
     | (refine sx_ite ?_ ?_ <;> (intro hb; refine zCy ?_; intro a w hs; try rw [hb] at hs; clear hb; revert hs; revert w; revert a; refine gx_unf ?_)))
   | refine bx_b ?_
   | refine bj_b ?_
   | exact zIq
   | refine zCF ?_) :
  CallD P f args.toArray kk w:=fun u=>by
 subst hn
 refine callsDIn_of_wp hf hb trivial ?_
 exact h _ w (by rw [← zOh]; exact SlotsD.init args _ (Nat.le_of_ble_eq_true hl)) hk
end Go.Sep
namespace Go.Proofs.YtdemfamgieonbaaGreat
open Go Go.Sep
def zAQ.call (t0:(Array Value)) (first1:Int) (k:Bool→K):K:=CallF Tryz.prog 3 [(.agg t0),(.int .i64 first1)].toArray (Ans1 Value.bool k)
def zRL.call (txns0:Sl) (moves1:Sl) (k:Bool→K):K:=CallF Tryz.prog 4 [(Sl.val txns0),(Sl.val moves1)].toArray (Ans1 Value.bool k)
def zQw.call (script0:Sl) (picks1:Sl) (k:Bool→K):K:=CallF Tryz.prog 5 [(Sl.val script0),(Sl.val picks1)].toArray (Ans1 Value.bool k)
def zRM.call (node0:Int) (script1:Sl) (k:Bool→K):K:=CallF Tryz.prog 6 [(.int .i64 node0),(Sl.val script1)].toArray (Ans1 Value.bool k)
def zRN.call (script0:Sl) (picks1:Sl) (k:Bool→K):K:=CallF Tryz.prog 7 [(Sl.val script0),(Sl.val picks1)].toArray (Ans1 Value.bool k)
def zBD.call  (k:Bool→K):K:=CallF Tryz.prog 8 [].toArray (Ans1 Value.bool k)
def zAj.call (t0:(Array Value)) (k:Bool→K):K:=CallF Tryz.prog 9 [(.agg t0)].toArray (Ans1 Value.bool k)
def zAJ.call (t0:(Array Value)) (regions1:Int) (k:Bool→K):K:=CallF Tryz.prog 10 [(.agg t0),(.int .i64 regions1)].toArray (Ans1 Value.bool k)
def zBt.call (regions0:Int) (k:(Option Addr)→Int→K):K:=CallF Tryz.prog 11 [(.int .i64 regions0)].toArray (Ans2 (fun r0 r1=>.tuple #[Value.pointer r0,(Value.int .i64) r1]) k)
def zCP.call (s0:(Option Addr)) (tag1:(Array Value)) (t2:(Array Value)) (k:(Array Value)→K):K:=CallF Tryz.prog 12 [(.pointer s0),(.agg tag1),(.agg t2)].toArray (Ans1 Value.agg k)
def zA7.call (o0:(Array Value)) (k:Sl→K):K:=CallF Tryz.prog 13 [(.agg o0)].toArray (Ans1 Sl.val k)
def zBq.call (o0:(Array Value)) (k:Bool→K):K:=CallF Tryz.prog 14 [(.agg o0)].toArray (Ans1 Value.bool k)
def zAF.call (s0:(Option Addr)) (region1:Int) (i2:(Array Value)) (k:Sl→K):K:=CallF Tryz.prog 15 [(.pointer s0),(.int .i64 region1),(.agg i2)].toArray (Ans1 Sl.val k)
def zA0.call (s0:(Option Addr)) (k:Sl→K):K:=CallF Tryz.prog 16 [(.pointer s0)].toArray (Ans1 Sl.val k)
def zDB.call (s0:(Option Addr)) (k:Sl→K):K:=CallF Tryz.prog 17 [(.pointer s0)].toArray (Ans1 Sl.val k)
def zTa.call  (k:Bool→K):K:=CallF Tryz.prog 18 [].toArray (Ans1 Value.bool k)
def zTu.call (node0:Int) (epoch1:Int) (regions2:Int) (k:(Option Addr)→K):K:=CallF Tryz.prog 19 [(.int .i64 node0),(.int .u64 epoch1),(.int .i64 regions2)].toArray (Ans1 Value.pointer k)
def zP5.call (f0:(Option Addr)) (t1:(Array Value)) (k:(Array Value)→Int→K):K:=CallF Tryz.prog 20 [(.pointer f0),(.agg t1)].toArray (Ans2 (fun r0 r1=>.tuple #[Value.agg r0,(Value.int .i64) r1]) k)
def zP6.call (f0:(Option Addr)) (s1:(Option Addr)) (k:Sl→K):K:=CallF Tryz.prog 21 [(.pointer f0),(.pointer s1)].toArray (Ans1 Sl.val k)
def zDy.call (a0:(Array Value)) (b1:(Array Value)) (k:Bool→K):K:=CallF Tryz.prog 22 [(.agg a0),(.agg b1)].toArray (Ans1 Value.bool k)
def zBm.call (o0:(Array Value)) (regions1:Int) (k:Bool→K):K:=CallF Tryz.prog 23 [(.agg o0),(.int .i64 regions1)].toArray (Ans1 Value.bool k)
def zRO.call (f0:(Option Addr)) (k:Sl→K):K:=CallF Tryz.prog 24 [(.pointer f0)].toArray (Ans1 Sl.val k)
def zEy.call (script0:Sl) (k:Bool→K):K:=CallF Tryz.prog 25 [(Sl.val script0)].toArray (Ans1 Value.bool k)
def zB8.call (regions0:Int) (script1:Sl) (k:(Array Value)→Bool→K):K:=CallF Tryz.prog 26 [(.int .i64 regions0),(Sl.val script1)].toArray (Ans2 (fun r0 r1=>.tuple #[Value.agg r0,Value.bool r1]) k)
def zP7.call (regions0:Int) (k:(Option Addr)→K):K:=CallF Tryz.prog 27 [(.int .i64 regions0)].toArray (Ans1 Value.pointer k)
def zFG.call (s0:(Option Addr)) (region1:Int) (k:Int→K):K:=CallF Tryz.prog 28 [(.pointer s0),(.int .i64 region1)].toArray (Ans1 (Value.int .i64) k)
def zB9.call (s0:(Option Addr)) (key1:ByteArray) (k:(Array Value)→K):K:=CallF Tryz.prog 29 [(.pointer s0),(.string key1)].toArray (Ans1 Value.agg k)
def zCQ.call (s0:(Option Addr)) (t1:(Array Value)) (k:(Array Value)→Sl→K):K:=CallF Tryz.prog 30 [(.pointer s0),(.agg t1)].toArray (Ans2 (fun r0 r1=>.tuple #[Value.agg r0,Sl.val r1]) k)
def zGi.call (s0:(Option Addr)) (rows1:Sl) (k:K):K:=CallF Tryz.prog 31 [(.pointer s0),(Sl.val rows1)].toArray (Ans0 (.tuple #[]) k)
def zDS.call (a0:(Array Value)) (b1:(Array Value)) (k:Bool→K):K:=CallF Tryz.prog 32 [(.agg a0),(.agg b1)].toArray (Ans1 Value.bool k)
def zEZ.call (a0:Sl) (b1:Sl) (k:Bool→K):K:=CallF Tryz.prog 33 [(Sl.val a0),(Sl.val b1)].toArray (Ans1 Value.bool k)
def zTd.call (script0:Sl) (k:Bool→K):K:=CallF Tryz.prog 34 [(Sl.val script0)].toArray (Ans1 Value.bool k)
def zTv.call (regions0:Int) (k:(Option Addr)→K):K:=CallF Tryz.prog 35 [(.int .i64 regions0)].toArray (Ans1 Value.pointer k)
def zTb.call (a0:Sl) (b1:Sl) (k:Bool→K):K:=CallF Tryz.prog 36 [(Sl.val a0),(Sl.val b1)].toArray (Ans1 Value.bool k)
def zP8.call (f0:(Option Addr)) (s1:(Option Addr)) (k:Sl→K):K:=CallF Tryz.prog 37 [(.pointer f0),(.pointer s1)].toArray (Ans1 Sl.val k)
def zTi.call (s0:(Option Addr)) (t1:(Option Addr)) (o2:(Array Value)) (n3:Int) (k:K):K:=CallF Tryz.prog 38 [(.pointer s0),(.pointer t1),(.agg o2),(.int .i64 n3)].toArray (Ans0 (.tuple #[]) k)
def zTj.call (f0:(Option Addr)) (m1:(Option Addr)) (o2:(Array Value)) (tag3:(Array Value)) (k:Bool→K):K:=CallF Tryz.prog 39 [(.pointer f0),(.pointer m1),(.agg o2),(.agg tag3)].toArray (Ans1 Value.bool k)
def zTk.call (a0:Sl) (b1:Sl) (k:Bool→K):K:=CallF Tryz.prog 40 [(Sl.val a0),(Sl.val b1)].toArray (Ans1 Value.bool k)
def zTl.call (a0:Sl) (b1:Sl) (k:Bool→K):K:=CallF Tryz.prog 41 [(Sl.val a0),(Sl.val b1)].toArray (Ans1 Value.bool k)
def zJh.call (s0:(Option Addr)) (region1:Int) (k:Int→K):K:=CallF Tryz.prog 42 [(.pointer s0),(.int .i64 region1)].toArray (Ans1 (Value.int .i64) k)
def zCR.call (list0:Sl) (k:Bool→K):K:=CallF Tryz.prog 43 [(Sl.val list0)].toArray (Ans1 Value.bool k)
def zDC.call (list0:Sl) (key1:ByteArray) (k:Bool→K):K:=CallF Tryz.prog 44 [(Sl.val list0),(.string key1)].toArray (Ans1 Value.bool k)
def zAr.call (t0:(Array Value)) (o1:(Array Value)) (k:Bool→K):K:=CallF Tryz.prog 45 [(.agg t0),(.agg o1)].toArray (Ans1 Value.bool k)
def zDL.call (regions0:Int) (k:(Option Addr)→Int→K):K:=CallF Tryz.prog 46 [(.int .i64 regions0)].toArray (Ans2 (fun r0 r1=>.tuple #[Value.pointer r0,(Value.int .i64) r1]) k)
def zEM.call  (k:(Option Addr)→K):K:=CallF Tryz.prog 47 [].toArray (Ans1 Value.pointer k)
def zDQ.call (region0:Int) (k:(Option Addr)→K):K:=CallF Tryz.prog 48 [(.int .i64 region0)].toArray (Ans1 Value.pointer k)
def zEa.call (s0:(Option Addr)) (tag1:(Array Value)) (t2:(Array Value)) (k:(Array Value)→K):K:=CallF Tryz.prog 49 [(.pointer s0),(.agg tag1),(.agg t2)].toArray (Ans1 Value.agg k)
def zDO.call (x0:Sl) (k:K):K:=CallF Tryz.prog 50 [(Sl.val x0)].toArray (Ans0 (.tuple #[]) k)
def zAW.call (s0:Sl) (k:Sl→K):K:=CallF Tryz.prog 51 [(Sl.val s0)].toArray (Ans1 Sl.val k)
def zAg.call (i0:(Array Value)) (k:Sl→Int→K):K:=CallF Tryz.prog 52 [(.agg i0)].toArray (Ans2 (fun r0 r1=>.tuple #[Sl.val r0,(Value.int .i64) r1]) k)
def zBE.call (s0:(Option Addr)) (region1:Int) (k:Bool→K):K:=CallF Tryz.prog 53 [(.pointer s0),(.int .i64 region1)].toArray (Ans1 Value.bool k)
def zAV.call (o0:(Array Value)) (regions1:Int) (k:Int→K):K:=CallF Tryz.prog 54 [(.agg o0),(.int .i64 regions1)].toArray (Ans1 (Value.int .i64) k)
def zAk.call (f0:(Option Addr)) (i1:(Array Value)) (k:Bool→K):K:=CallF Tryz.prog 55 [(.pointer f0),(.agg i1)].toArray (Ans1 Value.bool k)
def zDD.call (s0:(Option Addr)) (tag1:(Array Value)) (k:(Option Addr)→K):K:=CallF Tryz.prog 56 [(.pointer s0),(.agg tag1)].toArray (Ans1 Value.pointer k)
def zBb.call (s0:(Option Addr)) (k:Sl→K):K:=CallF Tryz.prog 57 [(.pointer s0)].toArray (Ans1 Sl.val k)
def zDz.call (o0:(Array Value)) (k:(Array Value)→K):K:=CallF Tryz.prog 58 [(.agg o0)].toArray (Ans1 Value.agg k)
def zBz.call (o0:(Array Value)) (region1:Int) (k:Sl→K):K:=CallF Tryz.prog 59 [(.agg o0),(.int .i64 region1)].toArray (Ans1 Sl.val k)
def zAl.call (s0:Sl) (del1:Value) (k:Sl→K):K:=CallF Tryz.prog 60 [(Sl.val s0),del1].toArray (Ans1 Sl.val k)
def zDi.call (h0:Int) (t1:Addr) (k:Bool→K):K:=CallF Tryz.prog 61 [(.int .i64 h0),(.pointer (some t1))].toArray (Ans1 Value.bool k)
def zAd.call (l0:(Option Addr)) (s1:(Option Addr)) (tag2:(Array Value)) (marks3:Sl) (k:K):K:=CallF Tryz.prog 62 [(.pointer l0),(.pointer s1),(.agg tag2),(Sl.val marks3)].toArray (Ans0 (.tuple #[]) k)
def zDE.call (s0:(Option Addr)) (k:Sl→K):K:=CallF Tryz.prog 63 [(.pointer s0)].toArray (Ans1 Sl.val k)
def zP9.call (f0:(Option Addr)) (d1:(Array Value)) (k:(Array Value)→Bool→K):K:=CallF Tryz.prog 64 [(.pointer f0),(.agg d1)].toArray (Ans2 (fun r0 r1=>.tuple #[Value.agg r0,Value.bool r1]) k)
def zAx.call (t0:(Array Value)) (regions1:Int) (k:Int→K):K:=CallF Tryz.prog 65 [(.agg t0),(.int .i64 regions1)].toArray (Ans1 (Value.int .i64) k)
def zDM.call (t0:(Array Value)) (k:(Array Value)→K):K:=CallF Tryz.prog 66 [(.agg t0)].toArray (Ans1 Value.agg k)
def zBl.call (a0:(Array Value)) (b1:(Array Value)) (k:Bool→K):K:=CallF Tryz.prog 67 [(.agg a0),(.agg b1)].toArray (Ans1 Value.bool k)
def zCZ.call (t0:(Array Value)) (k:Sl→K):K:=CallF Tryz.prog 68 [(.agg t0)].toArray (Ans1 Sl.val k)
def zBu.call (t0:(Option Addr)) (region1:Int) (k:Bool→K):K:=CallF Tryz.prog 69 [(.pointer t0),(.int .i64 region1)].toArray (Ans1 Value.bool k)
def zEr.call (key0:ByteArray) (regions1:Int) (k:Int→K):K:=CallF Tryz.prog 70 [(.string key0),(.int .i64 regions1)].toArray (Ans1 (Value.int .i64) k)
def zGG.call (s0:(Option Addr)) (k:(Option Addr)→K):K:=CallF Tryz.prog 71 [(.pointer s0)].toArray (Ans1 Value.pointer k)
def zDV.call (s0:(Option Addr)) (key1:ByteArray) (home2:Int) (k:Int→K):K:=CallF Tryz.prog 72 [(.pointer s0),(.string key1),(.int .i64 home2)].toArray (Ans1 (Value.int .i64) k)
def zCA.call (s0:(Option Addr)) (o1:(Array Value)) (k:Sl→Int→K):K:=CallF Tryz.prog 73 [(.pointer s0),(.agg o1)].toArray (Ans2 (fun r0 r1=>.tuple #[Sl.val r0,(Value.int .i64) r1]) k)
def zAm.call (s0:(Option Addr)) (key1:ByteArray) (r2:(Array Value)) (k:K):K:=CallF Tryz.prog 74 [(.pointer s0),(.string key1),(.agg r2)].toArray (Ans0 (.tuple #[]) k)
def zCn.call (a0:(Array Value)) (b1:(Array Value)) (k:Bool→K):K:=CallF Tryz.prog 75 [(.agg a0),(.agg b1)].toArray (Ans1 Value.bool k)
def zTe.call (s0:(Option Addr)) (t1:(Array Value)) (k:Sl→K):K:=CallF Tryz.prog 76 [(.pointer s0),(.agg t1)].toArray (Ans1 Sl.val k)
def zRP.call (s0:(Option Addr)) (region1:Int) (i2:(Array Value)) (k:Sl→K):K:=CallF Tryz.prog 77 [(.pointer s0),(.int .i64 region1),(.agg i2)].toArray (Ans1 Sl.val k)
def zQA.call (f0:(Option Addr)) (d1:(Array Value)) (k:(Array Value)→Bool→K):K:=CallF Tryz.prog 78 [(.pointer f0),(.agg d1)].toArray (Ans2 (fun r0 r1=>.tuple #[Value.agg r0,Value.bool r1]) k)
def zTY.call (a0:(Array Value)) (b1:(Array Value)) (k:Bool→K):K:=CallF Tryz.prog 79 [(.agg a0),(.agg b1)].toArray (Ans1 Value.bool k)
def zRQ.call (f0:(Option Addr)) (tag1:(Array Value)) (k:(Array Value)→Bool→K):K:=CallF Tryz.prog 80 [(.pointer f0),(.agg tag1)].toArray (Ans2 (fun r0 r1=>.tuple #[Value.agg r0,Value.bool r1]) k)
def zRR.call (f0:(Option Addr)) (tag1:(Array Value)) (k:(Array Value)→Bool→K):K:=CallF Tryz.prog 81 [(.pointer f0),(.agg tag1)].toArray (Ans2 (fun r0 r1=>.tuple #[Value.agg r0,Value.bool r1]) k)
def zBg.call (t0:(Array Value)) (k:(Array Value)→K):K:=CallF Tryz.prog 82 [(.agg t0)].toArray (Ans1 Value.agg k)
def zQB.call (f0:(Option Addr)) (t1:(Array Value)) (k:(Array Value)→Int→K):K:=CallF Tryz.prog 83 [(.pointer f0),(.agg t1)].toArray (Ans2 (fun r0 r1=>.tuple #[Value.agg r0,(Value.int .i64) r1]) k)
def zFj.call (f0:(Option Addr)) (k:Int→K):K:=CallF Tryz.prog 84 [(.pointer f0)].toArray (Ans1 (Value.int .i64) k)
def zBx.call  (k:(Option Addr)→K):K:=CallF Tryz.prog 85 [].toArray (Ans1 Value.pointer k)
def zCt.call (s0:(Option Addr)) (t1:(Array Value)) (k:Sl→K):K:=CallF Tryz.prog 86 [(.pointer s0),(.agg t1)].toArray (Ans1 Sl.val k)
def zFz.call (data0:Sl) (a1:Int) (b2:Int) (limit3:Int) (k:K):K:=CallF Tryz.prog 87 [(Sl.val data0),(.int .i64 a1),(.int .i64 b2),(.int .i64 limit3)].toArray (Ans0 (.tuple #[]) k)
def zH1.call (x0:Int) (k:Int→K):K:=CallF Tryz.prog 88 [(.int .u64 x0)].toArray (Ans1 (Value.int .i64) k)
def zCv.call (p0:(Option Addr)) (list1:Sl) (k:K):K:=CallF Tryz.prog 89 [(.pointer p0),(Sl.val list1)].toArray (Ans0 (.tuple #[]) k)
def zBw.call (p0:(Option Addr)) (o1:(Array Value)) (k:K):K:=CallF Tryz.prog 90 [(.pointer p0),(.agg o1)].toArray (Ans0 (.tuple #[]) k)
def zDg.call (p0:(Option Addr)) (k:Sl→K):K:=CallF Tryz.prog 91 [(.pointer p0)].toArray (Ans1 Sl.val k)
def zDw.call (t0:(Array Value)) (k:Sl→K):K:=CallF Tryz.prog 92 [(.agg t0)].toArray (Ans1 Sl.val k)
def zBh.call (s0:Sl) (v1:Int) (k:Bool→K):K:=CallF Tryz.prog 93 [(Sl.val s0),(.int .i64 v1)].toArray (Ans1 Value.bool k)
def zB2.call (f0:(Option Addr)) (tag1:(Array Value)) (k:Bool→K):K:=CallF Tryz.prog 94 [(.pointer f0),(.agg tag1)].toArray (Ans1 Value.bool k)
def zAo.call (s0:Sl) (f1:Value) (k:Int→K):K:=CallF Tryz.prog 95 [(Sl.val s0),f1].toArray (Ans1 (Value.int .i64) k)
def zDj.call (j0:(Option Addr)) (t1:Addr) (k:Bool→K):K:=CallF Tryz.prog 96 [(.pointer j0),(.pointer (some t1))].toArray (Ans1 Value.bool k)
def zBU.call (j0:(Option Addr)) (t1:Addr) (k:Bool→K):K:=CallF Tryz.prog 97 [(.pointer j0),(.pointer (some t1))].toArray (Ans1 Value.bool k)
def zCS.call (l0:(Option Addr)) (tag1:(Array Value)) (k:Bool→K):K:=CallF Tryz.prog 98 [(.pointer l0),(.agg tag1)].toArray (Ans1 Value.bool k)
def zAy.call (l0:(Option Addr)) (tag1:(Array Value)) (k:Bool→K):K:=CallF Tryz.prog 99 [(.pointer l0),(.agg tag1)].toArray (Ans1 Value.bool k)
def zBW.call (s0:Sl) (i1:Int) (j2:Int) (k:Sl→K):K:=CallF Tryz.prog 100 [(Sl.val s0),(.int .i64 i1),(.int .i64 j2)].toArray (Ans1 Sl.val k)
def zAZ.call (s0:(Option Addr)) (o1:(Array Value)) (k:(Array Value)→K):K:=CallF Tryz.prog 101 [(.pointer s0),(.agg o1)].toArray (Ans1 Value.agg k)
def zBK.call (s0:Sl) (k:Sl→K):K:=CallF Tryz.prog 102 [(Sl.val s0)].toArray (Ans1 Sl.val k)
def zBF.call (s0:Sl) (f1:Value) (k:Int→K):K:=CallF Tryz.prog 103 [(Sl.val s0),f1].toArray (Ans1 (Value.int .i64) k)
def zBL.call (l0:(Option Addr)) (key1:ByteArray) (k:(Option Addr)→K):K:=CallF Tryz.prog 104 [(.pointer l0),(.string key1)].toArray (Ans1 Value.pointer k)
def zAh.call (s0:Sl) (f1:Value) (k:Bool→K):K:=CallF Tryz.prog 105 [(Sl.val s0),f1].toArray (Ans1 Value.bool k)
def zDW.call (tag0:(Array Value)) (k:Value→K):K:=CallF Tryz.prog 106 [(.agg tag0)].toArray (Ans1 id k)
def zCB.call (r0:(Array Value)) (m1:(Array Value)) (k:Int→K):K:=CallF Tryz.prog 107 [(.agg r0),(.agg m1)].toArray (Ans1 (Value.int .i64) k)
def zAt.call (s0:(Option Addr)) (key1:ByteArray) (k:(Array Value)→K):K:=CallF Tryz.prog 108 [(.pointer s0),(.string key1)].toArray (Ans1 Value.agg k)
def zBj.call (t0:(Option Addr)) (k:Value→K):K:=CallF Tryz.prog 109 [(.pointer t0)].toArray (Ans1 id k)
def zBZ.call (b0:Sl) (k:Sl→K):K:=CallF Tryz.prog 110 [(Sl.val b0)].toArray (Ans1 Sl.val k)
def zRS.call (f0:(Option Addr)) (tag1:(Array Value)) (k:Int→K):K:=CallF Tryz.prog 111 [(.pointer f0),(.agg tag1)].toArray (Ans1 (Value.int .i64) k)
def zFH.call (s0:Sl) (k:Sl→K):K:=CallF Tryz.prog 112 [(Sl.val s0)].toArray (Ans1 Sl.val k)
def zQC.call (f0:(Option Addr)) (at1:Int) (r2:(Array Value)) (k:(Array Value)→Bool→K):K:=CallF Tryz.prog 113 [(.pointer f0),(.int .i64 at1),(.agg r2)].toArray (Ans2 (fun r0 r1=>.tuple #[Value.agg r0,Value.bool r1]) k)
def zBc.call (t0:(Array Value)) (k:Bool→K):K:=CallF Tryz.prog 114 [(.agg t0)].toArray (Ans1 Value.bool k)
def zFI.call (o0:(Array Value)) (t1:Addr) (k:Bool→K):K:=CallF Tryz.prog 115 [(.agg o0),(.pointer (some t1))].toArray (Ans1 Value.bool k)
def zAi.call (t0:(Array Value)) (o1:(Array Value)) (k:Bool→K):K:=CallF Tryz.prog 116 [(.agg t0),(.agg o1)].toArray (Ans1 Value.bool k)
def zBX.call (s0:Sl) (f1:Value) (k:Bool→K):K:=CallF Tryz.prog 117 [(Sl.val s0),f1].toArray (Ans1 Value.bool k)
def zBM.call (s0:Sl) (k:Sl→K):K:=CallF Tryz.prog 118 [(Sl.val s0)].toArray (Ans1 Sl.val k)
def zBi.call (s0:Sl) (k:Sl→K):K:=CallF Tryz.prog 119 [(Sl.val s0)].toArray (Ans1 Sl.val k)
def zDk.call (a0:Sl) (b1:Sl) (k:Bool→K):K:=CallF Tryz.prog 120 [(Sl.val a0),(Sl.val b1)].toArray (Ans1 Value.bool k)
def zHa.call (global0:Sl) (region1:Int) (last2:Int) (k:(Array Value)→Bool→K):K:=CallF Tryz.prog 121 [(Sl.val global0),(.int .i64 region1),(.int .i64 last2)].toArray (Ans2 (fun r0 r1=>.tuple #[Value.agg r0,Value.bool r1]) k)
def zFJ.call (s0:(Option Addr)) (key1:ByteArray) (value2:Sl) (k:K):K:=CallF Tryz.prog 122 [(.pointer s0),(.string key1),(Sl.val value2)].toArray (Ans0 (.tuple #[]) k)
def zFk.call (s0:(Option Addr)) (key1:ByteArray) (k:K):K:=CallF Tryz.prog 123 [(.pointer s0),(.string key1)].toArray (Ans0 (.tuple #[]) k)
def zFK.call (v0:Sl) (k:Int→Bool→K):K:=CallF Tryz.prog 124 [(Sl.val v0)].toArray (Ans2 (fun r0 r1=>.tuple #[(Value.int .i64) r0,Value.bool r1]) k)
def zCp.call (a0:Int) (b1:Int) (k:Int→Bool→K):K:=CallF Tryz.prog 125 [(.int .i64 a0),(.int .i64 b1)].toArray (Ans2 (fun r0 r1=>.tuple #[(Value.int .i64) r0,Value.bool r1]) k)
def zFh.call (n0:Int) (k:Sl→K):K:=CallF Tryz.prog 126 [(.int .i64 n0)].toArray (Ans1 Sl.val k)
def zCC.call (i0:(Array Value)) (k:Bool→K):K:=CallF Tryz.prog 127 [(.agg i0)].toArray (Ans1 Value.bool k)
def zQD.call (s0:(Option Addr)) (region1:Int) (k:Bool→K):K:=CallF Tryz.prog 128 [(.pointer s0),(.int .i64 region1)].toArray (Ans1 Value.bool k)
def zRT.call (s0:(Option Addr)) (tag1:(Array Value)) (k:Int→K):K:=CallF Tryz.prog 129 [(.pointer s0),(.agg tag1)].toArray (Ans1 (Value.int .i64) k)
def zRU.call (s0:(Option Addr)) (k:Sl→K):K:=CallF Tryz.prog 130 [(.pointer s0)].toArray (Ans1 Sl.val k)
def zTm.call (o0:(Array Value)) (region1:Int) (k:Sl→K):K:=CallF Tryz.prog 131 [(.agg o0),(.int .i64 region1)].toArray (Ans1 Sl.val k)
def zQx.call (l0:(Option Addr)) (s1:(Option Addr)) (tag2:(Array Value)) (marks3:Sl) (k:K):K:=CallF Tryz.prog 132 [(.pointer l0),(.pointer s1),(.agg tag2),(Sl.val marks3)].toArray (Ans0 (.tuple #[]) k)
def zRV.call (f0:(Option Addr)) (tag1:(Array Value)) (k:Int→K):K:=CallF Tryz.prog 133 [(.pointer f0),(.agg tag1)].toArray (Ans1 (Value.int .i64) k)
def zRW.call (f0:(Option Addr)) (at1:Int) (k:K):K:=CallF Tryz.prog 134 [(.pointer f0),(.int .i64 at1)].toArray (Ans0 (.tuple #[]) k)
def zJ9.call (data0:Sl) (a1:Int) (b2:Int) (k:K):K:=CallF Tryz.prog 135 [(Sl.val data0),(.int .i64 a1),(.int .i64 b2)].toArray (Ans0 (.tuple #[]) k)
def zMV.call (data0:Sl) (a1:Int) (b2:Int) (k:K):K:=CallF Tryz.prog 136 [(Sl.val data0),(.int .i64 a1),(.int .i64 b2)].toArray (Ans0 (.tuple #[]) k)
def zKA.call (data0:Sl) (a1:Int) (b2:Int) (k:K):K:=CallF Tryz.prog 137 [(Sl.val data0),(.int .i64 a1),(.int .i64 b2)].toArray (Ans0 (.tuple #[]) k)
def zKs.call (data0:Sl) (a1:Int) (b2:Int) (k:Int→Int→K):K:=CallF Tryz.prog 138 [(Sl.val data0),(.int .i64 a1),(.int .i64 b2)].toArray (Ans2 (fun r0 r1=>.tuple #[(Value.int .i64) r0,(Value.int .i64) r1]) k)
def zKQ.call (data0:Sl) (a1:Int) (b2:Int) (k:K):K:=CallF Tryz.prog 139 [(Sl.val data0),(.int .i64 a1),(.int .i64 b2)].toArray (Ans0 (.tuple #[]) k)
def zH5.call (data0:Sl) (a1:Int) (b2:Int) (k:Bool→K):K:=CallF Tryz.prog 140 [(Sl.val data0),(.int .i64 a1),(.int .i64 b2)].toArray (Ans1 Value.bool k)
def cmp_Less_int.call (x0:Int) (y1:Int) (k:Bool→K):K:=CallF Tryz.prog 141 [(.int .i64 x0),(.int .i64 y1)].toArray (Ans1 Value.bool k)
def zJi.call (data0:Sl) (a1:Int) (b2:Int) (pivot3:Int) (k:Int→K):K:=CallF Tryz.prog 142 [(Sl.val data0),(.int .i64 a1),(.int .i64 b2),(.int .i64 pivot3)].toArray (Ans1 (Value.int .i64) k)
def zLu.call (data0:Sl) (a1:Int) (b2:Int) (pivot3:Int) (k:Int→Bool→K):K:=CallF Tryz.prog 143 [(Sl.val data0),(.int .i64 a1),(.int .i64 b2),(.int .i64 pivot3)].toArray (Ans2 (fun r0 r1=>.tuple #[(Value.int .i64) r0,Value.bool r1]) k)
def zSQ.call (x0:Int) (k:Int→K):K:=CallF Tryz.prog 144 [(.int .u32 x0)].toArray (Ans1 (Value.int .i64) k)
def zSR.call (x0:Int) (k:Int→K):K:=CallF Tryz.prog 145 [(.int .u64 x0)].toArray (Ans1 (Value.int .i64) k)
def zBJ.call (p0:(Option Addr)) (n1:Int) (k:K):K:=CallF Tryz.prog 146 [(.pointer p0),(.int .u64 n1)].toArray (Ans0 (.tuple #[]) k)
def zCj.call (p0:(Option Addr)) (list1:Sl) (k:K):K:=CallF Tryz.prog 147 [(.pointer p0),(Sl.val list1)].toArray (Ans0 (.tuple #[]) k)
def zCm.call (p0:(Option Addr)) (b1:Sl) (k:K):K:=CallF Tryz.prog 148 [(.pointer p0),(Sl.val b1)].toArray (Ans0 (.tuple #[]) k)
def zDu.call (n0:Int) (k:Int→K):K:=CallF Tryz.prog 149 [(.int .i64 n0)].toArray (Ans1 (Value.int .u64) k)
def zCT.call (s0:Sl) (k:Sl→K):K:=CallF Tryz.prog 150 [(Sl.val s0)].toArray (Ans1 Sl.val k)
def zAK.call (slices0:Sl) (k:Sl→K):K:=CallF Tryz.prog 151 [(Sl.val slices0)].toArray (Ans1 Sl.val k)
def zBy.call (x0:Sl) (k:K):K:=CallF Tryz.prog 152 [(Sl.val x0)].toArray (Ans0 (.tuple #[]) k)
def zAG.call (s0:Sl) (k:Sl→K):K:=CallF Tryz.prog 153 [(Sl.val s0)].toArray (Ans1 Sl.val k)
def zBR.call (s0:Sl) (v1:Int) (k:Int→K):K:=CallF Tryz.prog 154 [(Sl.val s0),(.int .i64 v1)].toArray (Ans1 (Value.int .i64) k)
def zAL.call (s0:Sl) (f1:Value) (k:Int→K):K:=CallF Tryz.prog 155 [(Sl.val s0),f1].toArray (Ans1 (Value.int .i64) k)
def zAq.call (l0:(Option Addr)) (tag1:(Array Value)) (k:K):K:=CallF Tryz.prog 156 [(.pointer l0),(.agg tag1)].toArray (Ans0 (.tuple #[]) k)
def zAq.calld (l0:(Option Addr)) (tag1:(Array Value)) (k:K):K:=CallD Tryz.prog 156 [(.pointer l0),(.agg tag1)].toArray (Ans0 (.tuple #[]) k)
def zBd.call (s0:(Option Addr)) (t1:(Array Value)) (k:(Array Value)→Sl→K):K:=CallF Tryz.prog 157 [(.pointer s0),(.agg t1)].toArray (Ans2 (fun r0 r1=>.tuple #[Value.agg r0,Sl.val r1]) k)
def zBI.call (s0:(Option Addr)) (writes1:Sl) (k:K):K:=CallF Tryz.prog 158 [(.pointer s0),(Sl.val writes1)].toArray (Ans0 (.tuple #[]) k)
def zA5.call (l0:(Option Addr)) (s1:(Option Addr)) (key2:ByteArray) (k:K):K:=CallF Tryz.prog 159 [(.pointer l0),(.pointer s1),(.string key2)].toArray (Ans0 (.tuple #[]) k)
def zF0.call (c0:(Array Value)) (t1:Addr) (k:Bool→K):K:=CallF Tryz.prog 160 [(.agg c0),(.pointer (some t1))].toArray (Ans1 Value.bool k)
def zAz.call (t0:(Option Addr)) (key1:ByteArray) (k:(Array Value)→Bool→K):K:=CallF Tryz.prog 161 [(.pointer t0),(.string key1)].toArray (Ans2 (fun r0 r1=>.tuple #[Value.agg r0,Value.bool r1]) k)
def zCU.call (key0:ByteArray) (regions1:Int) (k:Int→K):K:=CallF Tryz.prog 162 [(.string key0),(.int .i64 regions1)].toArray (Ans1 (Value.int .i64) k)
def zCf.call (yield0:Value) (t1:Addr) (k:K):K:=CallF Tryz.prog 163 [yield0,(.pointer (some t1))].toArray (Ans0 (.tuple #[]) k)
def zAB.call (n0:(Option Addr)) (from1:(Option Addr)) (yield2:Value) (k:Bool→K):K:=CallF Tryz.prog 164 [(.pointer n0),(.pointer from1),yield2].toArray (Ans1 Value.bool k)
def zBv.call (s0:Sl) (f1:Value) (k:Int→K):K:=CallF Tryz.prog 165 [(Sl.val s0),f1].toArray (Ans1 (Value.int .i64) k)
def zQE.call (e0:(Option Addr)) (t1:Addr) (k:Bool→K):K:=CallF Tryz.prog 166 [(.pointer e0),(.pointer (some t1))].toArray (Ans1 Value.bool k)
def zD5.call (s0:Sl) (i1:Int) (j2:Int) (k:Sl→K):K:=CallF Tryz.prog 167 [(Sl.val s0),(.int .i64 i1),(.int .i64 j2)].toArray (Ans1 Sl.val k)
def zBS.call (keys0:Sl) (k:Bool→K):K:=CallF Tryz.prog 168 [(Sl.val keys0)].toArray (Ans1 Value.bool k)
def zBY.call (s0:Sl) (f1:Value) (k:Bool→K):K:=CallF Tryz.prog 169 [(Sl.val s0),f1].toArray (Ans1 Value.bool k)
def zEC.call (k0:ByteArray) (t1:Addr) (k:Bool→K):K:=CallF Tryz.prog 170 [(.string k0),(.pointer (some t1))].toArray (Ans1 Value.bool k)
def zA4.call (s0:Sl) (v1:ByteArray) (k:Bool→K):K:=CallF Tryz.prog 171 [(Sl.val s0),(.string v1)].toArray (Ans1 Value.bool k)
def zA9.call (s0:Sl) (f1:Value) (k:Int→K):K:=CallF Tryz.prog 172 [(Sl.val s0),f1].toArray (Ans1 (Value.int .i64) k)
def zIS.call (global0:Sl) (region1:Int) (k:Value→K):K:=CallF Tryz.prog 173 [(Sl.val global0),(.int .i64 region1)].toArray (Ans1 id k)
def zTc.call (region0:Int) (log1:Sl) (at2:Int) (k:Bool→K):K:=CallF Tryz.prog 174 [(.int .i64 region0),(Sl.val log1),(.int .i64 at2)].toArray (Ans1 Value.bool k)
def zT5.call (list0:Sl) (tag1:(Array Value)) (k:Bool→K):K:=CallF Tryz.prog 175 [(Sl.val list0),(.agg tag1)].toArray (Ans1 Value.bool k)
def zRX.call (l0:(Option Addr)) (k:K):K:=CallF Tryz.prog 176 [(.pointer l0)].toArray (Ans0 (.tuple #[]) k)
def zSu.call (j0:(Array Value)) (k:Bool→K):K:=CallF Tryz.prog 177 [(.agg j0)].toArray (Ans1 Value.bool k)
def zQy.call (l0:(Option Addr)) (tag1:(Array Value)) (k:Bool→K):K:=CallF Tryz.prog 178 [(.pointer l0),(.agg tag1)].toArray (Ans1 Value.bool k)
def zQz.call (l0:(Option Addr)) (tag1:(Array Value)) (k:K):K:=CallF Tryz.prog 179 [(.pointer l0),(.agg tag1)].toArray (Ans0 (.tuple #[]) k)
def zQ0.call (l0:(Option Addr)) (s1:(Option Addr)) (key2:ByteArray) (k:K):K:=CallF Tryz.prog 180 [(.pointer l0),(.pointer s1),(.string key2)].toArray (Ans0 (.tuple #[]) k)
def zTw.call (list0:Sl) (key1:ByteArray) (tag2:(Array Value)) (k:Bool→K):K:=CallF Tryz.prog 181 [(Sl.val list0),(.string key1),(.agg tag2)].toArray (Ans1 Value.bool k)
def zTn.call (r0:(Array Value)) (m1:(Array Value)) (k:Int→K):K:=CallF Tryz.prog 182 [(.agg r0),(.agg m1)].toArray (Ans1 (Value.int .i64) k)
def zRY.call (l0:(Option Addr)) (tag1:(Array Value)) (k:K):K:=CallF Tryz.prog 183 [(.pointer l0),(.agg tag1)].toArray (Ans0 (.tuple #[]) k)
def zMW.call (data0:Sl) (lo1:Int) (hi2:Int) (first3:Int) (k:K):K:=CallF Tryz.prog 184 [(Sl.val data0),(.int .i64 lo1),(.int .i64 hi2),(.int .i64 first3)].toArray (Ans0 (.tuple #[]) k)
def zOj.call (length0:Int) (k:Int→K):K:=CallF Tryz.prog 185 [(.int .i64 length0)].toArray (Ans1 (Value.int .u64) k)
def zPO.call (r0:(Option Addr)) (k:Int→K):K:=CallF Tryz.prog 186 [(.pointer r0)].toArray (Ans1 (Value.int .u64) k)
def zJj.call (data0:Sl) (a1:Int) (swaps2:(Option Addr)) (k:Int→K):K:=CallF Tryz.prog 187 [(Sl.val data0),(.int .i64 a1),(.pointer swaps2)].toArray (Ans1 (Value.int .i64) k)
def zNG.call (data0:Sl) (a1:Int) (b2:Int) (c3:Int) (swaps4:(Option Addr)) (k:Int→K):K:=CallF Tryz.prog 188 [(Sl.val data0),(.int .i64 a1),(.int .i64 b2),(.int .i64 c3),(.pointer swaps4)].toArray (Ans1 (Value.int .i64) k)
def cmp_isNaN_int.call (x0:Int) (k:Bool→K):K:=CallF Tryz.prog 189 [(.int .i64 x0)].toArray (Ans1 Value.bool k)
def zAa.call (s0:Sl) (n1:Int) (k:Sl→K):K:=CallF Tryz.prog 190 [(Sl.val s0),(.int .i64 n1)].toArray (Ans1 Sl.val k)
def zFX.call (data0:Sl) (a1:Int) (b2:Int) (limit3:Int) (k:K):K:=CallF Tryz.prog 191 [(Sl.val data0),(.int .i64 a1),(.int .i64 b2),(.int .i64 limit3)].toArray (Ans0 (.tuple #[]) k)
def zAC.call (s0:Sl) (del1:Value) (k:Sl→K):K:=CallF Tryz.prog 192 [(Sl.val s0),del1].toArray (Ans1 Sl.val k)
def zCV.call (r0:(Option Addr)) (t1:(Array Value)) (k:Int→K):K:=CallF Tryz.prog 193 [(.pointer r0),(.agg t1)].toArray (Ans1 (Value.int .i64) k)
def zAf.call (r0:(Option Addr)) (o1:(Array Value)) (k:Int→K):K:=CallF Tryz.prog 194 [(.pointer r0),(.agg o1)].toArray (Ans1 (Value.int .i64) k)
def zCa.call (seq0:Value) (k:Sl→K):K:=CallF Tryz.prog 195 [seq0].toArray (Ans1 Sl.val k)
def zAn.call (m0:(Option Nat)) (k:Value→K):K:=CallF Tryz.prog 196 [(.map m0)].toArray (Ans1 id k)
def zBN.call (s0:(Option Addr)) (key1:ByteArray) (home2:Int) (k:Int→K):K:=CallF Tryz.prog 197 [(.pointer s0),(.string key1),(.int .i64 home2)].toArray (Ans1 (Value.int .i64) k)
def zDP.call (s0:(Option Addr)) (key1:ByteArray) (value2:Sl) (k:K):K:=CallF Tryz.prog 198 [(.pointer s0),(.string key1),(Sl.val value2)].toArray (Ans0 (.tuple #[]) k)
def zCq.call (s0:(Option Addr)) (key1:ByteArray) (k:K):K:=CallF Tryz.prog 199 [(.pointer s0),(.string key1)].toArray (Ans0 (.tuple #[]) k)
def zBC.call (c0:(Array Value)) (t1:Addr) (t2:Addr) (t3:Addr) (k:Bool→K):K:=CallF Tryz.prog 200 [(.agg c0),(.pointer (some t1)),(.pointer (some t2)),(.pointer (some t3))].toArray (Ans1 Value.bool k)
def zAs.call (n0:(Option Addr)) (key1:ByteArray) (k:Int→Bool→K):K:=CallF Tryz.prog 201 [(.pointer n0),(.string key1)].toArray (Ans2 (fun r0 r1=>.tuple #[(Value.int .i64) r0,Value.bool r1]) k)
def zBA.call (s0:Sl) (f1:Value) (k:Int→K):K:=CallF Tryz.prog 202 [(Sl.val s0),f1].toArray (Ans1 (Value.int .i64) k)
def zA3.call (s0:Sl) (v1:ByteArray) (k:Int→K):K:=CallF Tryz.prog 203 [(Sl.val s0),(.string v1)].toArray (Ans1 (Value.int .i64) k)
def zCb.call (yield0:Value) (t1:Addr) (t2:Addr) (k:K):K:=CallF Tryz.prog 204 [yield0,(.pointer (some t1)),(.pointer (some t2))].toArray (Ans0 (.tuple #[]) k)
def zH2.call  (k:(Option Addr)→K):K:=CallF Tryz.prog 205 [].toArray (Ans1 Value.pointer k)
def zC9.call (f0:(Option Addr)) (o1:(Array Value)) (k:Bool→K):K:=CallF Tryz.prog 206 [(.pointer f0),(.agg o1)].toArray (Ans1 Value.bool k)
def zGH.call (o0:(Array Value)) (region1:Int) (k:Bool→K):K:=CallF Tryz.prog 207 [(.agg o0),(.int .i64 region1)].toArray (Ans1 Value.bool k)
def zFL.call (o0:(Array Value)) (k:Bool→K):K:=CallF Tryz.prog 208 [(.agg o0)].toArray (Ans1 Value.bool k)
def zTo.call (region0:Int) (log1:Sl) (k:Int→K):K:=CallF Tryz.prog 209 [(.int .i64 region0),(Sl.val log1)].toArray (Ans1 (Value.int .i64) k)
def zTZ.call (list0:Sl) (tag1:(Array Value)) (k:Sl→K):K:=CallF Tryz.prog 210 [(Sl.val list0),(.agg tag1)].toArray (Ans1 Sl.val k)
def zBa.call (o0:(Array Value)) (k:Sl→K):K:=CallF Tryz.prog 211 [(.agg o0)].toArray (Ans1 Sl.val k)
def zQ1.call (l0:(Option Addr)) (tag1:(Array Value)) (k:Sl→K):K:=CallF Tryz.prog 212 [(.pointer l0),(.agg tag1)].toArray (Ans1 Sl.val k)
def zNH.call (data0:Sl) (a1:Int) (b2:Int) (swaps3:(Option Addr)) (k:Int→Int→K):K:=CallF Tryz.prog 213 [(Sl.val data0),(.int .i64 a1),(.int .i64 b2),(.pointer swaps3)].toArray (Ans2 (fun r0 r1=>.tuple #[(Value.int .i64) r0,(Value.int .i64) r1]) k)
def zJN.call (data0:Sl) (a1:Int) (b2:Int) (k:K):K:=CallF Tryz.prog 214 [(Sl.val data0),(.int .i64 a1),(.int .i64 b2)].toArray (Ans0 (.tuple #[]) k)
def zKt.call (data0:Sl) (a1:Int) (b2:Int) (k:K):K:=CallF Tryz.prog 215 [(Sl.val data0),(.int .i64 a1),(.int .i64 b2)].toArray (Ans0 (.tuple #[]) k)
def zJO.call (data0:Sl) (a1:Int) (b2:Int) (k:K):K:=CallF Tryz.prog 216 [(Sl.val data0),(.int .i64 a1),(.int .i64 b2)].toArray (Ans0 (.tuple #[]) k)
def zJk.call (data0:Sl) (a1:Int) (b2:Int) (k:Int→Int→K):K:=CallF Tryz.prog 217 [(Sl.val data0),(.int .i64 a1),(.int .i64 b2)].toArray (Ans2 (fun r0 r1=>.tuple #[(Value.int .i64) r0,(Value.int .i64) r1]) k)
def zJY.call (data0:Sl) (a1:Int) (b2:Int) (k:K):K:=CallF Tryz.prog 218 [(Sl.val data0),(.int .i64 a1),(.int .i64 b2)].toArray (Ans0 (.tuple #[]) k)
def zHI.call (data0:Sl) (a1:Int) (b2:Int) (k:Bool→K):K:=CallF Tryz.prog 219 [(Sl.val data0),(.int .i64 a1),(.int .i64 b2)].toArray (Ans1 Value.bool k)
def cmp_Less_string.call (x0:ByteArray) (y1:ByteArray) (k:Bool→K):K:=CallF Tryz.prog 220 [(.string x0),(.string y1)].toArray (Ans1 Value.bool k)
def zI6.call (data0:Sl) (a1:Int) (b2:Int) (pivot3:Int) (k:Int→K):K:=CallF Tryz.prog 221 [(Sl.val data0),(.int .i64 a1),(.int .i64 b2),(.int .i64 pivot3)].toArray (Ans1 (Value.int .i64) k)
def zKR.call (data0:Sl) (a1:Int) (b2:Int) (pivot3:Int) (k:Int→Bool→K):K:=CallF Tryz.prog 222 [(Sl.val data0),(.int .i64 a1),(.int .i64 b2),(.int .i64 pivot3)].toArray (Ans2 (fun r0 r1=>.tuple #[(Value.int .i64) r0,Value.bool r1]) k)
def zCw.call (r0:(Option Addr)) (key1:ByteArray) (k:(Array Value)→K):K:=CallF Tryz.prog 223 [(.pointer r0),(.string key1)].toArray (Ans1 Value.agg k)
def zCk.call (r0:(Option Addr)) (key1:ByteArray) (has2:Bool) (value3:Sl) (k:K):K:=CallF Tryz.prog 224 [(.pointer r0),(.string key1),(.bool has2),(Sl.val value3)].toArray (Ans0 (.tuple #[]) k)
def bytes_Equal.call (a0:Sl) (b1:Sl) (k:Bool→K):K:=CallF Tryz.prog 225 [(Sl.val a0),(Sl.val b1)].toArray (Ans1 Value.bool k)
def zAu.call (r0:(Option Addr)) (o1:(Array Value)) (k:Int→K):K:=CallF Tryz.prog 226 [(.pointer r0),(.agg o1)].toArray (Ans1 (Value.int .i64) k)
def zCL.call (seq0:Value) (k:Sl→K):K:=CallF Tryz.prog 227 [seq0].toArray (Ans1 Sl.val k)
def zAY.call (yield0:Value) (t1:Addr) (k:K):K:=CallF Tryz.prog 228 [yield0,(.pointer (some t1))].toArray (Ans0 (.tuple #[]) k)
def zA6.call (s0:(Option Addr)) (key1:ByteArray) (r2:(Array Value)) (k:K):K:=CallF Tryz.prog 229 [(.pointer s0),(.string key1),(.agg r2)].toArray (Ans0 (.tuple #[]) k)
def zAA.call (x0:Sl) (target1:ByteArray) (cmp2:Value) (k:Int→Bool→K):K:=CallF Tryz.prog 230 [(Sl.val x0),(.string target1),cmp2].toArray (Ans2 (fun r0 r1=>.tuple #[(Value.int .i64) r0,Value.bool r1]) k)
def zBo.call (x0:(Array Value)) (k1:ByteArray) (k:Int→K):K:=CallF Tryz.prog 231 [(.agg x0),(.string k1)].toArray (Ans1 (Value.int .i64) k)
def zCr.call (x0:ByteArray) (y1:ByteArray) (k:Int→K):K:=CallF Tryz.prog 232 [(.string x0),(.string y1)].toArray (Ans1 (Value.int .i64) k)
def zRZ.call (l0:(Option Addr)) (k:Sl→K):K:=CallF Tryz.prog 233 [(.pointer l0)].toArray (Ans1 Sl.val k)
def zTp.call (list0:Sl) (key1:ByteArray) (k:Sl→K):K:=CallF Tryz.prog 234 [(Sl.val list0),(.string key1)].toArray (Ans1 Sl.val k)
def zKu.call (data0:Sl) (lo1:Int) (hi2:Int) (first3:Int) (k:K):K:=CallF Tryz.prog 235 [(Sl.val data0),(.int .i64 lo1),(.int .i64 hi2),(.int .i64 first3)].toArray (Ans0 (.tuple #[]) k)
def zI7.call (data0:Sl) (a1:Int) (swaps2:(Option Addr)) (k:Int→K):K:=CallF Tryz.prog 236 [(Sl.val data0),(.int .i64 a1),(.pointer swaps2)].toArray (Ans1 (Value.int .i64) k)
def zLv.call (data0:Sl) (a1:Int) (b2:Int) (c3:Int) (swaps4:(Option Addr)) (k:Int→K):K:=CallF Tryz.prog 237 [(Sl.val data0),(.int .i64 a1),(.int .i64 b2),(.int .i64 c3),(.pointer swaps4)].toArray (Ans1 (Value.int .i64) k)
def cmp_isNaN_string.call (x0:ByteArray) (k:Bool→K):K:=CallF Tryz.prog 238 [(.string x0)].toArray (Ans1 Value.bool k)
def zCl.call (value0:Sl) (k:Int→Bool→K):K:=CallF Tryz.prog 239 [(Sl.val value0)].toArray (Ans2 (fun r0 r1=>.tuple #[(Value.int .i64) r0,Value.bool r1]) k)
def zDI.call (n0:Int) (k:Sl→K):K:=CallF Tryz.prog 240 [(.int .i64 n0)].toArray (Ans1 Sl.val k)
def zBk.call (s0:Sl) (seq1:Value) (k:Sl→K):K:=CallF Tryz.prog 241 [(Sl.val s0),seq1].toArray (Ans1 Sl.val k)
def zAD.call (t0:(Option Addr)) (key1:ByteArray) (k:(Array Value)→Bool→K):K:=CallF Tryz.prog 242 [(.pointer t0),(.string key1)].toArray (Ans2 (fun r0 r1=>.tuple #[Value.agg r0,Value.bool r1]) k)
def zAE.call (t0:(Option Addr)) (key1:ByteArray) (value2:(Array Value)) (k:(Array Value)→Bool→K):K:=CallF Tryz.prog 243 [(.pointer t0),(.string key1),(.agg value2)].toArray (Ans2 (fun r0 r1=>.tuple #[Value.agg r0,Value.bool r1]) k)
def zLw.call (data0:Sl) (a1:Int) (b2:Int) (swaps3:(Option Addr)) (k:Int→Int→K):K:=CallF Tryz.prog 244 [(Sl.val data0),(.int .i64 a1),(.int .i64 b2),(.pointer swaps3)].toArray (Ans2 (fun r0 r1=>.tuple #[(Value.int .i64) r0,(Value.int .i64) r1]) k)
def zAU.call (n0:(Option Addr)) (key1:ByteArray) (k:(Array Value)→Bool→K):K:=CallF Tryz.prog 245 [(.pointer n0),(.string key1)].toArray (Ans2 (fun r0 r1=>.tuple #[Value.agg r0,Value.bool r1]) k)
def zAM.call (n0:(Option Addr)) (x1:(Array Value)) (k:(Array Value)→Bool→(Option Addr)→(Option Addr)→K):K:=CallF Tryz.prog 246 [(.pointer n0),(.agg x1)].toArray (Ans4 (fun r0 r1 r2 r3=>.tuple #[Value.agg r0,Value.bool r1,Value.pointer r2,Value.pointer r3]) k)
def zAH.call (s0:Sl) (i1:Int) (j2:Int) (k:Sl→K):K:=CallF Tryz.prog 247 [(Sl.val s0),(.int .i64 i1),(.int .i64 j2)].toArray (Ans1 Sl.val k)
def zBH.call (n0:(Option Addr)) (k:(Array Value)→K):K:=CallF Tryz.prog 248 [(.pointer n0)].toArray (Ans1 Value.agg k)
def zAN.call (n0:(Option Addr)) (i1:Int) (k:K):K:=CallF Tryz.prog 249 [(.pointer n0),(.int .i64 i1)].toArray (Ans0 (.tuple #[]) k)
def zAI.call (s0:Sl) (i1:Int) (v2:Sl) (k:Sl→K):K:=CallF Tryz.prog 250 [(Sl.val s0),(.int .i64 i1),(Sl.val v2)].toArray (Ans1 Sl.val k)
def zAR.call (s0:Sl) (i1:Int) (v2:Sl) (k:Sl→K):K:=CallF Tryz.prog 251 [(Sl.val s0),(.int .i64 i1),(Sl.val v2)].toArray (Ans1 Sl.val k)
def zAb.call (s0:Sl) (k:Sl→K):K:=CallF Tryz.prog 252 [(Sl.val s0)].toArray (Ans1 Sl.val k)
def zAc.call (s0:Sl) (k:Sl→K):K:=CallF Tryz.prog 253 [(Sl.val s0)].toArray (Ans1 Sl.val k)
def zAS.call (s0:Sl) (i1:Int) (j2:Int) (k:Sl→K):K:=CallF Tryz.prog 254 [(Sl.val s0),(.int .i64 i1),(.int .i64 j2)].toArray (Ans1 Sl.val k)
def zCW.call (s0:Sl) (r1:Int) (k:K):K:=CallF Tryz.prog 256 [(Sl.val s0),(.int .i64 r1)].toArray (Ans0 (.tuple #[]) k)
def zCX.call (s0:Sl) (r1:Int) (k:K):K:=CallF Tryz.prog 258 [(Sl.val s0),(.int .i64 r1)].toArray (Ans0 (.tuple #[]) k)
def zCc.call (s0:Sl) (r1:Int) (k:K):K:=CallF Tryz.prog 259 [(Sl.val s0),(.int .i64 r1)].toArray (Ans0 (.tuple #[]) k)
def zCd.call (s0:Sl) (r1:Int) (k:K):K:=CallF Tryz.prog 260 [(Sl.val s0),(.int .i64 r1)].toArray (Ans0 (.tuple #[]) k)
def zAO.call (s0:Sl) (k:K):K:=CallF Tryz.prog 261 [(Sl.val s0)].toArray (Ans0 (.tuple #[]) k)
def zAP.call (s0:Sl) (k:K):K:=CallF Tryz.prog 262 [(Sl.val s0)].toArray (Ans0 (.tuple #[]) k)
end Go.Proofs.YtdemfamgieonbaaGreat
namespace Go.Proofs.YtdemfamgieonbaaGreat
open Go Go.Sep
set_option maxRecDepth 100000
set_option maxHeartbeats 4000000
attribute [local irreducible] G Gp Cx Tx Ex Sx Dx Ox Ax Lx Rx Fx Bx Bj Al Do Ld LdN St StN New CallF Ar DoU Rd Rd2 Pu Cd Ite Fv CallV CallY Ans0 Ans1 Ans2 Ans3 Ans4 Ans5 Ext Dead Dr WithS Sv LdS LdNS RdS Rd2S Nn Idx IdxA IdxS Fld Bld Slc SlcS Cat All LoopK RangeF RangeJ TakeD
namespace F_IRBtree
instance at_331:AT Tryz.prog 331 5:=⟨by kernel_rfl⟩
instance at_87:AT Tryz.prog 87 4:=⟨by kernel_rfl⟩
instance cb_164:CB Tryz.prog 164:=⟨by kernel_rfl⟩
instance cb_201:CB Tryz.prog 201:=⟨by kernel_rfl⟩
instance cb_230:CB Tryz.prog 230:=⟨by kernel_rfl⟩
instance cb_232:CB Tryz.prog 232:=⟨by kernel_rfl⟩
instance cb_245:CB Tryz.prog 245:=⟨by kernel_rfl⟩
instance cb_246:CB Tryz.prog 246:=⟨by kernel_rfl⟩
instance cb_247:CB Tryz.prog 247:=⟨by kernel_rfl⟩
instance cb_248:CB Tryz.prog 248:=⟨by kernel_rfl⟩
instance cb_249:CB Tryz.prog 249:=⟨by kernel_rfl⟩
instance cb_250:CB Tryz.prog 250:=⟨by kernel_rfl⟩
instance cb_251:CB Tryz.prog 251:=⟨by kernel_rfl⟩
instance cb_252:CB Tryz.prog 252:=⟨by kernel_rfl⟩
instance cb_253:CB Tryz.prog 253:=⟨by kernel_rfl⟩
instance cb_254:CB Tryz.prog 254:=⟨by kernel_rfl⟩
instance ct_191:CT Tryz.prog 191:=⟨by kernel_rfl⟩
instance ct_256:CT Tryz.prog 256:=⟨by kernel_rfl⟩
instance ct_257:CT Tryz.prog 257:=⟨by kernel_rfl⟩
instance ct_258:CT Tryz.prog 258:=⟨by kernel_rfl⟩
instance ct_3:CT Tryz.prog 3:=⟨by kernel_rfl⟩
instance ct_9:CT Tryz.prog 9:=⟨by kernel_rfl⟩
instance zT6:FT Tryz.prog 260 0 0 1:=⟨by kernel_rfl⟩
instance zT7:FT Tryz.prog 260 1 1 1:=⟨by kernel_rfl⟩
instance zT8:FT Tryz.prog 262 0 0 1:=⟨by kernel_rfl⟩
instance zT9:FT Tryz.prog 262 1 1 1:=⟨by kernel_rfl⟩
instance zUA:FT Tryz.prog 331 0 0 1:=⟨by kernel_rfl⟩
instance zUB:FT Tryz.prog 331 1 1 4:=⟨by kernel_rfl⟩
instance mx:MX Tryz.prog:=⟨mixed⟩
instance pl_260:PLT Tryz.prog 260 [(0,1),(1,1)]:=⟨_,Tryz.underlying260,by kernel_rfl⟩
instance pl_262:PLT Tryz.prog 262 [(0,1),(1,1)]:=⟨_,Tryz.underlying262,by kernel_rfl⟩
instance pl_331:PLT Tryz.prog 331 [(0,1),(1,4)]:=⟨_,Tryz.underlying331,by kernel_rfl⟩
instance sl_257:SLT Tryz.prog 257 331 5:=⟨by kernel_rfl⟩
instance sl_258:SLT Tryz.prog 258 256 1:=⟨by kernel_rfl⟩
instance sz_256:SZ Tryz.prog 256 1:=⟨by kernel_rfl⟩
instance sz_257:SZ Tryz.prog 257 1:=⟨by kernel_rfl⟩
instance sz_258:SZ Tryz.prog 258 1:=⟨by kernel_rfl⟩
instance sz_3:SZ Tryz.prog 3 1:=⟨by kernel_rfl⟩
instance sz_331:SZ Tryz.prog 331 5:=⟨by kernel_rfl⟩
instance sz_87:SZ Tryz.prog 87 4:=⟨by kernel_rfl⟩
instance un_332:UN Tryz.prog 332 (.pointer 9):=⟨Tryz.underlying332⟩
instance un_360:UN Tryz.prog 360 (.pointer 331):=⟨Tryz.underlying360⟩
instance zt_256:ZT Tryz.prog 256 (.pointer none):=⟨Tryz.t256,by kernel_rfl,by kernel_rfl⟩
instance zt_260:ZT Tryz.prog 260 (.agg #[(Sl.val ⟨none,0,0⟩),(Sl.val ⟨none,0,0⟩)]):=⟨Tryz.t260,by kernel_rfl,by kernel_rfl⟩
instance zt_262:ZT Tryz.prog 262 (.agg #[(.pointer none),(.int .i64 0)]):=⟨Tryz.t262,by kernel_rfl,by kernel_rfl⟩
instance zt_331:ZT Tryz.prog 331 (.agg #[(.string ⟨#[]⟩),(.bool false),(Sl.val ⟨none,0,0⟩),(.int .i64 0),(.int .u64 0)]):=⟨Tryz.t331,by kernel_rfl,by kernel_rfl⟩
instance zt_87:ZT Tryz.prog 87 (.agg #[(.bool false),(Sl.val ⟨none,0,0⟩),(.int .i64 0),(.int .u64 0)]):=⟨Tryz.t87,by kernel_rfl,by kernel_rfl⟩
end F_IRBtree
def zBx  (Q:(Option Addr)→K):K :=
 New 260 #[(Sl.val ⟨none,0,0⟩),(Sl.val ⟨none,0,0⟩)] fun t2 =>
 New 262 #[(.pointer (some t2)),(.int .i64 0)] fun t4 =>
 Q (some t4)
theorem zFM  (Q:(Option Addr)→K) (w:World) (h:zBx  Q w):zBx.call  Q w:=by
 exact g_walk 5 h Tryz.func85
def zBj (t0:(Option Addr)) (Q:Value→K):K :=
 New 191 #[(.pointer t0)] fun t1 =>
 Q (.func (.func 163) #[] #[(.pointer (some t1))])
theorem zEb (t0:(Option Addr)) (Q:Value→K) (w:World) (h:zBj t0 Q w):zBj.call t0 Q w:=by
 exact g_walk 4 h Tryz.func109
def zAz.b1 (Q:(Array Value)→Bool→K)  (X1:(Option Addr)→K) (key1_1:ByteArray) (value4_1:Addr) (n6_1:(Option Addr)):K :=
 zAs.call n6_1 key1_1 fun t16x0 t16x1 =>
 Ite t16x1
  (Nn n6_1 fun t21 =>
  Ld t21 Sl.val fun t23 =>
  Idx t23 t16x0 5 fun t25 =>
  LdN (t25.add 1) 4 fun t27 =>
  StN value4_1 4 t27 <|
  LdN value4_1 4 fun r0 =>
  Q r0 true)
  (Nn n6_1 fun t29 =>
  Ld (t29.add 1) Sl.val fun t31 =>
  Ite (decide ((t31.n:Int) = 0))
   (LdN value4_1 4 fun t34 =>
   StN value4_1 4 t34 <|
   LdN value4_1 4 fun r0 =>
   Q r0 false)
   (Ld (t29.add 1) Sl.val fun t38 =>
   Idx t38 t16x0 1 fun t40 =>
   Ld t40 Value.pointer fun t41 =>
   X1 t41))
def zAz (t0:(Option Addr)) (key1:ByteArray) (Q:(Array Value)→Bool→K):K :=
 New 87 #[(.bool false),(Sl.val ⟨none,0,0⟩),(.int .i64 0),(.int .u64 0)] fun value4 =>
 Nn t0 fun t10 =>
 Ld t10 Value.pointer fun t12 =>
 LoopK (α:=(Option Addr)) (fun X x=>zAz.b1 Q X key1 value4 x) t12
theorem zEc (t0:(Option Addr)) (key1:ByteArray) (Q:(Array Value)→Bool→K) (w:World) (h:zAz t0 key1 Q w):zAz.call t0 key1 Q w:=by
 have hL2:∀ (key1_1:ByteArray) (value4_1:Addr),LH 2 (fun x:(Option Addr)=>[(1,(.string key1_1)),(4,(.pointer (some value4_1))),(6,(.pointer x))]) (fun X x=>zAz.b1 Q X key1_1 value4_1 x):=by intros; exact ⟨⟩
 exact g_walk 42 h Tryz.func161
def zCf (yield0:Value) (t1:Addr) (Q:K):K :=
 Ld t1 Value.pointer fun t3 =>
 Nn t3 fun t4 =>
 Ld t4 Value.pointer fun t6 =>
 zAB.call t6 none yield0 fun t8 =>
 Q
theorem zED (yield0:Value) (t1:Addr) (Q:K) (w:World) (h:zCf yield0 t1 Q w):zCf.call yield0 t1 Q w:=by
 exact g_walk 9 h Tryz.func163
def zAB.s4 (Q:Bool→K) (X2:(Option Addr)→Int→K) (n0_4:Addr) (yield2_4:Value) (i7_4:Int) (t74_4:Bool):K :=
 Ite t74_4
  (Q false)
  (Ar (IntKind.wrap .i64 (i7_4 + 1)) fun t26 =>
  X2 none t26)
def zAB.s3 (Q:Bool→K) (X2:(Option Addr)→Int→K) (n0_3:Addr) (yield2_3:Value) (i7_3:Int) (t46_3:Bool):K :=
 Ite t46_3
  (Q false)
  (Dr <|
  Ld n0_3 Sl.val fun t51 =>
  Ite (decide (i7_3 < (t51.n:Int)))
   (Ld n0_3 Sl.val fun t59 =>
   Idx t59 i7_3 5 fun t61 =>
   Ld t61 Value.string fun t63 =>
   Ld n0_3 Sl.val fun t67 =>
   Idx t67 i7_3 5 fun t69 =>
   LdN (t69.add 1) 4 fun t71 =>
   CallY Tryz.prog yield2_3 [(.string t63),(.agg t71)] <| Ans1 (fun (t72:Bool)=>Value.bool t72) fun t72 =>
   zAB.s4 Q X2 n0_3 yield2_3 i7_3 (!t72))
   (zAB.s4 Q X2 n0_3 yield2_3 i7_3 false))
def zAB.b2 (Q:Bool→K)  (X2:(Option Addr)→Int→K) (n0_2:(Option Addr)) (yield2_2:Value) (from1_2:(Option Addr)) (i7_2:Int):K :=
 Nn n0_2 fun t20 =>
 Ld t20 Sl.val fun t22 =>
 Ite (decide (i7_2 ≤ (t22.n:Int)))
  (Ld (t20.add 1) Sl.val fun t31 =>
  Ite (decide (i7_2 < (t31.n:Int)))
   (Ld (t20.add 1) Sl.val fun t38 =>
   Idx t38 i7_2 1 fun t40 =>
   Ld t40 Value.pointer fun t41 =>
   zAB.call t41 from1_2 yield2_2 fun t44 =>
   zAB.s3 Q X2 t20 yield2_2 i7_2 (!t44))
   (zAB.s3 Q X2 t20 yield2_2 i7_2 false))
  (Q true)
def zAB.s1 (Q:Bool→K)  (n0_1:(Option Addr)) (from1_1:(Option Addr)) (yield2_1:Value) (i7_1:Int):K :=
 LoopK (α:=(Option Addr)×Int) (fun X x=>zAB.b2 Q (fun from1_2 i7_2=>X (from1_2,i7_2)) n0_1 yield2_1 x.1 x.2) (from1_1,i7_1)
def zAB (n0:(Option Addr)) (from1:(Option Addr)) (yield2:Value) (Q:Bool→K):K :=
 Ite (!(from1).isNone)
  (Nn from1 fun t13 =>
  Ld t13 Value.string fun t14 =>
  zAs.call n0 t14 fun t15x0 t15x1 =>
  zAB.s1 Q n0 (some t13) yield2 t15x0)
  (zAB.s1 Q n0 from1 yield2 0)
theorem zEN (n0:(Option Addr)) (from1:(Option Addr)) (yield2:Value) (Q:Bool→K) (w:World) (h:zAB n0 from1 yield2 Q w):zAB.call n0 from1 yield2 Q w:=by
 have hJ10:∀ (X2:((Option Addr)×Int)→K),XH 4 X2→JH 10 fun D=>∃ (n0_4:Addr) (yield2_4:Value) (i7_4:Int),D [(0,(.pointer (some n0_4))),(2,yield2_4),(7,(.int .i64 i7_4))] (fun C=>∀ (t74_4:Bool),C [(0,(.pointer (some n0_4))),(1,(.pointer none)),(2,yield2_4),(7,(.int .i64 i7_4)),(74,(.bool t74_4))] (zAB.s4 Q (fun from1_2 i7_2=>X2 (from1_2,i7_2)) n0_4 yield2_4 i7_4 t74_4)):=by intros; exact ⟨fun _ ⟨_,_,_,h⟩=>⟨_,_,h⟩⟩
 have hD9:DH 9 1 [25] (.s [0,1,2,3,4,5,6,7] (.i (.s [8,9,10,11,13,17,18,19,21,12,14,15,16,20,22,23,24] (.a [(25,0,.s [26,27] .e)])) (.s [8,9,10,11,12,13,14,15,16,17,18,19,20,21,22,23,24,25,26,27] .e))):=by intros; exact ⟨⟩
 have hJ7:∀ (X2:((Option Addr)×Int)→K),XH 4 X2→JH 7 fun D=>∃ (n0_3:Addr) (yield2_3:Value) (i7_3:Int),D [(0,(.pointer (some n0_3))),(2,yield2_3),(7,(.int .i64 i7_3))] (fun C=>∀ (t46_3:Bool),C [(0,(.pointer (some n0_3))),(2,yield2_3),(7,(.int .i64 i7_3)),(46,(.bool t46_3))] (zAB.s3 Q (fun from1_2 i7_2=>X2 (from1_2,i7_2)) n0_3 yield2_3 i7_3 t46_3)):=by intros; exact ⟨fun _ ⟨_,_,_,h⟩=>⟨_,_,h⟩⟩
 have hL4:∀ (n0_2:(Option Addr)) (yield2_2:Value),LH 4 (fun x:(Option Addr)×Int=>[(0,(.pointer n0_2)),(1,(.pointer x.1)),(2,yield2_2),(7,(.int .i64 x.2))]) (fun X x=>zAB.b2 Q (fun from1_2 i7_2=>X (from1_2,i7_2)) n0_2 yield2_2 x.1 x.2):=by intros; exact ⟨⟩
 have hJ4:JH 4 fun D=>∃ (n0_1:(Option Addr)) (from1_1:(Option Addr)) (yield2_1:Value),D [(0,(.pointer n0_1)),(1,(.pointer from1_1)),(2,yield2_1)] (fun C=>∀ (i7_1:Int),C [(0,(.pointer n0_1)),(1,(.pointer from1_1)),(2,yield2_1),(7,(.int .i64 i7_1))] (zAB.s1 Q n0_1 from1_1 yield2_1 i7_1)):=by intros; exact ⟨fun _ ⟨_,_,_,h⟩=>⟨_,_,h⟩⟩
 exact g_walk 75 h Tryz.func164
def zAs (n0:(Option Addr)) (key1:ByteArray) (Q:Int→Bool→K):K :=
 Nn n0 fun t7 =>
 Ld t7 Sl.val fun t9 =>
 zAA.call t9 key1 (.func (.func 231) #[] #[]) fun t11x0 t11x1 =>
 Q t11x0 t11x1
theorem zD7 (n0:(Option Addr)) (key1:ByteArray) (Q:Int→Bool→K) (w:World) (h:zAs n0 key1 Q w):zAs.call n0 key1 Q w:=by
 exact g_walk 14 h Tryz.func201
def zBo (x0:(Array Value)) (k1:ByteArray) (Q:Int→K):K :=
 New 331 x0 fun x2 =>
 Ld x2 Value.string fun t6 =>
 zCr.call t6 k1 fun t8 =>
 Q t8
theorem zD0 (x0:(Array Value)) (k1:ByteArray) (Q:Int→K) (w:World) (h:zBo x0 k1 Q w):zBo.call x0 k1 Q w:=by
 exact g_walk 9 h Tryz.func231
def zAD.s2 (Q:(Array Value)→Bool→K)  (value4_2:Addr) (ok5_2:Bool):K :=
 LdN value4_2 4 fun t55 =>
 StN value4_2 4 t55 <|
 LdN value4_2 4 fun r0 =>
 Q r0 ok5_2
def zAD.s1 (Q:(Array Value)→Bool→K)  (t0_1:Addr) (value4_1:Addr) (ok5_1:Bool):K :=
 Ite ok5_1
  (Ld (t0_1.add 1) (Value.int .i64) fun t51 =>
  Ar (IntKind.wrap .i64 (t51 - 1)) fun t52 =>
  St (t0_1.add 1) (.int .i64 t52) <|
  zAD.s2 Q value4_1 ok5_1)
  (zAD.s2 Q value4_1 ok5_1)
def zAD.s3 (Q:(Array Value)→Bool→K)  (t0_3:Addr) (value4_3:Addr) (ok5_3:Bool) (t34_3:Bool):K :=
 Ite t34_3
  (Ld t0_3 Value.pointer fun t39 =>
  Nn t39 fun t40 =>
  Ld (t40.add 1) Sl.val fun t42 =>
  Idx t42 0 1 fun t43 =>
  Ld t43 Value.pointer fun t44 =>
  St t0_3 (.pointer t44) <|
  zAD.s1 Q t0_3 value4_3 ok5_3)
  (zAD.s1 Q t0_3 value4_3 ok5_3)
def zAD (t0:(Option Addr)) (key1:ByteArray) (Q:(Array Value)→Bool→K):K :=
 New 87 #[(.bool false),(Sl.val ⟨none,0,0⟩),(.int .i64 0),(.int .u64 0)] fun value4 =>
 Nn t0 fun t8 =>
 Ld t8 Value.pointer fun t10 =>
 zAU.call t10 key1 fun t12x0 t12x1 =>
 StN value4 4 t12x0 <|
 Ld t8 Value.pointer fun t18 =>
 Nn t18 fun t19 =>
 Ld t19 Sl.val fun t21 =>
 Ite (decide ((t21.n:Int) = 0))
  (Ld t8 Value.pointer fun t28 =>
  Nn t28 fun t29 =>
  Ld (t29.add 1) Sl.val fun t31 =>
  zAD.s3 Q t8 value4 t12x1 (decide ((t31.n:Int) = 1)))
  (zAD.s3 Q t8 value4 t12x1 false)
theorem zD8 (t0:(Option Addr)) (key1:ByteArray) (Q:(Array Value)→Bool→K) (w:World) (h:zAD t0 key1 Q w):zAD.call t0 key1 Q w:=by
 have hJ6:JH 6 fun D=>∃ (value4_2:Addr),D [(4,(.pointer (some value4_2)))] (fun C=>∀ (ok5_2:Bool),C [(4,(.pointer (some value4_2))),(5,(.bool ok5_2))] (zAD.s2 Q value4_2 ok5_2)):=by intros; exact ⟨fun _ ⟨_,h⟩=>⟨_,_,h⟩⟩
 have hJ4:JH 4 fun D=>∃ (t0_1:Addr) (value4_1:Addr),D [(0,(.pointer (some t0_1))),(4,(.pointer (some value4_1)))] (fun C=>∀ (ok5_1:Bool),C [(0,(.pointer (some t0_1))),(4,(.pointer (some value4_1))),(5,(.bool ok5_1))] (zAD.s1 Q t0_1 value4_1 ok5_1)):=by intros; exact ⟨fun _ ⟨_,_,h⟩=>⟨_,_,h⟩⟩
 have hJ3:JH 3 fun D=>∃ (t0_3:Addr) (value4_3:Addr),D [(0,(.pointer (some t0_3))),(4,(.pointer (some value4_3)))] (fun C=>∀ (ok5_3:Bool) (t34_3:Bool),C [(0,(.pointer (some t0_3))),(4,(.pointer (some value4_3))),(5,(.bool ok5_3)),(34,(.bool t34_3))] (zAD.s3 Q t0_3 value4_3 ok5_3 t34_3)):=by intros; exact ⟨fun _ ⟨_,_,h⟩=>⟨_,_,h⟩⟩
 exact g_walk 57 h Tryz.func242
def zAE.s3 (Q:(Array Value)→Bool→K)  (t6_3:Addr) (old8_3:Addr) (had9_3:Bool):K :=
 LdN old8_3 4 fun t51 =>
 StN t6_3 4 t51 <|
 LdN t6_3 4 fun r0 =>
 Q r0 had9_3
def zAE.s2 (Q:(Array Value)→Bool→K)  (t0_2:(Option Addr)) (t6_2:Addr) (old8_2:Addr) (had9_2:Bool):K :=
 Ite (!had9_2)
  (Nn t0_2 fun t45 =>
  Ld (t45.add 1) (Value.int .i64) fun t47 =>
  Ar (IntKind.wrap .i64 (t47 + 1)) fun t48 =>
  St (t45.add 1) (.int .i64 t48) <|
  zAE.s3 Q t6_2 old8_2 had9_2)
  (zAE.s3 Q t6_2 old8_2 had9_2)
def zAE.s1 (Q:(Array Value)→Bool→K)  (t0_1:(Option Addr)) (t6_1:Addr) (old8_1:Addr) (had9_1:Bool) (mid10_1:(Option Addr)) (right11_1:(Option Addr)):K :=
 Ite (!(mid10_1).isNone)
  (Dr <| WithS fun S =>
  Nn mid10_1 fun t29 =>
  Nn t0_1 fun t33 =>
  LdNS S t29 5 fun t30 =>
  LdS S t33 Value.pointer fun t35 =>
  All [
   (Bld #[(.string ⟨#[]⟩),(.bool false),(Sl.val ⟨none,0,0⟩),(.int .i64 0),(.int .u64 0)] (fun i=>some (i * 5,5)) [(0,(.agg t30))] fun ct31 =>
   New 331 ct31 fun t31 =>
   Sv S <|
   New 256 #[(.pointer t35),(.pointer right11_1)] fun t37 =>
   Sv S <|
   New 260 #[(Sl.val (Sl.mk (some t31) 1 1)),(Sl.val (Sl.mk (some t37) 2 2))] fun t39 =>
   St t33 (.pointer (some t39)) <|
   zAE.s2 Q (some t33) t6_1 old8_1 had9_1),
   (New 256 #[(.pointer t35),(.pointer right11_1)] fun t37 =>
   Sv S <|
   Bld #[(.string ⟨#[]⟩),(.bool false),(Sl.val ⟨none,0,0⟩),(.int .i64 0),(.int .u64 0)] (fun i=>some (i * 5,5)) [(0,(.agg t30))] fun ct31 =>
   New 331 ct31 fun t31 =>
   Sv S <|
   New 260 #[(Sl.val (Sl.mk (some t31) 1 1)),(Sl.val (Sl.mk (some t37) 2 2))] fun t39 =>
   St t33 (.pointer (some t39)) <|
   zAE.s2 Q (some t33) t6_1 old8_1 had9_1)
   ])
  (zAE.s2 Q t0_1 t6_1 old8_1 had9_1)
def zAE (t0:(Option Addr)) (key1:ByteArray) (value2:(Array Value)) (Q:(Array Value)→Bool→K):K :=
 New 87 value2 fun value5 =>
 New 87 #[(.bool false),(Sl.val ⟨none,0,0⟩),(.int .i64 0),(.int .u64 0)] fun t6 =>
 Dr <| WithS fun S =>
 Nn t0 fun t14 =>
 LdS S t14 Value.pointer fun t16 =>
 LdNS S value5 4 fun t18 =>
 Bld #[(.string ⟨#[]⟩),(.bool false),(Sl.val ⟨none,0,0⟩),(.int .i64 0),(.int .u64 0)] ([(0,1),(1,4)][·]?) [(0,(.string key1)),(1,(.agg t18))] fun t19 =>
 All [
  (zAM.call t16 t19 fun t20x0 t20x1 t20x2 t20x3 =>
  New 87 #[(.bool false),(Sl.val ⟨none,0,0⟩),(.int .i64 0),(.int .u64 0)] fun old8 =>
  StN old8 4 t20x0 <|
  zAE.s1 Q (some t14) t6 old8 t20x1 t20x2 t20x3),
  (New 87 #[(.bool false),(Sl.val ⟨none,0,0⟩),(.int .i64 0),(.int .u64 0)] fun old8 =>
  Sv S <|
  zAM.call t16 t19 fun t20x0 t20x1 t20x2 t20x3 =>
  StN old8 4 t20x0 <|
  zAE.s1 Q (some t14) t6 old8 t20x1 t20x2 t20x3)
  ]
theorem zEd (t0:(Option Addr)) (key1:ByteArray) (value2:(Array Value)) (Q:(Array Value)→Bool→K) (w:World) (h:zAE t0 key1 value2 Q w):zAE.call t0 key1 value2 Q w:=by
 have hJ6:JH 6 fun D=>∃ (t6_3:Addr) (old8_3:Addr),D [(6,(.pointer (some t6_3))),(8,(.pointer (some old8_3)))] (fun C=>∀ (had9_3:Bool),C [(6,(.pointer (some t6_3))),(8,(.pointer (some old8_3))),(9,(.bool had9_3))] (zAE.s3 Q t6_3 old8_3 had9_3)):=by intros; exact ⟨fun _ ⟨_,_,h⟩=>⟨_,_,h⟩⟩
 have hJ4:JH 4 fun D=>∃ (t0_2:(Option Addr)) (t6_2:Addr) (old8_2:Addr),D [(0,(.pointer t0_2)),(6,(.pointer (some t6_2))),(8,(.pointer (some old8_2)))] (fun C=>∀ (had9_2:Bool),C [(0,(.pointer t0_2)),(6,(.pointer (some t6_2))),(8,(.pointer (some old8_2))),(9,(.bool had9_2))] (zAE.s2 Q t0_2 t6_2 old8_2 had9_2)):=by intros; exact ⟨fun _ ⟨_,_,_,h⟩=>⟨_,_,h⟩⟩
 have hD3:DH 3 2 [12,15] (.s [0,1,2,5,6,7,9,3,8] (.a [(4,1,.a [(10,1,.s [11] (.a [(12,0,.s [13,14] (.a [(15,0,.e)]))]))]),(10,1,.a [(4,1,.s [11] (.a [(12,0,.s [13,14] (.a [(15,0,.e)]))]))])])):=by intros; exact ⟨⟩
 have hJ2:JH 2 fun D=>∃ (t0_1:(Option Addr)) (t6_1:Addr),D [(0,(.pointer t0_1)),(6,(.pointer (some t6_1)))] (fun C=>∀ (old8_1:Addr) (had9_1:Bool) (mid10_1:(Option Addr)) (right11_1:(Option Addr)),C [(0,(.pointer t0_1)),(6,(.pointer (some t6_1))),(8,(.pointer (some old8_1))),(9,(.bool had9_1)),(10,(.pointer mid10_1)),(11,(.pointer right11_1))] (zAE.s1 Q t0_1 t6_1 old8_1 had9_1 mid10_1 right11_1)):=by intros; exact ⟨fun _ ⟨_,_,h⟩=>⟨_,_,h⟩⟩
 have hD1:DH 1 2 [7,14] (.s [0,1,2,4,3,5,6] (.a [(7,0,.s [8,9,10,11,12] (.a [(13,0,.a [(14,0,.s [15,16,17] .e)])])),(13,1,.a [(7,0,.s [8,9,10,11,12] (.a [(14,0,.s [15,16,17] .e)]))])])):=by intros; exact ⟨⟩
 exact g_walk 53 h Tryz.func243
def zAU.s1 (Q:(Array Value)→Bool→K)  (value4_1:Addr) (ok5_1:Bool):K :=
 LdN value4_1 4 fun t94 =>
 StN value4_1 4 t94 <|
 LdN value4_1 4 fun r0 =>
 Q r0 ok5_1
def zAU.s2 (Q:(Array Value)→Bool→K)  (n0_2:(Option Addr)) (key1_2:ByteArray) (value4_2:Addr) (i6_2:Int) (found7_2:Bool) (t14_2:Bool):K :=
 Ite t14_2
  (Nn n0_2 fun t25 =>
  Ld t25 Sl.val fun t27 =>
  Idx t27 i6_2 5 fun t29 =>
  LdN (t29.add 1) 4 fun t31 =>
  StN value4_2 4 t31 <|
  Ld t25 Sl.val fun t36 =>
  Ar (IntKind.wrap .i64 (i6_2 + 1)) fun t39 =>
  zAH.call t36 i6_2 t39 fun t40 =>
  St t25 (Sl.val t40) <|
  LdN value4_2 4 fun t43 =>
  StN value4_2 4 t43 <|
  LdN value4_2 4 fun r0 =>
  Q r0 true)
  (Ite found7_2
   (Nn n0_2 fun t47 =>
   Ld t47 Sl.val fun t49 =>
   Idx t49 i6_2 5 fun t51 =>
   LdN (t51.add 1) 4 fun t53 =>
   StN value4_2 4 t53 <|
   Dr <| WithS fun S =>
   LdS S t47 Sl.val fun t57 =>
   LdS S (t47.add 1) Sl.val fun t62 =>
   Idx t62 i6_2 1 fun t64 =>
   LdS S t64 Value.pointer fun t65 =>
   zBH.call t65 fun t66 =>
   Sv S <|
   Idx t57 i6_2 5 fun t67 =>
   StN t67 5 t66 <|
   zAN.call (some t47) i6_2 <|
   LdN value4_2 4 fun t71 =>
   StN value4_2 4 t71 <|
   LdN value4_2 4 fun r0 =>
   Q r0 true)
   (Nn n0_2 fun t74 =>
   Ld (t74.add 1) Sl.val fun t76 =>
   Ite (decide ((0:Int) < (t76.n:Int)))
    (Ld (t74.add 1) Sl.val fun t83 =>
    Idx t83 i6_2 1 fun t85 =>
    Ld t85 Value.pointer fun t86 =>
    zAU.call t86 key1_2 fun t88x0 t88x1 =>
    StN value4_2 4 t88x0 <|
    zAN.call (some t74) i6_2 <|
    zAU.s1 Q value4_2 t88x1)
    (zAU.s1 Q value4_2 false)))
def zAU (n0:(Option Addr)) (key1:ByteArray) (Q:(Array Value)→Bool→K):K :=
 New 87 #[(.bool false),(Sl.val ⟨none,0,0⟩),(.int .i64 0),(.int .u64 0)] fun value4 =>
 zAs.call n0 key1 fun t11x0 t11x1 =>
 Ite t11x1
  (Nn n0 fun t18 =>
  Ld (t18.add 1) Sl.val fun t20 =>
  zAU.s2 Q (some t18) key1 value4 t11x0 true (decide ((t20.n:Int) = 0)))
  (zAU.s2 Q n0 key1 value4 t11x0 false false)
theorem zEO (n0:(Option Addr)) (key1:ByteArray) (Q:(Array Value)→Bool→K) (w:World) (h:zAU n0 key1 Q w):zAU.call n0 key1 Q w:=by
 have hJ14:JH 14 fun D=>∃ (value4_1:Addr),D [(4,(.pointer (some value4_1)))] (fun C=>∀ (ok5_1:Bool),C [(4,(.pointer (some value4_1))),(5,(.bool ok5_1))] (zAU.s1 Q value4_1 ok5_1)):=by intros; exact ⟨fun _ ⟨_,h⟩=>⟨_,_,h⟩⟩
 have hD8:DH 8 2 [14] (.s [0,1,2,4,5,6,7,9,3,8,10,11] (.a [(12,1,.s [13] (.a [(14,0,.e)]))])):=by intros; exact ⟨⟩
 have hJ3:JH 3 fun D=>∃ (n0_2:(Option Addr)) (key1_2:ByteArray) (value4_2:Addr) (i6_2:Int),D [(0,(.pointer n0_2)),(1,(.string key1_2)),(4,(.pointer (some value4_2))),(6,(.int .i64 i6_2))] (fun C=>∀ (found7_2:Bool) (t14_2:Bool),C [(0,(.pointer n0_2)),(1,(.string key1_2)),(4,(.pointer (some value4_2))),(5,(.bool false)),(6,(.int .i64 i6_2)),(7,(.bool found7_2)),(14,(.bool t14_2))] (zAU.s2 Q n0_2 key1_2 value4_2 i6_2 found7_2 t14_2)):=by intros; exact ⟨fun _ ⟨_,_,_,_,h⟩=>⟨_,_,h⟩⟩
 exact g_walk 96 h Tryz.func245
def zAM.s2 (Q:(Array Value)→Bool→(Option Addr)→(Option Addr)→K)  (old4_2:Addr) (had5_2:Bool) (right7_2:Addr) (m12_2:Addr):K :=
 LdN old4_2 4 fun t153 =>
 StN old4_2 4 t153 <|
 LdN old4_2 4 fun r0 =>
 Q r0 had5_2 (some m12_2) (some right7_2)
def zAM.s1 (Q:(Array Value)→Bool→(Option Addr)→(Option Addr)→K)  (n0_1:(Option Addr)) (old4_1:Addr) (had5_1:Bool):K :=
 Nn n0_1 fun t101 =>
 Ld t101 Sl.val fun t103 =>
 Ite (decide ((t103.n:Int) ≤ 5))
  (LdN old4_1 4 fun t106 =>
  StN old4_1 4 t106 <|
  LdN old4_1 4 fun r0 =>
  Q r0 had5_1 none none)
  (Ld t101 Sl.val fun t111 =>
  Idx t111 2 5 fun t112 =>
  LdN t112 5 fun t113 =>
  New 331 #[(.string ⟨#[]⟩),(.bool false),(Sl.val ⟨none,0,0⟩),(.int .i64 0),(.int .u64 0)] fun m12 =>
  StN m12 5 t113 <|
  Ld t101 Sl.val fun t117 =>
  Slc t117 3 (t117.n:Int) (t117.c:Int) 5 fun t118 =>
  zAb.call t118 fun t119 =>
  New 260 #[(Sl.val t119),(Sl.val ⟨none,0,0⟩)] fun t121 =>
  Ld t101 Sl.val fun t126 =>
  Slc t126 0 2 2 5 fun t127 =>
  St t101 (Sl.val t127) <|
  Ld (t101.add 1) Sl.val fun t133 =>
  Ite (decide ((0:Int) < (t133.n:Int)))
   (Ld (t101.add 1) Sl.val fun t140 =>
   Slc t140 3 (t140.n:Int) (t140.c:Int) 1 fun t141 =>
   zAc.call t141 fun t142 =>
   St (t121.add 1) (Sl.val t142) <|
   Ld (t101.add 1) Sl.val fun t149 =>
   Slc t149 0 3 3 1 fun t150 =>
   St (t101.add 1) (Sl.val t150) <|
   zAM.s2 Q old4_1 had5_1 t121 m12)
   (zAM.s2 Q old4_1 had5_1 t121 m12))
def zAM (n0:(Option Addr)) (x1:(Array Value)) (Q:(Array Value)→Bool→(Option Addr)→(Option Addr)→K):K :=
 New 331 x1 fun x3 =>
 New 87 #[(.bool false),(Sl.val ⟨none,0,0⟩),(.int .i64 0),(.int .u64 0)] fun old4 =>
 Ld x3 Value.string fun t16 =>
 zAs.call n0 t16 fun t17x0 t17x1 =>
 Ite t17x1
  (Nn n0 fun t64 =>
  Ld t64 Sl.val fun t66 =>
  Idx t66 t17x0 5 fun t68 =>
  LdN (t68.add 1) 4 fun t70 =>
  StN old4 4 t70 <|
  Dr <|
  Ld t64 Sl.val fun t74 =>
  LdN (x3.add 1) 4 fun t77 =>
  Idx t74 t17x0 5 fun t78 =>
  StN (t78.add 1) 4 t77 <|
  LdN old4 4 fun t80 =>
  StN old4 4 t80 <|
  LdN old4 4 fun r0 =>
  Q r0 true none none)
  (Nn n0 fun t84 =>
  Ld (t84.add 1) Sl.val fun t86 =>
  Ite (decide ((t86.n:Int) = 0))
   (Dr <| WithS fun S =>
   LdS S t84 Sl.val fun t93 =>
   LdNS S x3 5 fun t95 =>
   Bld #[(.string ⟨#[]⟩),(.bool false),(Sl.val ⟨none,0,0⟩),(.int .i64 0),(.int .u64 0)] (fun i=>some (i * 5,5)) [(0,(.agg t95))] fun ct96 =>
   New 331 ct96 fun t96 =>
   Sv S <|
   zAI.call t93 t17x0 (Sl.mk (some t96) 1 1) fun t97 =>
   St t84 (Sl.val t97) <|
   zAM.s1 Q (some t84) old4 false)
   (Dr <|
   Ld (t84.add 1) Sl.val fun t24 =>
   Idx t24 t17x0 1 fun t26 =>
   Ld t26 Value.pointer fun t27 =>
   LdN x3 5 fun t28 =>
   zAM.call t27 t28 fun t29x0 t29x1 t29x2 t29x3 =>
   StN old4 4 t29x0 <|
   Ite (!(t29x2).isNone)
    (Dr <| WithS fun S =>
    Nn t29x2 fun t43 =>
    LdS S t84 Sl.val fun t40 =>
    LdNS S t43 5 fun t44 =>
    Bld #[(.string ⟨#[]⟩),(.bool false),(Sl.val ⟨none,0,0⟩),(.int .i64 0),(.int .u64 0)] (fun i=>some (i * 5,5)) [(0,(.agg t44))] fun ct45 =>
    New 331 ct45 fun t45 =>
    Sv S <|
    zAI.call t40 t17x0 (Sl.mk (some t45) 1 1) fun t46 =>
    St t84 (Sl.val t46) <|
    Ld (t84.add 1) Sl.val fun t53 =>
    Ar (IntKind.wrap .i64 (t17x0 + 1)) fun t55 =>
    New 256 #[(.pointer t29x3)] fun t57 =>
    zAR.call t53 t55 (Sl.mk (some t57) 1 1) fun t58 =>
    St (t84.add 1) (Sl.val t58) <|
    zAM.s1 Q (some t84) old4 t29x1)
    (zAM.s1 Q (some t84) old4 t29x1)))
theorem zEe (n0:(Option Addr)) (x1:(Array Value)) (Q:(Array Value)→Bool→(Option Addr)→(Option Addr)→K) (w:World) (h:zAM n0 x1 Q w):zAM.call n0 x1 Q w:=by
 have hJ22:JH 22 fun D=>∃ (old4_2:Addr) (right7_2:Addr) (m12_2:Addr),D [(4,(.pointer (some old4_2))),(7,(.pointer (some right7_2))),(12,(.pointer (some m12_2)))] (fun C=>∀ (had5_2:Bool),C [(4,(.pointer (some old4_2))),(5,(.bool had5_2)),(7,(.pointer (some right7_2))),(12,(.pointer (some m12_2)))] (zAM.s2 Q old4_2 had5_2 right7_2 m12_2)):=by intros; exact ⟨fun _ ⟨_,_,_,h⟩=>⟨_,_,h⟩⟩
 have hJ14:JH 14 fun D=>∃ (n0_1:(Option Addr)) (old4_1:Addr),D [(0,(.pointer n0_1)),(4,(.pointer (some old4_1)))] (fun C=>∀ (had5_1:Bool),C [(0,(.pointer n0_1)),(4,(.pointer (some old4_1))),(5,(.bool had5_1))] (zAM.s1 Q n0_1 old4_1 had5_1)):=by intros; exact ⟨fun _ ⟨_,_,h⟩=>⟨_,_,h⟩⟩
 have hD10:DH 10 1 [9] (.s [0,1,2,4,5,3,6,7,8] (.a [(9,0,.e)])):=by intros; exact ⟨⟩
 have hD13:DH 13 2 [8,11] (.s [0,1,2,3,5,4,6] (.a [(7,1,.a [(8,0,.s [9,10] (.a [(11,0,.e)]))])])):=by intros; exact ⟨⟩
 have hD6:DH 6 2 [10,13] (.s [0,1,2,3,5,6,7,4,8] (.a [(9,1,.a [(10,0,.s [11,12] (.a [(13,0,.e)]))])])):=by intros; exact ⟨⟩
 have hD4:DH 4 1 [8,14] (.s [0,1,2,4,3,5,6,7] (.a [(8,0,.s [9,10,11,12,13] (.a [(14,0,.s [15,16,17] .e)]))])):=by intros; exact ⟨⟩
 exact g_walk 156 h Tryz.func246
def zBH (n0:(Option Addr)) (Q:(Array Value)→K):K :=
 New 331 #[(.string ⟨#[]⟩),(.bool false),(Sl.val ⟨none,0,0⟩),(.int .i64 0),(.int .u64 0)] fun t2 =>
 Nn n0 fun t7 =>
 Ld (t7.add 1) Sl.val fun t9 =>
 Ar (IntKind.wrap .i64 ((t9.n:Int) - 1)) fun t11 =>
 Ite (decide ((0:Int) ≤ t11))
  (Ld (t7.add 1) Sl.val fun t17 =>
  Idx t17 t11 1 fun t19 =>
  Ld t19 Value.pointer fun t20 =>
  zBH.call t20 fun t21 =>
  New 331 #[(.string ⟨#[]⟩),(.bool false),(Sl.val ⟨none,0,0⟩),(.int .i64 0),(.int .u64 0)] fun x4 =>
  StN x4 5 t21 <|
  zAN.call (some t7) t11 <|
  LdN x4 5 fun t25 =>
  StN t2 5 t25 <|
  LdN t2 5 fun r0 =>
  Q r0)
  (Dr <| WithS fun S =>
  LdS S t7 Sl.val fun t29 =>
  LdS S t7 Sl.val fun t33 =>
  Ar (IntKind.wrap .i64 ((t33.n:Int) - 1)) fun t35 =>
  Idx t29 t35 5 fun t36 =>
  LdNS S t36 5 fun t37 =>
  New 331 #[(.string ⟨#[]⟩),(.bool false),(Sl.val ⟨none,0,0⟩),(.int .i64 0),(.int .u64 0)] fun x5 =>
  Sv S <|
  StN x5 5 t37 <|
  Dr <|
  Ld t7 Sl.val fun t42 =>
  Ld t7 Sl.val fun t46 =>
  Ar (IntKind.wrap .i64 ((t46.n:Int) - 1)) fun t48 =>
  Slc t42 0 t48 (t42.c:Int) 5 fun t49 =>
  St t7 (Sl.val t49) <|
  LdN x5 5 fun t52 =>
  StN t2 5 t52 <|
  LdN t2 5 fun r0 =>
  Q r0)
theorem zEP (n0:(Option Addr)) (Q:(Array Value)→K) (w:World) (h:zBH n0 Q w):zBH.call n0 Q w:=by
 have hD7:DH 7 1 [14] (.s [0,1,2,3,5,6,7,4,8,9,10,11,12,13] (.a [(14,0,.e)])):=by intros; exact ⟨⟩
 have hD6:DH 6 2 [13] (.s [0,1,2,4,5,6,3,7,8,9,10,11] (.a [(12,1,.a [(13,0,.e)])])):=by intros; exact ⟨⟩
 exact g_walk 53 h Tryz.func248
def zAN.s2 (Q:K)  (n0_2:Addr) (i1_2:Int) (kid4_2:Addr) (t202_2:Bool):K :=
 Ite t202_2
  (Ld (n0_2.add 1) Sl.val fun t229 =>
  Ar (IntKind.wrap .i64 (i1_2 + 1)) fun t231 =>
  Idx t229 t231 1 fun t232 =>
  Ld t232 Value.pointer fun t233 =>
  Dr <| WithS fun S =>
  LdS S kid4_2 Sl.val fun t238 =>
  LdS S n0_2 Sl.val fun t242 =>
  Idx t242 i1_2 5 fun t244 =>
  LdNS S t244 5 fun t245 =>
  Bld #[(.string ⟨#[]⟩),(.bool false),(Sl.val ⟨none,0,0⟩),(.int .i64 0),(.int .u64 0)] (fun i=>some (i * 5,5)) [(0,(.agg t245))] fun ct246 =>
  New 331 ct246 fun t246 =>
  Sv S <|
  Do Tryz.prog (Builtin.append_ #[257,257] 257 #[(Sl.val t238),(Sl.val (Sl.mk (some t246) 1 1))]) Sl.val fun t247 =>
  St kid4_2 (Sl.val t247) <|
  Dr <|
  Nn t233 fun t256 =>
  Ld n0_2 Sl.val fun t253 =>
  Ld t256 Sl.val fun t258 =>
  Idx t258 0 5 fun t259 =>
  LdN t259 5 fun t260 =>
  Idx t253 i1_2 5 fun t261 =>
  StN t261 5 t260 <|
  Ld t256 Sl.val fun t266 =>
  zAH.call t266 0 1 fun t267 =>
  St t256 (Sl.val t267) <|
  Ld (t256.add 1) Sl.val fun t273 =>
  Ite (decide ((0:Int) < (t273.n:Int)))
   (Dr <| WithS fun S =>
   LdS S (kid4_2.add 1) Sl.val fun t280 =>
   LdS S (t256.add 1) Sl.val fun t284 =>
   Idx t284 0 1 fun t285 =>
   LdS S t285 Value.pointer fun t286 =>
   New 256 #[(.pointer t286)] fun t287 =>
   Sv S <|
   Do Tryz.prog (Builtin.append_ #[258,258] 258 #[(Sl.val t280),(Sl.val (Sl.mk (some t287) 1 1))]) Sl.val fun t288 =>
   St (kid4_2.add 1) (Sl.val t288) <|
   Ld (t256.add 1) Sl.val fun t295 =>
   zAS.call t295 0 1 fun t296 =>
   St (t256.add 1) (Sl.val t296) <|
   Q)
   (Q))
  (Ar (if (1:Int) > i1_2 then 1 else i1_2) fun t18 =>
  Dr <|
  Ld (n0_2.add 1) Sl.val fun t22 =>
  Ar (IntKind.wrap .i64 (t18 - 1)) fun t24 =>
  Idx t22 t24 1 fun t25 =>
  Ld t25 Value.pointer fun t26 =>
  Ld (n0_2.add 1) Sl.val fun t30 =>
  Idx t30 t18 1 fun t32 =>
  Ld t32 Value.pointer fun t33 =>
  Dr <| WithS fun S =>
  Nn t26 fun t36 =>
  Ar (IntKind.wrap .i64 (t18 - 1)) fun t44 =>
  Nn t33 fun t50 =>
  LdS S t36 Sl.val fun t38 =>
  LdS S n0_2 Sl.val fun t42 =>
  Idx t42 t44 5 fun t45 =>
  LdNS S t45 5 fun t46 =>
  LdS S t50 Sl.val fun t52 =>
  Bld #[(.string ⟨#[]⟩),(.bool false),(Sl.val ⟨none,0,0⟩),(.int .i64 0),(.int .u64 0)] (fun i=>some (i * 5,5)) [(0,(.agg t46))] fun ct47 =>
  New 331 ct47 fun t47 =>
  Sv S <|
  Do Tryz.prog (Builtin.append_ #[257,257] 257 #[(Sl.val t38),(Sl.val (Sl.mk (some t47) 1 1))]) Sl.val fun t48 =>
  Sv S <|
  Do Tryz.prog (Builtin.append_ #[257,257] 257 #[(Sl.val t48),(Sl.val t52)]) Sl.val fun t53 =>
  St t36 (Sl.val t53) <|
  Dr <|
  Ld (t36.add 1) Sl.val fun t60 =>
  Ld (t50.add 1) Sl.val fun t64 =>
  Do Tryz.prog (Builtin.append_ #[258,258] 258 #[(Sl.val t60),(Sl.val t64)]) Sl.val fun t65 =>
  St (t36.add 1) (Sl.val t65) <|
  Ld n0_2 Sl.val fun t72 =>
  Ar (IntKind.wrap .i64 (t18 - 1)) fun t74 =>
  zAH.call t72 t74 t18 fun t76 =>
  St n0_2 (Sl.val t76) <|
  Ld (n0_2.add 1) Sl.val fun t83 =>
  Ar (IntKind.wrap .i64 (t18 + 1)) fun t86 =>
  zAS.call t83 t18 t86 fun t87 =>
  St (n0_2.add 1) (Sl.val t87) <|
  Q)
def zAN.s1 (Q:K)  (n0_1:Addr) (i1_1:Int) (kid4_1:Addr) (t97_1:Bool):K :=
 Ite t97_1
  (Ld (n0_1.add 1) Sl.val fun t118 =>
  Ar (IntKind.wrap .i64 (i1_1 - 1)) fun t120 =>
  Idx t118 t120 1 fun t121 =>
  Ld t121 Value.pointer fun t122 =>
  Nn t122 fun t124 =>
  Ld t124 Sl.val fun t126 =>
  Ar (IntKind.wrap .i64 ((t126.n:Int) - 1)) fun t128 =>
  Dr <| WithS fun S =>
  Ar (IntKind.wrap .i64 (i1_1 - 1)) fun t139 =>
  LdS S kid4_1 Sl.val fun t133 =>
  LdS S n0_1 Sl.val fun t137 =>
  Idx t137 t139 5 fun t140 =>
  LdNS S t140 5 fun t141 =>
  Bld #[(.string ⟨#[]⟩),(.bool false),(Sl.val ⟨none,0,0⟩),(.int .i64 0),(.int .u64 0)] (fun i=>some (i * 5,5)) [(0,(.agg t141))] fun ct142 =>
  New 331 ct142 fun t142 =>
  Sv S <|
  zAI.call t133 0 (Sl.mk (some t142) 1 1) fun t143 =>
  St kid4_1 (Sl.val t143) <|
  Dr <|
  Ar (IntKind.wrap .i64 (i1_1 - 1)) fun t151 =>
  Ld n0_1 Sl.val fun t149 =>
  Ld t124 Sl.val fun t155 =>
  Idx t155 t128 5 fun t157 =>
  LdN t157 5 fun t158 =>
  Idx t149 t151 5 fun t159 =>
  StN t159 5 t158 <|
  Ld t124 Sl.val fun t164 =>
  Slc t164 0 t128 (t164.c:Int) 5 fun t166 =>
  St t124 (Sl.val t166) <|
  Ld (t124.add 1) Sl.val fun t172 =>
  Ite (decide ((0:Int) < (t172.n:Int)))
   (Dr <| WithS fun S =>
   Ar (IntKind.wrap .i64 (t128 + 1)) fun t185 =>
   LdS S (kid4_1.add 1) Sl.val fun t179 =>
   LdS S (t124.add 1) Sl.val fun t183 =>
   Idx t183 t185 1 fun t186 =>
   LdS S t186 Value.pointer fun t187 =>
   New 256 #[(.pointer t187)] fun t188 =>
   Sv S <|
   zAR.call t179 0 (Sl.mk (some t188) 1 1) fun t189 =>
   St (kid4_1.add 1) (Sl.val t189) <|
   Ld (t124.add 1) Sl.val fun t196 =>
   Ar (IntKind.wrap .i64 (t128 + 1)) fun t198 =>
   Slc t196 0 t198 (t196.c:Int) 1 fun t199 =>
   St (t124.add 1) (Sl.val t199) <|
   Q)
   (Q))
  (Ar (IntKind.wrap .i64 (i1_1 + 1)) fun t204 =>
  Ld (n0_1.add 1) Sl.val fun t208 =>
  Ite (decide (t204 < (t208.n:Int)))
   (Ld (n0_1.add 1) Sl.val fun t215 =>
   Ar (IntKind.wrap .i64 (i1_1 + 1)) fun t217 =>
   Idx t215 t217 1 fun t218 =>
   Ld t218 Value.pointer fun t219 =>
   Nn t219 fun t220 =>
   Ld t220 Sl.val fun t222 =>
   zAN.s2 Q n0_1 i1_1 kid4_1 (decide ((2:Int) < (t222.n:Int))))
   (zAN.s2 Q n0_1 i1_1 kid4_1 false))
def zAN (n0:(Option Addr)) (i1:Int) (Q:K):K :=
 Nn n0 fun t11 =>
 Ld (t11.add 1) Sl.val fun t13 =>
 Idx t13 i1 1 fun t15 =>
 Ld t15 Value.pointer fun t16 =>
 Nn t16 fun t92 =>
 Ld t92 Sl.val fun t94 =>
 Ite (decide ((2:Int) ≤ (t94.n:Int)))
  (Q)
  (Ite (decide ((0:Int) < i1))
   (Ld (t11.add 1) Sl.val fun t104 =>
   Ar (IntKind.wrap .i64 (i1 - 1)) fun t106 =>
   Idx t104 t106 1 fun t107 =>
   Ld t107 Value.pointer fun t108 =>
   Nn t108 fun t109 =>
   Ld t109 Sl.val fun t111 =>
   zAN.s1 Q t11 i1 t92 (decide ((2:Int) < (t111.n:Int))))
   (zAN.s1 Q t11 i1 t92 false))
theorem zEQ (n0:(Option Addr)) (i1:Int) (Q:K) (w:World) (h:zAN n0 i1 Q w):zAN.call n0 i1 Q w:=by
 have hD15:DH 15 2 [14,17] (.s [0,1,2,3,5,6,7,9,10,4,8,11,12] (.a [(13,1,.a [(14,0,.s [15,16] (.a [(17,0,.e)]))])])):=by intros; exact ⟨⟩
 have hD12:DH 12 1 [14] (.s [0,1,2,4,5,6,7,8,10,3,9,11,12,13] (.a [(14,0,.e)])):=by intros; exact ⟨⟩
 have hD11:DH 11 2 [14,17] (.s [0,1,2,3,5,6,7,9,10,4,8,11,12] (.a [(13,1,.a [(14,0,.s [15,16] (.a [(17,0,.e)]))])])):=by intros; exact ⟨⟩
 have hD23:DH 23 2 [12,15] (.s [0,1,2,3,5,6,7,4,8,9,10] (.a [(11,1,.a [(12,0,.s [13,14] (.a [(15,0,.e)]))])])):=by intros; exact ⟨⟩
 have hD20:DH 20 1 [12] (.s [0,1,2,4,5,6,7,3,8,9,10,11] (.a [(12,0,.e)])):=by intros; exact ⟨⟩
 have hD19:DH 19 2 [13,16] (.s [0,1,2,3,5,6,7,9,4,8,10,11] (.a [(12,1,.a [(13,0,.s [14,15] (.a [(16,0,.e)]))])])):=by intros; exact ⟨⟩
 have hD4:DH 4 1 [9,12] (.s [0,1,2,3,5,6,7,4,8] (.a [(9,0,.s [10,11] (.a [(12,0,.e)]))])):=by intros; exact ⟨⟩
 have hD3:DH 3 2 [19,22] (.s [0,1,2,3,5,6,7,9,10,15,16,17,4,8,11,12,18] (.a [(13,1,.a [(14,1,.a [(19,0,.s [20,21] (.a [(22,0,.e)]))])])])):=by intros; exact ⟨⟩
 have hJ18:JH 18 fun D=>∃ (n0_2:Addr) (i1_2:Int) (kid4_2:Addr),D [(0,(.pointer (some n0_2))),(1,(.int .i64 i1_2)),(4,(.pointer (some kid4_2)))] (fun C=>∀ (t202_2:Bool),C [(0,(.pointer (some n0_2))),(1,(.int .i64 i1_2)),(4,(.pointer (some kid4_2))),(202,(.bool t202_2))] (zAN.s2 Q n0_2 i1_2 kid4_2 t202_2)):=by intros; exact ⟨fun _ ⟨_,_,_,h⟩=>⟨_,_,h⟩⟩
 have hJ9:JH 9 fun D=>∃ (n0_1:Addr) (i1_1:Int) (kid4_1:Addr),D [(0,(.pointer (some n0_1))),(1,(.int .i64 i1_1)),(4,(.pointer (some kid4_1)))] (fun C=>∀ (t97_1:Bool),C [(0,(.pointer (some n0_1))),(1,(.int .i64 i1_1)),(4,(.pointer (some kid4_1))),(97,(.bool t97_1))] (zAN.s1 Q n0_1 i1_1 kid4_1 t97_1)):=by intros; exact ⟨fun _ ⟨_,_,_,h⟩=>⟨_,_,h⟩⟩
 exact g_walk 299 h Tryz.func249
end Go.Proofs.YtdemfamgieonbaaGreat
namespace Go.Proofs.YtdemfamgieonbaaGreat
open Go Go.Sep
set_option maxRecDepth 100000
set_option maxHeartbeats 4000000
attribute [local irreducible] G Gp Cx Tx Ex Sx Dx Ox Ax Lx Rx Fx Bx Bj Al Do Ld LdN St StN New CallF Ar DoU Rd Rd2 Pu Cd Ite Fv CallV CallY Ans0 Ans1 Ans2 Ans3 Ans4 Ans5 Ext Dead Dr WithS Sv LdS LdNS RdS Rd2S Nn Idx IdxA IdxS Fld Bld Slc SlcS Cat All LoopK RangeF RangeJ TakeD
namespace F_IRLibBtree
instance at_331:AT Tryz.prog 331 5:=⟨by kernel_rfl⟩
instance cb_256:CB Tryz.prog 256:=⟨by kernel_rfl⟩
instance cb_258:CB Tryz.prog 258:=⟨by kernel_rfl⟩
instance cb_259:CB Tryz.prog 259:=⟨by kernel_rfl⟩
instance cb_260:CB Tryz.prog 260:=⟨by kernel_rfl⟩
instance cb_261:CB Tryz.prog 261:=⟨by kernel_rfl⟩
instance cb_262:CB Tryz.prog 262:=⟨by kernel_rfl⟩
instance ct_256:CT Tryz.prog 256:=⟨by kernel_rfl⟩
instance zUj:EXT Tryz.prog 255 (Extern.SlicesOverlaps.overlaps #[257,257] #[4]):=ext_of Tryz.func255 (by kernel_rfl) (by kernel_rfl) (by kernel_rfl) (by kernel_rfl)
instance zUk:EXT Tryz.prog 257 (Extern.SlicesOverlaps.overlaps #[258,258] #[4]):=ext_of Tryz.func257 (by kernel_rfl) (by kernel_rfl) (by kernel_rfl) (by kernel_rfl)
instance in_204:INT Tryz.prog 204 .u64:=⟨by kernel_rfl⟩
instance in_3:INT Tryz.prog 3 .i64:=⟨by kernel_rfl⟩
instance mx:MX Tryz.prog:=⟨mixed⟩
instance sl_257:SLT Tryz.prog 257 331 5:=⟨by kernel_rfl⟩
instance sl_258:SLT Tryz.prog 258 256 1:=⟨by kernel_rfl⟩
instance sz_256:SZ Tryz.prog 256 1:=⟨by kernel_rfl⟩
instance sz_331:SZ Tryz.prog 331 5:=⟨by kernel_rfl⟩
instance un_257:UN Tryz.prog 257 (.slice 331):=⟨Tryz.underlying257⟩
instance un_258:UN Tryz.prog 258 (.slice 256):=⟨Tryz.underlying258⟩
instance zt_256:ZT Tryz.prog 256 (.pointer none):=⟨Tryz.t256,by kernel_rfl,by kernel_rfl⟩
instance zt_331:ZT Tryz.prog 331 (.agg #[(.string ⟨#[]⟩),(.bool false),(Sl.val ⟨none,0,0⟩),(.int .i64 0),(.int .u64 0)]):=⟨Tryz.t331,by kernel_rfl,by kernel_rfl⟩
end F_IRLibBtree
def zAA.s2 (Q:Int→Bool→K) (X1:Int→Int→K) (t6_2:Int) (t7_2:Bool):K :=
 Q t6_2 t7_2
def zAA.b1 (Q:Int→Bool→K)  (X1:Int→Int→K) (x0_1:Sl) (target1_1:ByteArray) (cmp2_1:Value) (n8_1:Int) (i9_1:Int) (j10_1:Int):K :=
 Ite (decide (i9_1 < j10_1))
  (Ar (IntKind.wrap .i64 (i9_1 + j10_1)) fun t20 =>
  Ar (IntKind.wrap .u64 t20) fun t21 =>
  Cd (0 ≤ (1:Int)) <|
  Ar (shrOf .u64 t21 1) fun t22 =>
  Ar (IntKind.wrap .i64 t22) fun t23 =>
  Idx x0_1 t23 5 fun t27 =>
  LdN t27 5 fun t28 =>
  CallV Tryz.prog cmp2_1 [(.agg t28),(.string target1_1)] <| Ans1 (fun (t30:Int)=>(Value.int .i64) t30) fun t30 =>
  Ite (decide (t30 < 0))
   (Ar (IntKind.wrap .i64 (t23 + 1)) fun t33 =>
   X1 t33 j10_1)
   (X1 i9_1 t23))
  (Ite (decide (i9_1 < n8_1))
   (Idx x0_1 i9_1 5 fun t43 =>
   LdN t43 5 fun t44 =>
   CallV Tryz.prog cmp2_1 [(.agg t44),(.string target1_1)] <| Ans1 (fun (t46:Int)=>(Value.int .i64) t46) fun t46 =>
   zAA.s2 Q X1 i9_1 (decide (t46 = 0)))
   (zAA.s2 Q X1 i9_1 false))
def zAA (x0:Sl) (target1:ByteArray) (cmp2:Value) (Q:Int→Bool→K):K :=
 LoopK (α:=Int×Int) (fun X x=>zAA.b1 Q (fun i9_1 j10_1=>X (i9_1,j10_1)) x0 target1 cmp2 (x0.n:Int) x.1 x.2) (0,(x0.n:Int))
theorem zBn (x0:Sl) (target1:ByteArray) (cmp2:Value) (Q:Int→Bool→K) (w:World) (h:zAA x0 target1 cmp2 Q w):zAA.call x0 target1 cmp2 Q w:=by
 have hJ1000008:∀ (X1:(Int×Int)→K),XH 3 X1→JH 1000008 fun D=>D [] (fun C=>∀ (t6_2:Int) (t7_2:Bool),C [(6,(.int .i64 t6_2)),(7,(.bool t7_2))] (zAA.s2 Q (fun i9_1 j10_1=>X1 (i9_1,j10_1)) t6_2 t7_2)):=by intros; exact ⟨fun _ h=>⟨_,_,h⟩⟩
 have hL3:∀ (x0_1:Sl) (target1_1:ByteArray) (cmp2_1:Value) (n8_1:Int),LH 3 (fun x:Int×Int=>[(0,(Sl.val x0_1)),(1,(.string target1_1)),(2,cmp2_1),(8,(.int .i64 n8_1)),(9,(.int .i64 x.1)),(10,(.int .i64 x.2))]) (fun X x=>zAA.b1 Q (fun i9_1 j10_1=>X (i9_1,j10_1)) x0_1 target1_1 cmp2_1 n8_1 x.1 x.2):=by intros; exact ⟨⟩
 exact g_walk 49 h Tryz.func230
def zAH (s0:Sl) (i1:Int) (j2:Int) (Q:Sl→K):K :=
 Slc s0 i1 j2 (s0.n:Int) 5 fun t13 =>
 Ite (decide (i1 = j2))
  (Q s0)
  (Dr <|
  Slc s0 0 i1 (s0.c:Int) 5 fun t22 =>
  Slc s0 j2 (s0.n:Int) (s0.c:Int) 5 fun t25 =>
  Do Tryz.prog (Builtin.append_ #[257,257] 257 #[(Sl.val t22),(Sl.val t25)]) Sl.val fun t26 =>
  Slc t26 (t26.n:Int) (s0.n:Int) (t26.c:Int) 5 fun t31 =>
  Do Tryz.prog (Builtin.clear_ #[257] 0 #[(Sl.val t31)]) id fun _ =>
  Q t26)
theorem zB3 (s0:Sl) (i1:Int) (j2:Int) (Q:Sl→K) (w:World) (h:zAH s0 i1 j2 Q w):zAH.call s0 i1 j2 Q w:=by
 have hD5:DH 5 0 [] (.s [0,1,2,3,4,5] (.a [(6,0,.s [7] .e)])):=by intros; exact ⟨⟩
 exact g_walk 33 h Tryz.func247
def zAI (s0:Sl) (i1:Int) (v2:Sl) (Q:Sl→K):K :=
 Slc s0 i1 (s0.n:Int) (s0.c:Int) 5 fun t12 =>
 Ite (decide ((v2.n:Int) = 0))
  (Q s0)
  (Ite (decide (i1 = (s0.n:Int)))
   (Do Tryz.prog (Builtin.append_ #[257,257] 257 #[(Sl.val s0),(Sl.val v2)]) Sl.val fun t25 =>
   Q t25)
   (Ar (IntKind.wrap .i64 ((s0.n:Int) + (v2.n:Int))) fun t28 =>
   Do Tryz.prog (Builtin.cap_ #[257] 3 #[(Sl.val s0)]) (Value.int .i64) fun t30 =>
   Ite (decide (t30 < t28))
    (Slc s0 0 i1 (s0.c:Int) 5 fun t34 =>
    Ar (IntKind.wrap .i64 ((s0.n:Int) + (v2.n:Int))) fun t37 =>
    Ar (IntKind.wrap .i64 (t37 - i1)) fun t39 =>
    Do Tryz.prog (Builtin.append_ #[257,3] 257 #[(Sl.val t34),(.int .i64 t39)]) Sl.val fun t40 =>
    Slc t40 i1 (t40.n:Int) (t40.c:Int) 5 fun t43 =>
    Do Tryz.prog (Builtin.copy_ #[257,257] 3 #[(Sl.val t43),(Sl.val v2)]) (Value.int .i64) fun t45 =>
    Dr <|
    Ar (IntKind.wrap .i64 (i1 + (v2.n:Int))) fun t49 =>
    Slc t40 t49 (t40.n:Int) (t40.c:Int) 5 fun t50 =>
    Slc s0 i1 (s0.n:Int) (s0.c:Int) 5 fun t53 =>
    Do Tryz.prog (Builtin.copy_ #[257,257] 3 #[(Sl.val t50),(Sl.val t53)]) (Value.int .i64) fun t54 =>
    Q t40)
    (Ar (IntKind.wrap .i64 ((s0.n:Int) + (v2.n:Int))) fun t59 =>
    Slc s0 0 t59 (s0.c:Int) 5 fun t60 =>
    Ar (IntKind.wrap .i64 (i1 + (v2.n:Int))) fun t65 =>
    Slc t60 t65 (t60.n:Int) (t60.c:Int) 5 fun t66 =>
    Rd Tryz.prog (Extern.SlicesOverlaps.overlaps #[257,257] #[4] [(Sl.val v2),(Sl.val t66)].toArray) Value.bool fun t67 =>
    Ite (!t67)
     (Dr <|
     Ar (IntKind.wrap .i64 (i1 + (v2.n:Int))) fun t72 =>
     Slc t60 t72 (t60.n:Int) (t60.c:Int) 5 fun t73 =>
     Slc t60 i1 (t60.n:Int) (t60.c:Int) 5 fun t76 =>
     Do Tryz.prog (Builtin.copy_ #[257,257] 3 #[(Sl.val t73),(Sl.val t76)]) (Value.int .i64) fun t77 =>
     Slc t60 i1 (t60.n:Int) (t60.c:Int) 5 fun t80 =>
     Do Tryz.prog (Builtin.copy_ #[257,257] 3 #[(Sl.val t80),(Sl.val v2)]) (Value.int .i64) fun t82 =>
     Q t60)
     (Slc t60 (s0.n:Int) (t60.n:Int) (t60.c:Int) 5 fun t86 =>
     Do Tryz.prog (Builtin.copy_ #[257,257] 3 #[(Sl.val t86),(Sl.val v2)]) (Value.int .i64) fun t88 =>
     Slc t60 i1 (t60.n:Int) (t60.c:Int) 5 fun t91 =>
     zCW.call t91 (v2.n:Int) <|
     Q t60))))
theorem zB4 (s0:Sl) (i1:Int) (v2:Sl) (Q:Sl→K) (w:World) (h:zAI s0 i1 v2 Q w):zAI.call s0 i1 v2 Q w:=by
 have hD11:DH 11 0 [] (.s [0,1,2,3,4,5,6,7] (.a [(8,0,.e)])):=by intros; exact ⟨⟩
 have hD15:DH 15 0 [] (.s [0,1,2,3,4,5,6,7] (.a [(8,0,.e)])):=by intros; exact ⟨⟩
 exact g_walk 95 h Tryz.func250
def zAR (s0:Sl) (i1:Int) (v2:Sl) (Q:Sl→K):K :=
 Slc s0 i1 (s0.n:Int) (s0.c:Int) 1 fun t12 =>
 Ite (decide ((v2.n:Int) = 0))
  (Q s0)
  (Ite (decide (i1 = (s0.n:Int)))
   (Do Tryz.prog (Builtin.append_ #[258,258] 258 #[(Sl.val s0),(Sl.val v2)]) Sl.val fun t25 =>
   Q t25)
   (Ar (IntKind.wrap .i64 ((s0.n:Int) + (v2.n:Int))) fun t28 =>
   Do Tryz.prog (Builtin.cap_ #[258] 3 #[(Sl.val s0)]) (Value.int .i64) fun t30 =>
   Ite (decide (t30 < t28))
    (Slc s0 0 i1 (s0.c:Int) 1 fun t34 =>
    Ar (IntKind.wrap .i64 ((s0.n:Int) + (v2.n:Int))) fun t37 =>
    Ar (IntKind.wrap .i64 (t37 - i1)) fun t39 =>
    Do Tryz.prog (Builtin.append_ #[258,3] 258 #[(Sl.val t34),(.int .i64 t39)]) Sl.val fun t40 =>
    Slc t40 i1 (t40.n:Int) (t40.c:Int) 1 fun t43 =>
    Do Tryz.prog (Builtin.copy_ #[258,258] 3 #[(Sl.val t43),(Sl.val v2)]) (Value.int .i64) fun t45 =>
    Dr <|
    Ar (IntKind.wrap .i64 (i1 + (v2.n:Int))) fun t49 =>
    Slc t40 t49 (t40.n:Int) (t40.c:Int) 1 fun t50 =>
    Slc s0 i1 (s0.n:Int) (s0.c:Int) 1 fun t53 =>
    Do Tryz.prog (Builtin.copy_ #[258,258] 3 #[(Sl.val t50),(Sl.val t53)]) (Value.int .i64) fun t54 =>
    Q t40)
    (Ar (IntKind.wrap .i64 ((s0.n:Int) + (v2.n:Int))) fun t59 =>
    Slc s0 0 t59 (s0.c:Int) 1 fun t60 =>
    Ar (IntKind.wrap .i64 (i1 + (v2.n:Int))) fun t65 =>
    Slc t60 t65 (t60.n:Int) (t60.c:Int) 1 fun t66 =>
    Rd Tryz.prog (Extern.SlicesOverlaps.overlaps #[258,258] #[4] [(Sl.val v2),(Sl.val t66)].toArray) Value.bool fun t67 =>
    Ite (!t67)
     (Dr <|
     Ar (IntKind.wrap .i64 (i1 + (v2.n:Int))) fun t72 =>
     Slc t60 t72 (t60.n:Int) (t60.c:Int) 1 fun t73 =>
     Slc t60 i1 (t60.n:Int) (t60.c:Int) 1 fun t76 =>
     Do Tryz.prog (Builtin.copy_ #[258,258] 3 #[(Sl.val t73),(Sl.val t76)]) (Value.int .i64) fun t77 =>
     Slc t60 i1 (t60.n:Int) (t60.c:Int) 1 fun t80 =>
     Do Tryz.prog (Builtin.copy_ #[258,258] 3 #[(Sl.val t80),(Sl.val v2)]) (Value.int .i64) fun t82 =>
     Q t60)
     (Slc t60 (s0.n:Int) (t60.n:Int) (t60.c:Int) 1 fun t86 =>
     Do Tryz.prog (Builtin.copy_ #[258,258] 3 #[(Sl.val t86),(Sl.val v2)]) (Value.int .i64) fun t88 =>
     Slc t60 i1 (t60.n:Int) (t60.c:Int) 1 fun t91 =>
     zCX.call t91 (v2.n:Int) <|
     Q t60))))
theorem zB5 (s0:Sl) (i1:Int) (v2:Sl) (Q:Sl→K) (w:World) (h:zAR s0 i1 v2 Q w):zAR.call s0 i1 v2 Q w:=by
 have hD11:DH 11 0 [] (.s [0,1,2,3,4,5,6,7] (.a [(8,0,.e)])):=by intros; exact ⟨⟩
 have hD15:DH 15 0 [] (.s [0,1,2,3,4,5,6,7] (.a [(8,0,.e)])):=by intros; exact ⟨⟩
 exact g_walk 95 h Tryz.func251
def zAb (s0:Sl) (Q:Sl→K):K :=
 Ite ((s0).a.isNone)
  (Q (Sl.mk none 0 0))
  (New 331 #[] fun t5 =>
  Do Tryz.prog (Builtin.append_ #[257,257] 257 #[(Sl.val (Sl.mk (some t5) 0 0)),(Sl.val s0)]) Sl.val fun t7 =>
  Q t7)
theorem zCD (s0:Sl) (Q:Sl→K) (w:World) (h:zAb s0 Q w):zAb.call s0 Q w:=by
 exact g_walk 8 h Tryz.func252
def zAc (s0:Sl) (Q:Sl→K):K :=
 Ite ((s0).a.isNone)
  (Q (Sl.mk none 0 0))
  (New 256 #[] fun t5 =>
  Do Tryz.prog (Builtin.append_ #[258,258] 258 #[(Sl.val (Sl.mk (some t5) 0 0)),(Sl.val s0)]) Sl.val fun t7 =>
  Q t7)
theorem zCE (s0:Sl) (Q:Sl→K) (w:World) (h:zAc s0 Q w):zAc.call s0 Q w:=by
 exact g_walk 8 h Tryz.func253
def zAS (s0:Sl) (i1:Int) (j2:Int) (Q:Sl→K):K :=
 Slc s0 i1 j2 (s0.n:Int) 1 fun t13 =>
 Ite (decide (i1 = j2))
  (Q s0)
  (Dr <|
  Slc s0 0 i1 (s0.c:Int) 1 fun t22 =>
  Slc s0 j2 (s0.n:Int) (s0.c:Int) 1 fun t25 =>
  Do Tryz.prog (Builtin.append_ #[258,258] 258 #[(Sl.val t22),(Sl.val t25)]) Sl.val fun t26 =>
  Slc t26 (t26.n:Int) (s0.n:Int) (t26.c:Int) 1 fun t31 =>
  Do Tryz.prog (Builtin.clear_ #[258] 0 #[(Sl.val t31)]) id fun _ =>
  Q t26)
theorem zB6 (s0:Sl) (i1:Int) (j2:Int) (Q:Sl→K) (w:World) (h:zAS s0 i1 j2 Q w):zAS.call s0 i1 j2 Q w:=by
 have hD5:DH 5 0 [] (.s [0,1,2,3,4,5] (.a [(6,0,.s [7] .e)])):=by intros; exact ⟨⟩
 exact g_walk 33 h Tryz.func254
def zCW (s0:Sl) (r1:Int) (Q:K):K :=
 Ar (IntKind.wrap .i64 ((s0.n:Int) - r1)) fun t8 =>
 zCc.call s0 t8 <|
 Q
def zCX (s0:Sl) (r1:Int) (Q:K):K :=
 Ar (IntKind.wrap .i64 ((s0.n:Int) - r1)) fun t8 =>
 zCd.call s0 t8 <|
 Q
def zCc (s0:Sl) (r1:Int) (Q:K):K :=
 Slc s0 0 r1 (s0.c:Int) 5 fun t6 =>
 zAO.call t6 <|
 Slc s0 r1 (s0.n:Int) (s0.c:Int) 5 fun t10 =>
 zAO.call t10 <|
 zAO.call s0 <|
 Q
def zCd (s0:Sl) (r1:Int) (Q:K):K :=
 Slc s0 0 r1 (s0.c:Int) 1 fun t6 =>
 zAP.call t6 <|
 Slc s0 r1 (s0.n:Int) (s0.c:Int) 1 fun t10 =>
 zAP.call t10 <|
 zAP.call s0 <|
 Q
def zAO.b1 (Q:K)  (X1:Int→Int→K) (s0_1:Sl) (i2_1:Int) (j3_1:Int):K :=
 Ite (decide (i2_1 < j3_1))
  (Dr <|
  Idx s0_1 j3_1 5 fun t20 =>
  Idx s0_1 i2_1 5 fun t24 =>
  LdN t20 5 fun t21 =>
  LdN t24 5 fun t25 =>
  Idx s0_1 i2_1 5 fun t26 =>
  StN t26 5 t21 <|
  Idx s0_1 j3_1 5 fun t27 =>
  StN t27 5 t25 <|
  Ar (IntKind.wrap .i64 (i2_1 + 1)) fun t11 =>
  Ar (IntKind.wrap .i64 (j3_1 - 1)) fun t13 =>
  X1 t11 t13)
  (Q)
def zAO (s0:Sl) (Q:K):K :=
 Ar (IntKind.wrap .i64 ((s0.n:Int) - 1)) fun t6 =>
 LoopK (α:=Int×Int) (fun X x=>zAO.b1 Q (fun i2_1 j3_1=>X (i2_1,j3_1)) s0 x.1 x.2) (0,t6)
def zAP.b1 (Q:K)  (X1:Int→Int→K) (s0_1:Sl) (i2_1:Int) (j3_1:Int):K :=
 Ite (decide (i2_1 < j3_1))
  (Dr <|
  Idx s0_1 j3_1 1 fun t20 =>
  Idx s0_1 i2_1 1 fun t24 =>
  Ld t20 Value.pointer fun t21 =>
  Ld t24 Value.pointer fun t25 =>
  Idx s0_1 i2_1 1 fun t26 =>
  St t26 (.pointer t21) <|
  Idx s0_1 j3_1 1 fun t27 =>
  St t27 (.pointer t25) <|
  Ar (IntKind.wrap .i64 (i2_1 + 1)) fun t11 =>
  Ar (IntKind.wrap .i64 (j3_1 - 1)) fun t13 =>
  X1 t11 t13)
  (Q)
def zAP (s0:Sl) (Q:K):K :=
 Ar (IntKind.wrap .i64 ((s0.n:Int) - 1)) fun t6 =>
 LoopK (α:=Int×Int) (fun X x=>zAP.b1 Q (fun i2_1 j3_1=>X (i2_1,j3_1)) s0 x.1 x.2) (0,t6)
end Go.Proofs.YtdemfamgieonbaaGreat
namespace Go.Proofs.YtdemfamgieonbaaGreat
open Go Go.Sep
set_option maxRecDepth 100000
set_option maxHeartbeats 4000000
attribute [local irreducible] G Gp Cx Tx Ex Sx Dx Ox Ax Lx Rx Fx Bx Bj Al Do Ld LdN St StN New CallF Ar DoU Rd Rd2 Pu Cd Ite Fv CallV CallY Ans0 Ans1 Ans2 Ans3 Ans4 Ans5 Ext Dead Dr WithS Sv LdS LdNS RdS Rd2S Nn Idx IdxA IdxS Fld Bld Slc SlcS Cat All LoopK RangeF RangeJ TakeD
namespace F_IRLibCmp
instance cb_189:CB Tryz.prog 189:=⟨by kernel_rfl⟩
instance cb_238:CB Tryz.prog 238:=⟨by kernel_rfl⟩
instance mx:MX Tryz.prog:=⟨mixed⟩
end F_IRLibCmp
def cmp_Less_int.s1 (Q:Bool→K)  (t4_1:Bool):K :=
 Q t4_1
def cmp_Less_int (x0:Int) (y1:Int) (Q:Bool→K):K :=
 cmp_isNaN_int.call x0 fun t6 =>
 Ite t6
  (cmp_isNaN_int.call y1 fun t9 =>
  Ite (!t9)
   (cmp_Less_int.s1 Q true)
   (cmp_Less_int.s1 Q (decide (x0 < y1))))
  (cmp_Less_int.s1 Q (decide (x0 < y1)))
def cmp_isNaN_int (x0:Int) (Q:Bool→K):K :=
 Q (decide (x0 ≠ x0))
def cmp_Less_string.s1 (Q:Bool→K)  (t4_1:Bool):K :=
 Q t4_1
def cmp_Less_string (x0:ByteArray) (y1:ByteArray) (Q:Bool→K):K :=
 cmp_isNaN_string.call x0 fun t6 =>
 Ite t6
  (cmp_isNaN_string.call y1 fun t9 =>
  Ite (!t9)
   (cmp_Less_string.s1 Q true)
   (cmp_Less_string.s1 Q (Op.bytesLess x0.toList y1.toList)))
  (cmp_Less_string.s1 Q (Op.bytesLess x0.toList y1.toList))
def zCr (x0:ByteArray) (y1:ByteArray) (Q:Int→K):K :=
 cmp_isNaN_string.call x0 fun t8 =>
 cmp_isNaN_string.call y1 fun t10 =>
 Ite t8
  (Ite t10
   (Q 0)
   (Q (-1)))
  (Ite t10
   (Q 1)
   (Ite (Op.bytesLess x0.toList y1.toList)
    (Q (-1))
    (Ite (!(Op.bytesLess x0.toList y1.toList || x0.toList == y1.toList))
     (Q 1)
     (Q 0))))
theorem zGz (x0:ByteArray) (y1:ByteArray) (Q:Int→K) (w:World) (h:zCr x0 y1 Q w):zCr.call x0 y1 Q w:=by
 exact g_walk 20 h Tryz.func232
def cmp_isNaN_string (x0:ByteArray) (Q:Bool→K):K :=
 Q (!(x0.toList == x0.toList))
theorem zH6 (x0:ByteArray) (Q:Bool→K) (w:World) (h:cmp_isNaN_string x0 Q w):cmp_isNaN_string.call x0 Q w:=by
 exact g_walk 6 h Tryz.func238
end Go.Proofs.YtdemfamgieonbaaGreat
namespace Go.Proofs.YtdemfamgieonbaaGreat
open Go Go.Sep Go.Sep.Bt
set_option maxRecDepth 100000
noncomputable def btS:BtT ByteArray where
 P:=Tryz.prog
 tI:=zFA
 tSI:=zEn
 tV:=zAv
 tK:=zEm
 tSK:=zEY
 tN:=zE8
 tT:=zE9
 nv:=4
 kz:=.string ⟨#[]⟩
 vz:=[.bool false,Sl.val ⟨none,0,0⟩,.int .i64 0,.int .u64 0]
 kV:=Value.string
 cv:=.func (.func 231) #[] #[]
 bsC:=zAA.call
 nsearchC:=zAs.call
 nputC:=zAM.call
 insIC:=zAI.call
 insKC:=zAR.call
 cloneIC:=zAb.call
 cloneKC:=zAc.call
def cmpS (a b:ByteArray):Int:=if a.toList < b.toList then -1 else if a.toList = b.toList then 0 else 1
theorem toList_inj {a b:ByteArray} (h:a.toList = b.toList):a = b:=by
 obtain ⟨x,rfl⟩:=bs_of a
 obtain ⟨y,rfl⟩:=bs_of b
 rw [zBp,zBp] at h
 rw [h]
theorem zER {a b:ByteArray}:cmpS a b < 0 ↔ a.toList < b.toList:=by
 unfold cmpS
 split
 ·simp [*]
 ·split <;> simp [*]
theorem zQF {a b:ByteArray}:cmpS a b = 0 ↔ a = b:=by
 unfold cmpS
 split
 ·rename_i h
  simp only [show ¬ ((-1:Int) = 0) by omega,false_iff]
  rintro rfl; exact List.lt_irrefl _ h
 ·split
  ·rename_i h; simp [toList_inj h]
  ·rename_i h
   simp only [show ¬ ((1:Int) = 0) by omega,false_iff]
   rintro rfl; exact h rfl
theorem zNI {x y:List UInt8} (h1:¬ x < y) (h2:¬ x = y):y < x:=by
 have h4:y ≤ x:=by rw [← List.not_lt]; exact h1
 rcases List.le_iff_lt_or_eq.1 h4 with h5 | h5
 ·exact h5
 ·exact absurd h5.symm h2
theorem zRa {a b:ByteArray}:0 < cmpS a b ↔ b.toList < a.toList:=by
 unfold cmpS
 split
 ·rename_i h
  simp only [show ¬ (0 < (-1:Int)) by omega,false_iff]
  exact fun h2=>List.lt_irrefl _ (List.lt_trans h h2)
 ·split
  ·rename_i h
   simp only [show ¬ (0 < (0:Int)) by omega,false_iff]
   rw [h]; exact List.lt_irrefl _
  ·rename_i h1 h2
   simp only [show 0 < (1:Int) by omega,true_iff]
   exact zNI h1 h2
theorem zKS {B:World} {Γ:List HProp} {x:ByteArray} {q:Bool→K} (h:HG B Γ (q false)):HG B Γ (cmp_isNaN_string.call x q):=fun w hw=>zH6 _ _ _ (by unfold cmp_isNaN_string; simpa using h w hw)
theorem zNJ {B:World} {Γ:List HProp} {x y:ByteArray} {q:Int→K} (h:HG B Γ (q (cmpS x y))):HG B Γ (zCr.call x y q):=fun w hw=>by
 refine zGz _ _ _ _ ?_
 refine hg hw ?_
 unfold zCr
 refine zKS (zKS ?_)
 refine s_f ?_ rfl
 refine s_f ?_ rfl
 rw [gt_dec,zD3]
 refine s_ite (fun h1=>?_) fun h1=>?_
 ·have e:cmpS x y = -1:=by unfold cmpS; rw [if_pos (by simpa using h1)]
  rw [e] at h; exact h
 refine s_ite (fun h2=>?_) fun h2=>?_
 ·have h3:y.toList < x.toList:=by simpa using h2
  have e:cmpS x y = 1:=by
   unfold cmpS
   rw [if_neg (by simpa using h1),if_neg fun h4=>by rw [h4] at h3; exact List.lt_irrefl _ h3]
  rw [e] at h; exact h
 ·have h3:¬ y.toList < x.toList:=by simpa using h2
  have e:cmpS x y = 0:=by
   unfold cmpS
   rw [if_neg (by simpa using h1),if_pos (Classical.byContradiction fun h4=>h3 (zNI (by simpa using h1) h4))]
  rw [e] at h; exact h
theorem btS_ok:BtOk btS cmpS where
 kf:=fun _=>rfl
 kzf:=rfl
 vz:=⟨rfl,rfl⟩
 TI:=by kernel_rfl
 ZI:=by kernel_rfl
 TK:=by kernel_rfl
 ZK:=by kernel_rfl
 tr:=fun h1 h2=>zER.2 (List.lt_trans (zER.1 h1) (zER.1 h2))
 eq:=zQF
 sw:=by intro a b; rw [zER,zRa]
 cmp:=fun a b vs q hl h=>by
  refine zSl ?_
  refine fun w hw=>zD0 _ _ _ _ ?_
  refine hg hw ?_
  clear hw w
  unfold zBo
  refine s_new fun t=>?_
  refine s_ld (b:=t) (x:=a) ?_
  refine zNJ ?_
  exact s_end h
 bs:=fun s k Q w h=>zBn _ _ _ _ _ h
 search:=fun n k Q w h=>zD7 _ _ _ _ h
 put:=fun n x Q w h=>zEe _ _ _ _ h
 insI:=⟨_,_,fun s i v Q w h=>zB4 _ _ _ _ _ h⟩
 insK:=⟨_,_,fun s i v Q w h=>zB5 _ _ _ _ _ h⟩
 cloneI:=fun s Q w h=>zCD _ _ _ h
 cloneK:=fun s Q w h=>zCE _ _ _ h
section
variable {B:World} {Γ:List HProp}
theorem zPP {Q:Option Addr→K} (h:∀ t,HG B (TreeR btS cmpS t []::Γ) (Q (some ⟨t,0,none⟩))):HG B Γ (zBx.call Q):=fun w hw =>
 zFM _ _ (show tnew btS Q w from hg hw (zP0 h))
theorem zPQ {t:Nat} {L:List btS.It} {k:ByteArray} {Q:Array Value→Bool→K} (hfound:∀ A v C,L = A++(k,v)::C→HG B (TreeR btS cmpS t L::Γ) (Q v.1.toArray true)) (hnot:(∀ A C,L = A++C→(∀ x ∈ A,cmpS x.1 k < 0)→(∀ x ∈ C,cmpS k x.1 < 0)→HG B (TreeR btS cmpS t L::Γ) (Q btS.vz.toArray false))) :
  HG B (TreeR btS cmpS t L::Γ) (zAz.call (some ⟨t,0,none⟩) k Q):=fun w hw =>
 zEc _ _ _ _ (show tget btS (some ⟨t,0,none⟩) k Q w from hg hw (zP2 btS_ok hfound hnot))
theorem zPR {t:Nat} {L:List btS.It} {k:ByteArray} {v:Cel btS.nv} {Q:Array Value→Bool→K} (hL:L.length < 1000000000) (h:∀ L' old had,PutR cmpS (btS.z0 btS_ok.vz) L k v L' old had→HG B (TreeR btS cmpS t L'::Γ) (Q old.1.toArray had)) :
  HG B (TreeR btS cmpS t L::Γ) (zAE.call (some ⟨t,0,none⟩) k v.1.toArray Q):=fun w hw =>
 zEd _ _ _ _ _ (show tput btS (some ⟨t,0,none⟩) k v.1.toArray Q w from hg hw (zP1 btS_ok hL h))
end
end Go.Proofs.YtdemfamgieonbaaGreat
namespace Go.Proofs.YtdemfamgieonbaaGreat
open Go Go.Sep
set_option maxRecDepth 100000
set_option maxHeartbeats 4000000
attribute [local irreducible] G Gp Cx Tx Ex Sx Dx Ox Ax Lx Rx Fx Bx Bj Al Do Ld LdN St StN New CallF Ar DoU Rd Rd2 Pu Cd Ite Fv CallV CallY Ans0 Ans1 Ans2 Ans3 Ans4 Ans5 Ext Dead Dr WithS Sv LdS LdNS RdS Rd2S Nn Idx IdxA IdxS Fld Bld Slc SlcS Cat All LoopK RangeF RangeJ TakeD
namespace F_IRLibBytes
instance mx:MX Tryz.prog:=⟨mixed⟩
instance sl_85:SLT Tryz.prog 85 5 1:=⟨by kernel_rfl⟩
instance un_85:UN Tryz.prog 85 (.slice 5):=⟨Tryz.underlying85⟩
instance zt_5:ZT Tryz.prog 5 (.int .u8 0):=⟨Tryz.t5,by kernel_rfl,by kernel_rfl⟩
end F_IRLibBytes
def zBZ (b0:Sl) (Q:Sl→K):K :=
 Ite ((b0).a.isNone)
  (Q (Sl.mk none 0 0))
  (New 5 #[] fun t5 =>
  Do Tryz.prog (Builtin.append_ #[85,85] 85 #[(Sl.val (Sl.mk (some t5) 0 0)),(Sl.val b0)]) Sl.val fun t7 =>
  Q t7)
theorem zG0 (b0:Sl) (Q:Sl→K) (w:World) (h:zBZ b0 Q w):zBZ.call b0 Q w:=by
 exact g_walk 8 h Tryz.func110
def bytes_Equal (a0:Sl) (b1:Sl) (Q:Bool→K):K :=
 Rd Tryz.prog (convert 85 9 (Sl.val a0)) Value.string fun t6 =>
 Rd Tryz.prog (convert 85 9 (Sl.val b1)) Value.string fun t8 =>
 Q (t6.toList == t8.toList)
theorem zLA (a0:Sl) (b1:Sl) (Q:Bool→K) (w:World) (h:bytes_Equal a0 b1 Q w):bytes_Equal.call a0 b1 Q w:=by
 exact g_walk 10 h Tryz.func225
end Go.Proofs.YtdemfamgieonbaaGreat
namespace Go.Proofs.YtdemfamgieonbaaGreat
open Go Go.Sep
section
variable {B w:World} {Γ:List HProp}
theorem zJl {b:Sl} {xs:List UInt8} {k:Sl→K} (h:Holds B Γ w) (hr:∀ w,Holds B Γ w→RdB w b xs) (hl:xs.length ≤ 1000000000)
  (hk:∀ s w,Holds B (Bytes zAe s xs::Γ) w→s.a.isNone = b.a.isNone→k s w):zBZ.call b k w:=by
 refine zG0 _ _ _ ?_
 unfold zBZ
 refine r_ite (fun hb=>?_) (fun hb=>?_)
 ·have hx:xs = []:=by
   have h1:=(hr w h).nil (by simpa using hb)
   have h2:=(hr w h).len
   rw [h1] at h2; simpa using h2
  subst hx
  exact hk _ _ (h.nilSl _ _) (by rw [hb]; rfl)
 ·refine r_new h ?_
  clear h
  intro t w h
  try simp only [add_mk,Nat.zero_add,Nat.reduceAdd]
  have hn:b.n = xs.length:=by have h2:=(hr w h.tail).len; simpa using h2.symm
  refine zJe (vs:=[]) (h.imp (zEU rfl rfl)) (by kernel_rfl) (by kernel_rfl) (by':=1) (by kernel_rfl) zMU rfl (hr w h.tail) (zFy _) (by simp only [hn]; omega) (by decide) fun s w h hs ha=>?_
  refine hk s w h ?_
  rw [hb]
  have:=ha rfl
  cases hh:s.a <;> simp [hh] at this ⊢
end
end Go.Proofs.YtdemfamgieonbaaGreat
namespace Go.Proofs.YtdemfamgieonbaaGreat
open Go Go.Sep
set_option maxRecDepth 100000
set_option maxHeartbeats 4000000
attribute [local irreducible] G Gp Cx Tx Ex Sx Dx Ox Ax Lx Rx Fx Bx Bj Al Do Ld LdN St StN New CallF Ar DoU Rd Rd2 Pu Cd Ite Fv CallV CallY Ans0 Ans1 Ans2 Ans3 Ans4 Ans5 Ext Dead Dr WithS Sv LdS LdNS RdS Rd2S Nn Idx IdxA IdxS Fld Bld Slc SlcS Cat All LoopK RangeF RangeJ TakeD
namespace F_IRStore
instance at_87:AT Tryz.prog 87 4:=⟨by kernel_rfl⟩
instance cb_108:CB Tryz.prog 108:=⟨by kernel_rfl⟩
instance cb_109:CB Tryz.prog 109:=⟨by kernel_rfl⟩
instance cb_110:CB Tryz.prog 110:=⟨by kernel_rfl⟩
instance cb_161:CB Tryz.prog 161:=⟨by kernel_rfl⟩
instance cb_162:CB Tryz.prog 162:=⟨by kernel_rfl⟩
instance cb_229:CB Tryz.prog 229:=⟨by kernel_rfl⟩
instance cb_242:CB Tryz.prog 242:=⟨by kernel_rfl⟩
instance cb_243:CB Tryz.prog 243:=⟨by kernel_rfl⟩
instance cb_85:CB Tryz.prog 85:=⟨by kernel_rfl⟩
instance ct_191:CT Tryz.prog 191:=⟨by kernel_rfl⟩
instance ct_3:CT Tryz.prog 3:=⟨by kernel_rfl⟩
instance ct_33:CT Tryz.prog 33:=⟨by kernel_rfl⟩
instance ct_4:CT Tryz.prog 4:=⟨by kernel_rfl⟩
instance ct_56:CT Tryz.prog 56:=⟨by kernel_rfl⟩
instance ct_85:CT Tryz.prog 85:=⟨by kernel_rfl⟩
instance zUC:FT Tryz.prog 194 0 0 1:=⟨by kernel_rfl⟩
instance zUD:FT Tryz.prog 194 1 1 1:=⟨by kernel_rfl⟩
instance zLB:FT Tryz.prog 87 0 0 1:=⟨by kernel_rfl⟩
instance zLC:FT Tryz.prog 87 1 1 1:=⟨by kernel_rfl⟩
instance zLD:FT Tryz.prog 87 2 2 1:=⟨by kernel_rfl⟩
instance zLE:FT Tryz.prog 87 3 3 1:=⟨by kernel_rfl⟩
instance in_3:INT Tryz.prog 3 .i64:=⟨by kernel_rfl⟩
instance in_5:INT Tryz.prog 5 .u8:=⟨by kernel_rfl⟩
instance mx:MX Tryz.prog:=⟨mixed⟩
instance pl_173:PLT Tryz.prog 173 [(0,1),(1,4)]:=⟨_,Tryz.underlying173,by kernel_rfl⟩
instance pl_194:PLT Tryz.prog 194 [(0,1),(1,1)]:=⟨_,Tryz.underlying194,by kernel_rfl⟩
instance sl_56:SLT Tryz.prog 56 173 5:=⟨by kernel_rfl⟩
instance st_9:STT Tryz.prog 9:=⟨by kernel_rfl⟩
instance sz_3:SZ Tryz.prog 3 1:=⟨by kernel_rfl⟩
instance sz_33:SZ Tryz.prog 33 1:=⟨by kernel_rfl⟩
instance sz_4:SZ Tryz.prog 4 1:=⟨by kernel_rfl⟩
instance sz_56:SZ Tryz.prog 56 1:=⟨by kernel_rfl⟩
instance sz_85:SZ Tryz.prog 85 1:=⟨by kernel_rfl⟩
instance sz_87:SZ Tryz.prog 87 4:=⟨by kernel_rfl⟩
instance zt_173:ZT Tryz.prog 173 (.agg #[(.string ⟨#[]⟩),(.bool false),(Sl.val ⟨none,0,0⟩),(.int .i64 0),(.int .u64 0)]):=⟨Tryz.t173,by kernel_rfl,by kernel_rfl⟩
instance zt_194:ZT Tryz.prog 194 (.agg #[(.int .i64 0),(.pointer none)]):=⟨Tryz.t194,by kernel_rfl,by kernel_rfl⟩
instance zt_56:ZT Tryz.prog 56 (Sl.val ⟨none,0,0⟩):=⟨Tryz.t56,by kernel_rfl,by kernel_rfl⟩
instance zt_87:ZT Tryz.prog 87 (.agg #[(.bool false),(Sl.val ⟨none,0,0⟩),(.int .i64 0),(.int .u64 0)]):=⟨Tryz.t87,by kernel_rfl,by kernel_rfl⟩
end F_IRStore
def zDL.s1 (Q:(Option Addr)→Int→K)  (regions0_1:Int) (t9_1:Bool):K :=
 Ite t9_1
  (Q none 1)
  (zBx.call  fun t11 =>
  New 194 #[(.int .i64 regions0_1),(.pointer t11)] fun t13 =>
  Q (some t13) 0)
def zDL (regions0:Int) (Q:(Option Addr)→Int→K):K :=
 Ite (decide (regions0 < 1))
  (zDL.s1 Q regions0 true)
  (zDL.s1 Q regions0 (decide ((3:Int) < regions0)))
theorem zNK (regions0:Int) (Q:(Option Addr)→Int→K) (w:World) (h:zDL regions0 Q w):zDL.call regions0 Q w:=by
 have hJ2:JH 2 fun D=>∃ (regions0_1:Int),D [(0,(.int .i64 regions0_1))] (fun C=>∀ (t9_1:Bool),C [(0,(.int .i64 regions0_1)),(9,(.bool t9_1))] (zDL.s1 Q regions0_1 t9_1)):=by intros; exact ⟨fun _ ⟨_,h⟩=>⟨_,_,h⟩⟩
 exact g_walk 14 h Tryz.func46
def zDE (s0:(Option Addr)) (Q:Sl→K):K :=
 New 56 #[(Sl.val ⟨none,0,0⟩)] fun out2 =>
 Nn s0 fun t6 =>
 Ld (t6.add 1) Value.pointer fun t8 =>
 zBj.call t8 fun t9 =>
 RangeJ Tryz.prog t9 .ret (fun x:ByteArray×(Array Value)=>[(.string x.1),(.agg x.2)]) (fun BG1 KN1 KJ1 x =>
  New 87 #[(.bool false),(Sl.val ⟨none,0,0⟩),(.int .i64 0),(.int .u64 0)] fun r4 =>
  StN r4 4 x.2 <|
  BG1 <|
  Ld (r4.add 1) Sl.val fun t13 =>
  zBZ.call t13 fun t14 =>
  St (r4.add 1) (Sl.val t14) <|
  Ld out2 Sl.val fun t16 =>
  LdN r4 4 fun t18 =>
  Bld #[(.string ⟨#[]⟩),(.bool false),(Sl.val ⟨none,0,0⟩),(.int .i64 0),(.int .u64 0)] ([(0,1),(1,4)][·]?) [(0,(.string x.1)),(1,(.agg t18))] fun t19 =>
  Bld #[(.string ⟨#[]⟩),(.bool false),(Sl.val ⟨none,0,0⟩),(.int .i64 0),(.int .u64 0)] (fun i=>some (i * 5,5)) [(0,(.agg t19))] fun ct20 =>
  New 173 ct20 fun t20 =>
  Do Tryz.prog (Builtin.append_ #[56,56] 56 #[(Sl.val t16),(Sl.val (Sl.mk (some t20) 1 1))]) Sl.val fun t21 =>
  St out2 (Sl.val t21) <|
  KN1)
  (fun D1 =>
   Ld out2 Sl.val fun t22 =>
   St out2 (Sl.val t22) <|
   TakeD D1 <|
   Ld out2 Sl.val fun r0 =>
   Q r0)
  (fun D1 =>
   Dead)
theorem zH7 (s0:(Option Addr)) (Q:Sl→K) (w:World) (h:zDE s0 Q w):zDE.call s0 Q w:=by
 exact g_walk 23 h Tryz.func63
def zAt.s1 (Q:(Array Value)→K)  (t4_1:Addr) (r5_1:Addr):K :=
 Ld (r5_1.add 1) Sl.val fun t26 =>
 zBZ.call t26 fun t27 =>
 St (r5_1.add 1) (Sl.val t27) <|
 LdN r5_1 4 fun t29 =>
 StN t4_1 4 t29 <|
 LdN t4_1 4 fun r0 =>
 Q r0
def zAt (s0:(Option Addr)) (key1:ByteArray) (Q:(Array Value)→K):K :=
 New 87 #[(.bool false),(Sl.val ⟨none,0,0⟩),(.int .i64 0),(.int .u64 0)] fun t4 =>
 Nn s0 fun t9 =>
 Ld (t9.add 1) Value.pointer fun t11 =>
 zAz.call t11 key1 fun t13x0 t13x1 =>
 New 87 #[(.bool false),(Sl.val ⟨none,0,0⟩),(.int .i64 0),(.int .u64 0)] fun r5 =>
 StN r5 4 t13x0 <|
 Ite (!t13x1)
  (Ld t9 (Value.int .i64) fun t22 =>
  zCU.call key1 t22 fun t23 =>
  St (r5.add 2) (.int .i64 t23) <|
  zAt.s1 Q t4 r5)
  (zAt.s1 Q t4 r5)
theorem zIT (s0:(Option Addr)) (key1:ByteArray) (Q:(Array Value)→K) (w:World) (h:zAt s0 key1 Q w):zAt.call s0 key1 Q w:=by
 have hJ4:JH 4 fun D=>∃ (t4_1:Addr) (r5_1:Addr),D [(4,(.pointer (some t4_1))),(5,(.pointer (some r5_1)))] (fun C=>C [(4,(.pointer (some t4_1))),(5,(.pointer (some r5_1)))] (zAt.s1 Q t4_1 r5_1)):=by intros; exact ⟨fun _ ⟨_,_,h⟩=>⟨_,_,h⟩⟩
 exact g_walk 30 h Tryz.func108
def zCU.b1 (Q:Int→K)  (X1:Int→Int→K) (key0_1:ByteArray) (regions1_1:Int) (t10_1:Int) (sum5_1:Int) (t11_1:Int):K :=
 Ite (decide (t11_1 < t10_1))
  (IdxS key0_1 t11_1 fun t17 =>
  Ar (IntKind.wrap .i64 t17) fun t18 =>
  Ar (IntKind.wrap .i64 (sum5_1 + t18)) fun t19 =>
  Cd (regions1_1 ≠ 0) <|
  Ar (Int.tmod t19 regions1_1) fun t21 =>
  Ar (IntKind.wrap .i64 (t11_1 + 1)) fun t22 =>
  X1 t21 t22)
  (Q sum5_1)
def zCU (key0:ByteArray) (regions1:Int) (Q:Int→K):K :=
 Ite (decide (regions1 < 1))
  (Q 0)
  (LoopK (α:=Int×Int) (fun X x=>zCU.b1 Q (fun sum5_1 t11_1=>X (sum5_1,t11_1)) key0 regions1 (key0.size:Int) x.1 x.2) (0,0))
theorem zJm (key0:ByteArray) (regions1:Int) (Q:Int→K) (w:World) (h:zCU key0 regions1 Q w):zCU.call key0 regions1 Q w:=by
 have hL5:∀ (key0_1:ByteArray) (regions1_1:Int) (t10_1:Int),LH 5 (fun x:Int×Int=>[(0,(.string key0_1)),(1,(.int .i64 regions1_1)),(5,(.int .i64 x.1)),(10,(.int .i64 t10_1)),(11,(.int .i64 x.2))]) (fun X x=>zCU.b1 Q (fun sum5_1 t11_1=>X (sum5_1,t11_1)) key0_1 regions1_1 t10_1 x.1 x.2):=by intros; exact ⟨⟩
 exact g_walk 24 h Tryz.func162
def zBN.s1 (Q:Int→K)  (s0_1:(Option Addr)) (key1_1:ByteArray) (home2_1:Int) (r7_1:Addr) (t11_1:Bool):K :=
 Ite t11_1
  (Q 1)
  (Ld (r7_1.add 3) (Value.int .u64) fun t24 =>
  Ite (decide (t24 = 18446744073709551615))
   (Q 111)
   (St (r7_1.add 2) (.int .i64 home2_1) <|
   Ld (r7_1.add 3) (Value.int .u64) fun t29 =>
   Ar (IntKind.wrap .u64 (t29 + 1)) fun t30 =>
   St (r7_1.add 3) (.int .u64 t30) <|
   LdN r7_1 4 fun t34 =>
   zA6.call s0_1 key1_1 t34 <|
   Q 0))
def zBN (s0:(Option Addr)) (key1:ByteArray) (home2:Int) (Q:Int→K):K :=
 zAt.call s0 key1 fun t10 =>
 New 87 #[(.bool false),(Sl.val ⟨none,0,0⟩),(.int .i64 0),(.int .u64 0)] fun r7 =>
 StN r7 4 t10 <|
 Ite (decide (home2 < 0))
  (zBN.s1 Q s0 key1 home2 r7 true)
  (Nn s0 fun t17 =>
  Ld t17 (Value.int .i64) fun t19 =>
  zBN.s1 Q (some t17) key1 home2 r7 (decide (t19 ≤ home2)))
theorem zH8 (s0:(Option Addr)) (key1:ByteArray) (home2:Int) (Q:Int→K) (w:World) (h:zBN s0 key1 home2 Q w):zBN.call s0 key1 home2 Q w:=by
 have hJ3:JH 3 fun D=>∃ (s0_1:(Option Addr)) (key1_1:ByteArray) (home2_1:Int) (r7_1:Addr),D [(0,(.pointer s0_1)),(1,(.string key1_1)),(2,(.int .i64 home2_1)),(7,(.pointer (some r7_1)))] (fun C=>∀ (t11_1:Bool),C [(0,(.pointer s0_1)),(1,(.string key1_1)),(2,(.int .i64 home2_1)),(7,(.pointer (some r7_1))),(11,(.bool t11_1))] (zBN.s1 Q s0_1 key1_1 home2_1 r7_1 t11_1)):=by intros; exact ⟨fun _ ⟨_,_,_,_,h⟩=>⟨_,_,h⟩⟩
 exact g_walk 36 h Tryz.func197
def zDP (s0:(Option Addr)) (key1:ByteArray) (value2:Sl) (Q:K):K :=
 zAt.call s0 key1 fun t9 =>
 New 87 #[(.bool false),(Sl.val ⟨none,0,0⟩),(.int .i64 0),(.int .u64 0)] fun r6 =>
 StN r6 4 t9 <|
 zBZ.call value2 fun t11 =>
 St r6 (.bool true) <|
 St (r6.add 1) (Sl.val t11) <|
 LdN r6 4 fun t16 =>
 zA6.call s0 key1 t16 <|
 Q
theorem zIU (s0:(Option Addr)) (key1:ByteArray) (value2:Sl) (Q:K) (w:World) (h:zDP s0 key1 value2 Q w):zDP.call s0 key1 value2 Q w:=by
 exact g_walk 18 h Tryz.func198
def zCq (s0:(Option Addr)) (key1:ByteArray) (Q:K):K :=
 zAt.call s0 key1 fun t7 =>
 New 87 #[(.bool false),(Sl.val ⟨none,0,0⟩),(.int .i64 0),(.int .u64 0)] fun r4 =>
 StN r4 4 t7 <|
 St r4 (.bool false) <|
 St (r4.add 1) (Sl.val (Sl.mk none 0 0)) <|
 LdN r4 4 fun t12 =>
 zA6.call s0 key1 t12 <|
 Q
theorem zG1 (s0:(Option Addr)) (key1:ByteArray) (Q:K) (w:World) (h:zCq s0 key1 Q w):zCq.call s0 key1 Q w:=by
 exact g_walk 14 h Tryz.func199
def zA6.s1 (Q:K)  (s0_1:(Option Addr)) (key1_1:ByteArray) (r5_1:Addr) (t13_1:Bool):K :=
 Ite t13_1
  (Nn s0_1 fun t15 =>
  Ld (t15.add 1) Value.pointer fun t17 =>
  zAD.call t17 key1_1 fun t19x0 t19x1 =>
  Q)
  (Dr <|
  Nn s0_1 fun t21 =>
  Ld (t21.add 1) Value.pointer fun t23 =>
  LdN r5_1 4 fun t25 =>
  zAE.call t23 key1_1 t25 fun t26x0 t26x1 =>
  Q)
def zA6 (s0:(Option Addr)) (key1:ByteArray) (r2:(Array Value)) (Q:K):K :=
 New 87 r2 fun r5 =>
 Ld r5 Value.bool fun t7 =>
 Ite (!t7)
  (Ld (r5.add 3) (Value.int .u64) fun t11 =>
  zA6.s1 Q s0 key1 r5 (decide (t11 = 0)))
  (zA6.s1 Q s0 key1 r5 false)
theorem zFl (s0:(Option Addr)) (key1:ByteArray) (r2:(Array Value)) (Q:K) (w:World) (h:zA6 s0 key1 r2 Q w):zA6.call s0 key1 r2 Q w:=by
 have hD3:DH 3 1 [6] (.s [0,1,2,4,3,5] (.a [(6,0,.e)])):=by intros; exact ⟨⟩
 have hJ2:JH 2 fun D=>∃ (s0_1:(Option Addr)) (key1_1:ByteArray) (r5_1:Addr),D [(0,(.pointer s0_1)),(1,(.string key1_1)),(5,(.pointer (some r5_1)))] (fun C=>∀ (t13_1:Bool),C [(0,(.pointer s0_1)),(1,(.string key1_1)),(5,(.pointer (some r5_1))),(13,(.bool t13_1))] (zA6.s1 Q s0_1 key1_1 r5_1 t13_1)):=by intros; exact ⟨fun _ ⟨_,_,_,h⟩=>⟨_,_,h⟩⟩
 exact g_walk 27 h Tryz.func229
end Go.Proofs.YtdemfamgieonbaaGreat
namespace Go.Proofs.YtdemfamgieonbaaGreat
open Go Go.Sep Go.Sep.Bt
set_option maxRecDepth 100000
structure Rec where
 has:Bool
 val:List UInt8
 home:Int
 cnt:Int
def Rec.ok (r:Rec):Prop:=0 ≤ r.cnt∧r.cnt ≤ 18446744073709551615∧r.val.length ≤ 1000000000
abbrev recL (r:Rec) (s:Sl):List Value:=[.bool r.has,s.val,.int .i64 r.home,.int .u64 r.cnt]
abbrev recA (r:Rec) (s:Sl):Array Value:=#[.bool r.has,s.val,.int .i64 r.home,.int .u64 r.cnt]
abbrev recC (x:Rec×Sl):Cel 4:=⟨recL x.1 x.2,rfl,rfl⟩
abbrev Recs:=List (ByteArray×Rec)
abbrev RecX:=ByteArray×(Rec×Sl)
abbrev recB (x:RecX):HProp:=Bytes zAe x.2.2 x.2.1.val
abbrev recI (x:RecX):btS.It:=(x.1,recC x.2)
abbrev recM (x:RecX):ByteArray×Rec:=(x.1,x.2.1)
def homeOf (k:List UInt8) (n:Nat):Nat:=k.foldl (fun s b=>(s + b.toNat) % n) 0
def getM (M:Recs) (k:ByteArray):Option Rec:=(M.find? fun x=>decide (x.1 = k)).map Prod.snd
def putM (M:Recs) (k:ByteArray) (r:Rec):Recs:=match M with
 | []=>[(k,r)]
 | x::M=>if cmpS x.1 k < 0 then x::putM M k r else if x.1 = k then (k,r)::M else (k,r)::x::M
def sGet (n:Nat) (M:Recs) (k:ByteArray):Rec:=(getM M k).getD ⟨false,[],homeOf k.toList n,0⟩
def sMove (n:Nat) (M:Recs) (k:ByteArray) (h:Int):Recs×Int :=
 if h < 0∨(n:Int) ≤ h then (M,1) else if (sGet n M k).cnt = 18446744073709551615 then (M,111) else (putM M k { sGet n M k with home:=h,cnt:=(sGet n M k).cnt + 1 },0)
theorem zNL (M:Recs) (k:ByteArray) (r:Rec):(putM M k r).length ≤ M.length + 1:=by
 induction M with
 | nil=>simp [putM]
 | cons x M ih =>
  unfold putM
  split
  ·simp; omega
  ·split <;> simp
theorem zRb {M:Recs} {k:ByteArray} {r:Rec} {x:ByteArray×Rec} (h:x ∈ putM M k r):x = (k,r)∨x ∈ M:=by
 induction M with
 | nil=>simpa [putM] using h
 | cons y M ih =>
  unfold putM at h
  split at h
  ·rcases List.mem_cons.1 h with rfl | h
   ·exact .inr List.mem_cons_self
   ·rcases ih h with h | h
    ·exact .inl h
    ·exact .inr (List.mem_cons_of_mem _ h)
  ·split at h
   ·rcases List.mem_cons.1 h with rfl | h
    ·exact .inl rfl
    ·exact .inr (List.mem_cons_of_mem _ h)
   ·rcases List.mem_cons.1 h with rfl | h
    ·exact .inl rfl
    ·exact .inr h
theorem zRc {M:Recs} {k:ByteArray} {r:Rec} (h:getM M k = some r):(k,r) ∈ M:=by
 simp only [getM,Option.map_eq_some_iff] at h
 obtain ⟨x,hx,rfl⟩:=h
 have h1:=List.mem_of_find?_eq_some hx
 have h2:=List.find?_some hx
 simp only [decide_eq_true_eq] at h2
 rw [← h2]; exact h1
theorem zRd {A C:Recs} {k:ByteArray} {r:Rec} (hA:∀ x ∈ A,x.1 ≠ k):getM (A++(k,r)::C) k = some r:=by
 unfold getM
 rw [List.find?_append,List.find?_eq_none.2 (fun x hx=>by simpa using hA x hx)]
 simp
theorem zQG {M:Recs} {k:ByteArray} (h:∀ x ∈ M,x.1 ≠ k):getM M k = none:=by
 unfold getM
 rw [List.find?_eq_none.2 (fun x hx=>by simpa using h x hx)]; rfl
theorem zRe {A C:Recs} {k:ByteArray} {r0 r:Rec} (hA:∀ x ∈ A,cmpS x.1 k < 0):putM (A++(k,r0)::C) k r = A++(k,r)::C:=by
 induction A with
 | nil =>
  have:¬ cmpS k k < 0:=fun h=>List.lt_irrefl _ (zER.1 h)
  simp [putM,this]
 | cons x A ih =>
  rw [List.cons_append,putM,if_pos (hA x List.mem_cons_self),ih (fun y hy=>hA y (List.mem_cons_of_mem _ hy))]; rfl
theorem zRf {A C:Recs} {k:ByteArray} {r:Rec} (hA:∀ x ∈ A,cmpS x.1 k < 0) (hC:∀ x ∈ C,cmpS k x.1 < 0):putM (A++C) k r = A++(k,r)::C:=by
 induction A with
 | nil =>
  cases C with
  | nil=>rfl
  | cons y C =>
   have h:=zER.1 (hC y List.mem_cons_self)
   have h1:¬ cmpS y.1 k < 0:=fun h2=>List.lt_irrefl _ (List.lt_trans h (zER.1 h2))
   have h2:¬ y.1 = k:=fun e=>by rw [e] at h; exact List.lt_irrefl _ h
   simp [putM,h1,h2]
 | cons x A ih =>
  rw [List.cons_append,putM,if_pos (hA x List.mem_cons_self),ih (fun y hy=>hA y (List.mem_cons_of_mem _ hy))]; rfl
def StoreR (st n:Nat) (M:Recs):HProp:=ex fun t=>ex fun X:List RecX=>Sep.stars [pur (M = X.map recM∧(∀ x ∈ M,x.2.ok)∧1 ≤ n∧n ≤ 3),blk st (.cells [.int .i64 n,.pointer (some ⟨t,0,none⟩)].toArray zA2 (0,0)),TreeR btS cmpS t (X.map recI),Sep.stars (X.map recB)]
section
variable {B:World} {Γ Δ:List HProp}
instance (priority:=high) zTx {st n:Nat} {M:Recs}:Sep.Own st (StoreR st n M::Γ) (StoreR st n M) Γ:=⟨.refl _⟩
theorem zG2 {st n:Nat} {M:Recs} {k:K} (h:∀ t (X:List RecX),M = X.map recM→(∀ x ∈ M,x.2.ok)→1 ≤ n→n ≤ 3→HG B (blk st (.cells [.int .i64 n,.pointer (some ⟨t,0,none⟩)].toArray zA2 (0,0))::TreeR btS cmpS t (X.map recI)::Sep.stars (X.map recB)::Γ) k):HG B (StoreR st n M::Γ) k :=
 s_ex fun t=>s_ex fun X=>s_flat <| s_pur fun ⟨h1,h2,h3,h4⟩=>h t X h1 h2 h3 h4
theorem zDl {st n t:Nat} {X:List RecX} {k:K} (h2:∀ x ∈ X.map recM,x.2.ok) (h3:1 ≤ n) (h4:n ≤ 3) (h:HG B (StoreR st n (X.map recM)::Γ) k):HG B (blk st (.cells [.int .i64 n,.pointer (some ⟨t,0,none⟩)].toArray zA2 (0,0))::TreeR btS cmpS t (X.map recI)::Sep.stars (X.map recB)::Γ) k:=fun w hw=>by
 refine h w ?_
 have h3:Holds B (Sep.stars [pur (X.map recM = X.map recM∧(∀ x ∈ X.map recM,x.2.ok)∧1 ≤ n∧n ≤ 3),blk st (.cells [.int .i64 n,.pointer (some ⟨t,0,none⟩)].toArray zA2 (0,0)),TreeR btS cmpS t (X.map recI),Sep.stars (X.map recB)]::Γ) w:=Holds.flat.2 (Holds.pur.2 ⟨⟨rfl,h2,h3,h4⟩,hw⟩)
 exact h3.imp fun g hg=>⟨t,X,hg⟩
theorem zNM {k:ByteArray} {n:Nat} {q:Int→K} (h1:1 ≤ n) (hn:n ≤ 1000) (hk:k.size < 1000000000000) (h:HG B Γ (q (homeOf k.toList n:Nat))):HG B Γ (zCU.call k n q):=fun w hw=>by
 refine zJm _ _ _ _ ?_
 refine hg hw ?_
 clear hw w
 unfold zCU
 refine s_f ?_
 obtain ⟨l,rfl⟩:=bs_of k
 rw [zBp] at h
 have hsz:(bs l).size = l.length:=rfl
 refine zDA (fun x:Int×Int=>∃ i s:Nat,x = ((s:Int),(i:Int))∧i ≤ l.length∧s = homeOf (l.take i) n∧s < n) (fun x=>l.length - x.2.toNat) ⟨0,0,rfl,Nat.zero_le _,rfl,by omega⟩ fun k' x hx hk'=>?_
 obtain ⟨i,s,rfl,hi,hs,hsn⟩:=hx
 unfold zCU.b1
 dsimp only
 refine s_ite (fun hb=>?_) fun hb=>?_
 ·have hil:i < l.length:=by simp only [decide_eq_true_eq] at hb; omega
  refine fun w hw=>⟨(l[i].toNat:Int),l[i],by omega,?_,rfl,hg hw ?_⟩
  ·show (bs l)[((i:Nat):Int).toNat]? = _
   rw [Int.toNat_natCast]
   exact Array.getElem?_eq_getElem (xs:=l.toArray) (by simpa using hil)
  have hb8:l[i].toNat < 256:=l[i].toNat_lt
  refine s_ai ?_
  refine s_ai ?_
  refine s_cd (by omega) ?_
  refine s_ar (e':=(((s + l[i].toNat) % n:Nat):Int)) ?_ ?_
  ·rw [Int.tmod_eq_emod_of_nonneg (by omega)]; simp
  refine s_ai ?_
  refine hk' _ ⟨i + 1,(s + l[i].toNat) % n,by simp,hil,?_,Nat.mod_lt _ (by omega)⟩ (by simp only; omega)
  rw [hs,List.take_succ_eq_append_getElem hil,homeOf,homeOf,List.foldl_append]; rfl
 ·have hil:i = l.length:=by simp only [decide_eq_false_iff_not] at hb; omega
  rw [hil,List.take_length] at hs
  rw [hs]
  exact h
theorem zDh {b:Sl} {xs:List UInt8} {q:Sl→K} (hr:∀ w,Holds B Γ w→RdB w b xs) (hl:xs.length ≤ 1000000000) (hk:∀ s,s.a.isNone = b.a.isNone→HG B (Bytes zAe s xs::Γ) (q s)):HG B Γ (zBZ.call b q):=fun w hw =>
 zJl hw hr hl fun s w h hs=>hk s hs w h
theorem zMX {n:Nat} {q:Option Addr→Int→K} (h1:1 ≤ n) (h3:n ≤ 3) (h:∀ st,HG B (StoreR st n []::Γ) (q (some ⟨st,0,none⟩) 0)):HG B Γ (zDL.call n q):=fun w hw=>by
 refine zNK _ _ _ ?_
 refine hg hw ?_
 clear hw w
 unfold zDL
 refine s_f ?_
 unfold zDL.s1
 refine s_f ?_
 refine zPP fun t=>?_
 show HG B (TreeR btS cmpS t (([]:List RecX).map recI)::Γ) _
 refine s_new fun st=>?_
 refine fun w hw=>?_
 refine hg (show Holds B (Sep.stars (([]:List RecX).map recB)::_) w from Holds.flat.2 hw) ?_
 refine s_end (Δ:=blk st (.cells [.int .i64 n,.pointer (some ⟨t,0,none⟩)].toArray zA2 (0,0))::TreeR btS cmpS t (([]:List RecX).map recI)::Sep.stars (([]:List RecX).map recB)::Γ) ?_
 exact zDl (by simp) h1 h3 (h st)
theorem zIV {X:List RecX} {A C:List btS.It} {k:ByteArray} {v:Cel btS.nv} (e:X.map recI = A++((k,v):btS.It)::C):∃ XA r XC,X = XA++(k,r)::XC∧A = XA.map recI∧C = XC.map recI∧v = recC r:=by
 obtain ⟨XA,X2,rfl,rfl,h2⟩:=List.map_eq_append_iff.1 e
 obtain ⟨⟨k',r⟩,XC,rfl,h3,rfl⟩:=List.map_eq_cons_iff.1 h2
 simp only [recI,Prod.mk.injEq] at h3
 obtain ⟨rfl,rfl⟩:=h3
 exact ⟨XA,r,XC,rfl,rfl,rfl,rfl⟩
theorem zLx {X:List RecX} {A C:List btS.It} (e:X.map recI = A++C):∃ XA XC,X = XA++XC∧A = XA.map recI∧C = XC.map recI:=by
 obtain ⟨XA,X2,rfl,rfl,rfl⟩:=List.map_eq_append_iff.1 e
 exact ⟨XA,X2,rfl,rfl,rfl⟩
theorem zIW {X Y:List RecX} {k:ByteArray} {r:Rec×Sl} (h:Srt cmpS ((X++(k,r)::Y).map recI)):∀ x ∈ X,cmpS x.1 k < 0:=fun x hx=>by
 rw [List.map_append] at h
 exact (List.pairwise_append.1 h).2.2 (recI x) (List.mem_map.2 ⟨x,hx,rfl⟩) (recI (k,r)) (by simp)
theorem ne_of_lt {a b:ByteArray} (h:cmpS a b < 0):a ≠ b:=fun e=>by rw [e] at h; exact List.lt_irrefl _ (zER.1 h)
theorem sGet1 {t4 r5:Nat} {r:Rec} {s:Sl} {z:List Value} {q:Array Value→K} (hz:z.length = 4) (hzf:z.all flatV = true) (hr:∀ w,Holds B Γ w→RdB w s r.val) (hl:r.val.length ≤ 1000000000) (h:∀ s',s'.a.isNone = s.a.isNone→HG B (Bytes zAe s' r.val::Γ) (q (recA r s'))) :
  HG B (blk r5 (.cells (recL r s).toArray zAv (0,0))::blk t4 (.cells z.toArray zAv (0,0))::Γ) (zAt.s1 q ⟨t4,0,none⟩ ⟨r5,0,none⟩):=by
 unfold zAt.s1
 refine s_ld (b:=r5) (x:=s) ?_
 refine zDh (fun w hw=>hr w hw.tail.tail) hl fun s' hs'=>?_
 refine s_st (b:=r5) ?_
 refine s_ldN (b:=r5) ?_
 refine s_stN (b:=t4) ?_ hz rfl rfl
 refine s_ldN (b:=t4) ?_
 exact s_end (h s' hs')
theorem zC8 {st n:Nat} {M:Recs} {k:ByteArray} {q:Array Value→K} (hk:k.size < 1000000000000) (h:∀ s,(sGet n M k).ok→HG B (Bytes zAe s (sGet n M k).val::StoreR st n M::Γ) (q (recA (sGet n M k) s))):HG B (StoreR st n M::Γ) (zAt.call (some ⟨st,0,none⟩) k q):=fun w hw=>by
 refine zIT _ _ _ _ ?_
 refine hg hw ?_
 clear hw w
 refine zG2 fun t X hM hok h1 h3=>?_
 unfold zAt
 refine s_new fun t4=>?_
 refine s_nn ?_
 refine s_ld (b:=st) (x:=some ⟨t,0,none⟩) ?_
 refine s_own t ?_
 refine zJf fun hs=>?_
 refine zPQ (fun A v C e=>?_) fun A C e hA hC=>?_
 ·obtain ⟨XA,r,XC,rfl,rfl,rfl,rfl⟩:=zIV e
  have hlt:=zIW hs
  have hg':getM M k = some r.1:=by
   rw [hM,List.map_append]
   exact zRd fun x hx=>by
    obtain ⟨y,hy,rfl⟩:=List.mem_map.1 hx
    exact ne_of_lt (hlt y hy)
  have hr:sGet n M k = r.1:=by unfold sGet; rw [hg']; rfl
  have hrok:r.1.ok:=hok (k,r.1) (zRc hg')
  rw [hr] at h
  refine s_new fun r5=>?_
  refine s_stN (b:=r5) (l':=recL r.1 r.2) ?_
  refine s_f ?_
  refine s_end (Δ:=blk r5 (.cells (recL r.1 r.2).toArray zAv (0,0))::blk t4 (.cells [.bool false,Sl.val ⟨none,0,0⟩,.int .i64 0,.int .u64 0].toArray zAv (0,0))::blk st (.cells [.int .i64 n,.pointer (some ⟨t,0,none⟩)].toArray zA2 (0,0))::TreeR btS cmpS t ((XA++(k,r)::XC).map recI)::Sep.stars ((XA++(k,r)::XC).map recB)::Γ) ?_
  refine sGet1 (r:=r.1) rfl rfl (fun w hw=>?_) hrok.2.2 fun s' hs'=>?_
  ·have h5:Holds B (recB (k,r)::_) w:=(Holds.flat.1 (hw.tail.tail)).perm zGE |>.perm List.perm_middle
   exact h5.rdC List.mem_cons_self
  ·rw [hM] at h
   refine s_end (Δ:=blk st (.cells [.int .i64 n,.pointer (some ⟨t,0,none⟩)].toArray zA2 (0,0))::TreeR btS cmpS t ((XA++(k,r)::XC).map recI)::Sep.stars ((XA++(k,r)::XC).map recB)::Bytes zAe s' r.1.val::Γ) ?_
   refine zDl (by rw [← hM]; exact hok) h1 h3 ?_
   exact s_end (h s' hrok)
 ·obtain ⟨XA,XC,rfl,rfl,rfl⟩:=zLx e
  have hg':getM M k = none:=by
   rw [hM,List.map_append]
   refine zQG fun x hx=>?_
   rcases List.mem_append.1 hx with hx | hx
   ·obtain ⟨y,hy,rfl⟩:=List.mem_map.1 hx
    exact ne_of_lt (hA (recI y) (List.mem_map.2 ⟨y,hy,rfl⟩))
   ·obtain ⟨y,hy,rfl⟩:=List.mem_map.1 hx
    exact Ne.symm (ne_of_lt (hC (recI y) (List.mem_map.2 ⟨y,hy,rfl⟩)))
  have hr:sGet n M k = ⟨false,[],homeOf k.toList n,0⟩:=by unfold sGet; rw [hg']; rfl
  rw [hr] at h
  refine s_new fun r5=>?_
  refine s_stN (b:=r5) (l':=recL ⟨false,[],0,0⟩ ⟨none,0,0⟩) ?_
  refine s_t ?_
  refine s_ld (b:=st) (x:=(n:Int)) ?_
  refine zNM h1 (by omega) hk ?_
  refine s_st (b:=r5) ?_
  refine s_end (Δ:=blk r5 (.cells (recL ⟨false,[],homeOf k.toList n,0⟩ ⟨none,0,0⟩).toArray zAv (0,0))::blk t4 (.cells [.bool false,Sl.val ⟨none,0,0⟩,.int .i64 0,.int .u64 0].toArray zAv (0,0))::blk st (.cells [.int .i64 n,.pointer (some ⟨t,0,none⟩)].toArray zA2 (0,0))::TreeR btS cmpS t ((XA++XC).map recI)::Sep.stars ((XA++XC).map recB)::Γ) ?_
  refine sGet1 (r:=⟨false,[],homeOf k.toList n,0⟩) rfl rfl (fun w hw=>RdC.none') (by simp) fun s' hs'=>?_
  rw [hM] at h
  refine s_end (Δ:=blk st (.cells [.int .i64 n,.pointer (some ⟨t,0,none⟩)].toArray zA2 (0,0))::TreeR btS cmpS t ((XA++XC).map recI)::Sep.stars ((XA++XC).map recB)::Bytes zAe s' []::Γ) ?_
  refine zDl (by rw [← hM]; exact hok) h1 h3 ?_
  exact s_end (h s' ⟨by simp,by simp,by simp⟩)
end
end Go.Proofs.YtdemfamgieonbaaGreat
namespace Go.Proofs.YtdemfamgieonbaaGreat
open Go Go.Sep Go.Sep.Bt
set_option maxRecDepth 100000
section
variable {B:World} {Γ Δ:List HProp}
theorem zN8 {st t n:Nat} {X:List RecX} {k:ByteArray} {r:Rec} {s:Sl} {q:Array Value→Bool→K} (hok:∀ x ∈ X.map recM,x.2.ok) (hr:r.ok) (h1:1 ≤ n) (h3:n ≤ 3) (hL:X.length < 1000000000)
  (h:∀ a b,HG B (StoreR st n (putM (X.map recM) k r)::Γ) (q a b)) :
  HG B (blk st (.cells [.int .i64 n,.pointer (some ⟨t,0,none⟩)].toArray zA2 (0,0))::TreeR btS cmpS t (X.map recI)::Sep.stars (X.map recB)::Bytes zAe s r.val::Γ) (zAE.call (some ⟨t,0,none⟩) k (recA r s) q):=by
 refine s_own t ?_
 refine zJf fun hs=>?_
 refine zPR (v:=recC (r,s)) (by simpa using hL) fun L' old had hp=>?_
 have hput:∀ x ∈ putM (X.map recM) k r,x.2.ok:=fun x hx=>by
  rcases zRb hx with rfl | hx
  ·exact hr
  ·exact hok x hx
 rcases hp with ⟨A,C,e,rfl,rfl⟩ | ⟨A,C,e,hA,hC,rfl,rfl,rfl⟩
 ·obtain ⟨XA,r0,XC,rfl,rfl,rfl,rfl⟩:=zIV e
  have hlt:=zIW hs
  have e2:putM ((XA++(k,r0)::XC).map recM) k r = (XA++(k,(r,s))::XC).map recM:=by
   rw [List.map_append,List.map_cons]
   rw [show recM (k,r0) = (k,r0.1) from rfl,zRe (fun x hx=>by
    obtain ⟨y,hy,rfl⟩:=List.mem_map.1 hx
    exact hlt y hy)]
   simp
  rw [e2] at h hput
  refine s_pick (Sep.stars ((XA++(k,r0)::XC).map recB)) ?_
  refine s_mid ?_
  have e3:XA.map recI++((k,recC (r,s)):btS.It)::XC.map recI = (XA++(k,(r,s))::XC).map recI:=by simp
  refine s_end (Δ:=recB (k,(r,s))::Sep.stars ((XA++XC).map recB)::blk st (.cells [.int .i64 n,.pointer (some ⟨t,0,none⟩)].toArray zA2 (0,0))::TreeR btS cmpS t (XA.map recI++((k,recC (r,s)):btS.It)::XC.map recI)::Γ) ?_
  refine zCx ?_
  rw [e3]
  refine s_end (Δ:=blk st (.cells [.int .i64 n,.pointer (some ⟨t,0,none⟩)].toArray zA2 (0,0))::TreeR btS cmpS t ((XA++(k,(r,s))::XC).map recI)::Sep.stars ((XA++(k,(r,s))::XC).map recB)::Γ) ?_
  exact zDl hput h1 h3 (h _ _)
 ·obtain ⟨XA,XC,rfl,rfl,rfl⟩:=zLx e
  have e2:putM ((XA++XC).map recM) k r = (XA++(k,(r,s))::XC).map recM:=by
   rw [List.map_append,zRf (fun x hx=>by
    obtain ⟨y,hy,rfl⟩:=List.mem_map.1 hx
    exact hA (recI y) (List.mem_map.2 ⟨y,hy,rfl⟩)) (fun x hx=>by
    obtain ⟨y,hy,rfl⟩:=List.mem_map.1 hx
    exact hC (recI y) (List.mem_map.2 ⟨y,hy,rfl⟩))]
   simp
  rw [e2] at h hput
  have e3:XA.map recI++((k,recC (r,s)):btS.It)::XC.map recI = (XA++(k,(r,s))::XC).map recI:=by simp
  refine s_end (Δ:=recB (k,(r,s))::Sep.stars ((XA++XC).map recB)::blk st (.cells [.int .i64 n,.pointer (some ⟨t,0,none⟩)].toArray zA2 (0,0))::TreeR btS cmpS t (XA.map recI++((k,recC (r,s)):btS.It)::XC.map recI)::Γ) ?_
  refine zCx ?_
  rw [e3]
  refine s_end (Δ:=blk st (.cells [.int .i64 n,.pointer (some ⟨t,0,none⟩)].toArray zA2 (0,0))::TreeR btS cmpS t ((XA++(k,(r,s))::XC).map recI)::Sep.stars ((XA++(k,(r,s))::XC).map recB)::Γ) ?_
  exact zDl hput h1 h3 (h _ _)
theorem zH3 {st n:Nat} {M:Recs} {k:ByteArray} {r:Rec} {s:Sl} {q:K} (hr:r.ok) (hne:r.has = true∨r.cnt ≠ 0) (hL:M.length < 1000000000) (h:HG B (StoreR st n (putM M k r)::Γ) q):HG B (StoreR st n M::Bytes zAe s r.val::Γ) (zA6.call (some ⟨st,0,none⟩) k (recA r s) q):=fun w hw=>by
 refine zFl _ _ _ _ _ ?_
 refine hg hw ?_
 clear hw w
 refine zG2 fun t X hM hok h1 h3=>?_
 subst hM
 unfold zA6
 refine s_new fun r5=>?_
 refine s_ld (b:=r5) (x:=r.has) ?_
 have key:HG B (blk r5 (.cells (recL r s).toArray zAv (0,0))::blk st (.cells [.int .i64 n,.pointer (some ⟨t,0,none⟩)].toArray zA2 (0,0))::TreeR btS cmpS t (X.map recI)::Sep.stars (X.map recB)::Bytes zAe s r.val::Γ) (zA6.s1 q (some ⟨st,0,none⟩) k ⟨r5,0,none⟩ false):=by
  unfold zA6.s1
  refine s_f ?_
  refine s_dr ?_
  refine s_nn ?_
  refine s_ld (b:=st) (x:=some ⟨t,0,none⟩) ?_
  refine s_ldN (b:=r5) ?_
  refine s_end (Δ:=blk st (.cells [.int .i64 n,.pointer (some ⟨t,0,none⟩)].toArray zA2 (0,0))::TreeR btS cmpS t (X.map recI)::Sep.stars (X.map recB)::Bytes zAe s r.val::Γ) ?_
  exact zN8 hok hr h1 h3 (by simpa using hL) fun _ _=>h
 refine s_ite (fun hb=>?_) fun hb=>key
 refine s_ld (b:=r5) (x:=r.cnt) ?_
 have hc:r.cnt ≠ 0:=hne.resolve_left (by simpa using hb)
 rw [show decide (r.cnt = 0) = false by simpa using hc]
 exact key
theorem zLF {st n:Nat} {M:Recs} {k:ByteArray} {to:Int} {q:Int→K} (hk:k.size < 1000000000000) (hL:M.length < 1000000000) (h:HG B (StoreR st n (sMove n M k to).1::Γ) (q (sMove n M k to).2)):HG B (StoreR st n M::Γ) (zBN.call (some ⟨st,0,none⟩) k to q):=fun w hw=>by
 refine zH8 _ _ _ _ _ ?_
 refine hg hw ?_
 clear hw w
 unfold zBN
 refine zC8 hk fun s hok=>?_
 generalize hR:sGet n M k = r at *
 refine s_new fun r7=>?_
 refine s_stN (b:=r7) (l':=recL r s) ?_
 have bad:to < 0∨(n:Int) ≤ to→∀ s0,HG B (blk r7 (.cells (recL r s).toArray zAv (0,0))::Bytes zAe s r.val::StoreR st n M::Γ) (zBN.s1 q s0 k to ⟨r7,0,none⟩ true):=fun hb s0=>by
  unfold zBN.s1
  refine s_t ?_
  have e:sMove n M k to = (M,1):=by unfold sMove; rw [if_pos hb]
  rw [e] at h
  exact s_end h
 refine s_ite (fun hb=>bad (.inl (by simpa using hb)) _) fun hb=>?_
 refine s_nn ?_
 refine s_own st ?_
 refine zG2 fun t X hM hok2 h1 h3=>?_
 refine s_ld (b:=st) (x:=(n:Int)) ?_
 subst hM
 refine zDl hok2 h1 h3 ?_
 refine s_end (Δ:=blk r7 (.cells (recL r s).toArray zAv (0,0))::Bytes zAe s r.val::StoreR st n (X.map recM)::Γ) ?_
 by_cases hb2:(n:Int) ≤ to
 ·rw [show decide ((n:Int) ≤ to) = true by simpa using hb2]
  exact bad (.inr hb2) _
 rw [show decide ((n:Int) ≤ to) = false by simpa using hb2]
 have hnb:¬ (to < 0∨(n:Int) ≤ to):=by
  simp only [decide_eq_false_iff_not] at hb
  omega
 unfold zBN.s1
 refine s_f ?_
 refine s_ld (b:=r7) (x:=r.cnt) ?_
 refine s_ite (fun hc=>?_) fun hc=>?_
 ·have e:sMove n (X.map recM) k to = (X.map recM,111):=by unfold sMove; rw [if_neg hnb,hR,if_pos (by simpa using hc)]
  rw [e] at h
  exact s_end h
 have hc':r.cnt ≠ 18446744073709551615:=by simpa using hc
 obtain ⟨o1,o2,o3⟩:=hok
 refine s_st (b:=r7) ?_
 refine s_ld (b:=r7) (x:=r.cnt) ?_
 refine s_ar (wrapU64 (by omega) (by omega)) ?_
 refine s_st (b:=r7) ?_
 refine s_ldN (b:=r7) (l':=recL { r with home:=to,cnt:=r.cnt + 1 } s) ?_
 refine s_end (Δ:=StoreR st n (X.map recM)::Bytes zAe s r.val::Γ) ?_
 refine zH3 (r:={ r with home:=to,cnt:=r.cnt + 1 }) ⟨by simp only; omega,by simp only; omega,o3⟩ (.inr (by simp only; omega)) hL ?_
 have e:sMove n (X.map recM) k to = (putM (X.map recM) k { r with home:=to,cnt:=r.cnt + 1 },0):=by unfold sMove; rw [if_neg hnb,hR,if_neg hc']
 rw [e] at h
 exact h
end
end Go.Proofs.YtdemfamgieonbaaGreat
namespace Go.Proofs.YtdemfamgieonbaaGreat
open Go Go.Sep
def zFu:Sh:=(.fld 0 1 (.int .i64) (.fld 1 1 (.sl .str 1) (.fld 2 1 (.sl .str 1) (.fld 3 1 (.sl (.fld 0 1 (.int .i64) (.fld 1 1 .str (.fld 2 1 (.sl (.int .u8) 1) (.fld 3 1 (.int .i64) .nil)))) 4) (.fld 4 1 (.int .i64) .nil)))))
theorem sh_25:mkSh Tryz.prog 9 25 = zFu:=by kernel_rfl
end Go.Proofs.YtdemfamgieonbaaGreat
namespace Go.Proofs.YtdemfamgieonbaaGreat
open Go Go.Sep
set_option maxRecDepth 100000
set_option maxHeartbeats 4000000
attribute [local irreducible] G Gp Cx Tx Ex Sx Dx Ox Ax Lx Rx Fx Bx Bj Al Do Ld LdN St StN New CallF Ar DoU Rd Rd2 Pu Cd Ite Fv CallV CallY Ans0 Ans1 Ans2 Ans3 Ans4 Ans5 Ext Dead Dr WithS Sv LdS LdNS RdS Rd2S Nn Idx IdxA IdxS Fld Bld Slc SlcS Cat All LoopK RangeF RangeJ TakeD
namespace F_IRRoute
instance at_25:AT Tryz.prog 25 5:=⟨by kernel_rfl⟩
instance at_37:AT Tryz.prog 37 4:=⟨by kernel_rfl⟩
instance at_40:AT Tryz.prog 40 10:=⟨by kernel_rfl⟩
instance cb_108:CB Tryz.prog 108:=⟨by kernel_rfl⟩
instance cb_66:CB Tryz.prog 66:=⟨by kernel_rfl⟩
instance cb_86:CB Tryz.prog 86:=⟨by kernel_rfl⟩
instance cb_92:CB Tryz.prog 92:=⟨by kernel_rfl⟩
instance ct_3:CT Tryz.prog 3:=⟨by kernel_rfl⟩
instance ct_33:CT Tryz.prog 33:=⟨by kernel_rfl⟩
instance ct_9:CT Tryz.prog 9:=⟨by kernel_rfl⟩
instance zLG:FT Tryz.prog 84 1 1 1:=⟨by kernel_rfl⟩
instance zSv:FT Tryz.prog 84 2 2 1:=⟨by kernel_rfl⟩
instance zLD:FT Tryz.prog 87 2 2 1:=⟨by kernel_rfl⟩
instance zLE:FT Tryz.prog 87 3 3 1:=⟨by kernel_rfl⟩
instance mx:MX Tryz.prog:=⟨mixed⟩
instance pl_40:PLT Tryz.prog 40 [(0,4),(4,5),(9,1)]:=⟨_,Tryz.underlying40,by kernel_rfl⟩
instance pl_84:PLT Tryz.prog 84 [(0,1),(1,1),(2,1)]:=⟨_,Tryz.underlying84,by kernel_rfl⟩
instance sl_22:SLT Tryz.prog 22 9 1:=⟨by kernel_rfl⟩
instance sl_38:SLT Tryz.prog 38 84 3:=⟨by kernel_rfl⟩
instance sz_40:SZ Tryz.prog 40 10:=⟨by kernel_rfl⟩
instance sz_87:SZ Tryz.prog 87 4:=⟨by kernel_rfl⟩
instance zt_40:ZT Tryz.prog 40 (.agg #[(.int .i64 0),(.int .u64 0),(.int .u64 0),(.int .i64 0),(.int .i64 0),(Sl.val ⟨none,0,0⟩),(Sl.val ⟨none,0,0⟩),(Sl.val ⟨none,0,0⟩),(.int .i64 0),(Sl.val ⟨none,0,0⟩)]):=⟨Tryz.t40,by kernel_rfl,by kernel_rfl⟩
instance zt_84:ZT Tryz.prog 84 (.agg #[(.string ⟨#[]⟩),(.int .i64 0),(.int .u64 0)]):=⟨Tryz.t84,by kernel_rfl,by kernel_rfl⟩
instance zt_87:ZT Tryz.prog 87 (.agg #[(.bool false),(Sl.val ⟨none,0,0⟩),(.int .i64 0),(.int .u64 0)]):=⟨Tryz.t87,by kernel_rfl,by kernel_rfl⟩
end F_IRRoute
def zEa (s0:(Option Addr)) (tag1:(Array Value)) (t2:(Array Value)) (Q:(Array Value)→K):K :=
 New 37 tag1 fun tag4 =>
 New 25 t2 fun t5 =>
 New 40 #[(.int .i64 0),(.int .u64 0),(.int .u64 0),(.int .i64 0),(.int .i64 0),(Sl.val ⟨none,0,0⟩),(Sl.val ⟨none,0,0⟩),(Sl.val ⟨none,0,0⟩),(.int .i64 0),(Sl.val ⟨none,0,0⟩)] fun t6 =>
 Dr <| WithS fun S =>
 LdNS S tag4 4 fun t7 =>
 LdNS S t5 5 fun t8 =>
 LdNS S t5 5 fun t11 =>
 zDM.call t8 fun t9 =>
 Sv S <|
 zCt.call s0 t11 fun t12 =>
 Sv S <|
 Bld #[(.int .i64 0),(.int .u64 0),(.int .u64 0),(.int .i64 0),(.int .i64 0),(Sl.val ⟨none,0,0⟩),(Sl.val ⟨none,0,0⟩),(Sl.val ⟨none,0,0⟩),(.int .i64 0),(Sl.val ⟨none,0,0⟩)] ([(0,4),(4,5),(9,1)][·]?) [(0,(.agg t7)),(1,(.agg t9)),(2,(Sl.val t12))] fun t13 =>
 StN t6 10 t13 <|
 LdN t6 10 fun r0 =>
 Q r0
theorem zMY (s0:(Option Addr)) (tag1:(Array Value)) (t2:(Array Value)) (Q:(Array Value)→K) (w:World) (h:zEa s0 tag1 t2 Q w):zEa.call s0 tag1 t2 Q w:=by
 have hD1:DH 1 2 [7] (.s [3,0,1,4] (.a [(2,1,.a [(5,1,.s [6] (.a [(7,0,.e)]))])])):=by intros; exact ⟨⟩
 exact g_walk 14 h Tryz.func49
def zCt.b1 (Q:Sl→K)  (X1:Sl→Int→K) (s0_1:(Option Addr)) (t9_1:Sl) (t10_1:Int) (out4_1:Sl) (t11_1:Int):K :=
 Ite (decide (t11_1 < t10_1))
  (Idx t9_1 t11_1 1 fun t13 =>
  Ld t13 Value.string fun t14 =>
  zAt.call s0_1 t14 fun t17 =>
  New 87 #[(.bool false),(Sl.val ⟨none,0,0⟩),(.int .i64 0),(.int .u64 0)] fun r7 =>
  StN r7 4 t17 <|
  Ld (r7.add 2) (Value.int .i64) fun t21 =>
  Ld (r7.add 3) (Value.int .u64) fun t23 =>
  Bld #[(.string ⟨#[]⟩),(.int .i64 0),(.int .u64 0)] (fun i=>some (i * 3,3)) [(0,(.agg #[(.string t14),(.int .i64 t21),(.int .u64 t23)]))] fun ct25 =>
  New 84 ct25 fun t25 =>
  Do Tryz.prog (Builtin.append_ #[38,38] 38 #[(Sl.val out4_1),(Sl.val (Sl.mk (some t25) 1 1))]) Sl.val fun t26 =>
  Ar (IntKind.wrap .i64 (t11_1 + 1)) fun t27 =>
  X1 t26 t27)
  (Q out4_1)
def zCt (s0:(Option Addr)) (t1:(Array Value)) (Q:Sl→K):K :=
 New 25 t1 fun t3 =>
 LdN t3 5 fun t8 =>
 zDw.call t8 fun t9 =>
 LoopK (α:=Sl×Int) (fun X x=>zCt.b1 Q (fun out4_1 t11_1=>X (out4_1,t11_1)) s0 t9 (t9.n:Int) x.1 x.2) ((Sl.mk none 0 0),0)
theorem zLH (s0:(Option Addr)) (t1:(Array Value)) (Q:Sl→K) (w:World) (h:zCt s0 t1 Q w):zCt.call s0 t1 Q w:=by
 have hL2:∀ (s0_1:(Option Addr)) (t9_1:Sl) (t10_1:Int),LH 2 (fun x:Sl×Int=>[(0,(.pointer s0_1)),(4,(Sl.val x.1)),(9,(Sl.val t9_1)),(10,(.int .i64 t10_1)),(11,(.int .i64 x.2))]) (fun X x=>zCt.b1 Q (fun out4_1 t11_1=>X (out4_1,t11_1)) s0_1 t9_1 t10_1 x.1 x.2):=by intros; exact ⟨⟩
 exact g_walk 29 h Tryz.func86
def zCB.s1 (Q:Int→K)  (t11_1:Bool):K :=
 Ite t11_1
  (Q 0)
  (Q 2)
def zCB (r0:(Array Value)) (m1:(Array Value)) (Q:Int→K):K :=
 New 87 r0 fun r2 =>
 New 84 m1 fun m3 =>
 Ld (m3.add 2) (Value.int .u64) fun t7 =>
 Ld (r2.add 3) (Value.int .u64) fun t9 =>
 Ite (decide (t9 < t7))
  (Q 1)
  (Ld (m3.add 2) (Value.int .u64) fun t13 =>
  Ld (r2.add 3) (Value.int .u64) fun t15 =>
  Ite (decide (t13 = t15))
   (Ld (m3.add 1) (Value.int .i64) fun t19 =>
   Ld (r2.add 2) (Value.int .i64) fun t21 =>
   zCB.s1 Q (decide (t19 = t21)))
   (zCB.s1 Q false))
theorem zMZ (r0:(Array Value)) (m1:(Array Value)) (Q:Int→K) (w:World) (h:zCB r0 m1 Q w):zCB.call r0 m1 Q w:=by
 have hJ4:JH 4 fun D=>D [] (fun C=>∀ (t11_1:Bool),C [(11,(.bool t11_1))] (zCB.s1 Q t11_1)):=by intros; exact ⟨fun _ h=>⟨_,_,h⟩⟩
 exact g_walk 24 h Tryz.func107
end Go.Proofs.YtdemfamgieonbaaGreat
namespace Go.Proofs.YtdemfamgieonbaaGreat
open Go Go.Sep Go.Sep.Bt
set_option maxRecDepth 100000
def lookS (cnt mc home mh:Int):Int:=if cnt < mc then 1 else if mc = cnt∧mh = home then 0 else 2
section
variable {B:World} {Γ Δ:List HProp}
theorem lookHg {hs:Bool} {vl:Sl} {home cnt:Int} {key:ByteArray} {mh mc:Int} {q:Int→K} (h:HG B Γ (q (lookS cnt mc home mh))) :
  HG B Γ (zCB.call #[.bool hs,vl.val,.int .i64 home,.int .u64 cnt] #[.string key,.int .i64 mh,.int .u64 mc] q):=fun w hw=>by
 refine zMZ _ _ _ _ ?_
 refine hg hw ?_
 clear hw w
 unfold zCB
 refine s_new fun r=>?_
 refine s_new fun m=>?_
 refine s_end (Δ:=blk m (.cells [.string key,.int .i64 mh,.int .u64 mc].toArray zBG (0,0))::blk r (.cells [.bool hs,vl.val,.int .i64 home,.int .u64 cnt].toArray zAv (0,0))::Γ) ?_
 refine s_ld (b:=m) (x:=mc) ?_
 refine s_ld (b:=r) (x:=cnt) ?_
 refine s_ite (fun hb=>?_) fun hb=>?_
 ·have e:lookS cnt mc home mh = 1:=by unfold lookS; rw [if_pos (by simpa using hb)]
  rw [e] at h; exact s_end h
 have hb':¬ cnt < mc:=by simpa using hb
 refine s_ld (b:=m) (x:=mc) ?_
 refine s_ld (b:=r) (x:=cnt) ?_
 refine s_ite (fun hc=>?_) fun hc=>?_
 ·have hc':mc = cnt:=by simpa using hc
  refine s_ld (b:=m) (x:=mh) ?_
  refine s_ld (b:=r) (x:=home) ?_
  unfold zCB.s1
  refine s_ite (fun hd=>?_) fun hd=>?_
  ·have e:lookS cnt mc home mh = 0:=by unfold lookS; rw [if_neg hb',if_pos ⟨hc',by simpa using hd⟩]
   rw [e] at h; exact s_end h
  ·have e:lookS cnt mc home mh = 2:=by unfold lookS; rw [if_neg hb',if_neg fun x=>by simp [x.2] at hd]
   rw [e] at h; exact s_end h
 ·unfold zCB.s1
  refine s_f ?_
  have e:lookS cnt mc home mh = 2:=by unfold lookS; rw [if_neg hb',if_neg fun x=>by simp [x.1] at hc]
  rw [e] at h; exact s_end h
end
end Go.Proofs.YtdemfamgieonbaaGreat
namespace Go.Proofs.YtdemfamgieonbaaGreat
open Go Go.Sep Go.RowKit
end Go.Proofs.YtdemfamgieonbaaGreat
namespace Go.Sep
open Go Go.RowKit Go.MapKept
section
variable {α β:Type} [DecidableEq α]
def mget (k:α):List (α×β)→Option β
 | []=>none
 | p::m=>if k = p.1 then some p.2 else mget k m
def mset (k:α) (v:β):List (α×β)→List (α×β)
 | []=>[(k,v)]
 | p::m=>if k = p.1 then (k,v)::m else p::mset k v m
def mdel (k:α):List (α×β)→List (α×β)
 | []=>[]
 | p::m=>if k = p.1 then m else p::mdel k m
theorem mfind (k:α):∀ m:List (α×β),(mget k m = none∧(∀ v,mset k v m = m++[(k,v)])∧mdel k m = m∧∀ p ∈ m,p.1 ≠ k) ∨
  ∃ j x,j < m.length∧m[j]? = some (k,x)∧(∀ i,i < j→∀ p,m[i]? = some p→p.1 ≠ k)∧mget k m = some x∧(∀ v,mset k v m = m.set j (k,v))∧mdel k m = m.eraseIdx j
 | []=>.inl ⟨rfl,fun _=>rfl,rfl,by simp⟩
 | p::m=>by
  by_cases hk:k = p.1
  ·refine .inr ⟨0,p.2,by simp,by rw [hk]; rfl,fun i hi=>by omega,by simp [mget,hk],fun v=>by simp [mset,hk],by simp [mdel,hk]⟩
  ·rcases mfind k m with ⟨h1,h2,h3,h4⟩ | ⟨j,x,hj,h0,hb,h1,h2,h3⟩
   ·refine .inl ⟨by simp [mget,hk,h1],fun v=>by simp [mset,hk,h2],by simp [mdel,hk,h3],fun q hq=>?_⟩
    rcases List.mem_cons.1 hq with rfl | hq
    ·exact fun e=>hk e.symm
    ·exact h4 q hq
   ·refine .inr ⟨j + 1,x,by simpa using hj,by simpa using h0,fun i hi q hq=>?_,by simp [mget,hk,h1],fun v=>by simp [mset,hk,h2],by simp [mdel,hk,h3]⟩
    cases i with
    | zero=>simp at hq; subst hq; exact fun e=>hk e.symm
    | succ i=>exact hb i (by omega) q (by simpa using hq)
end
structure KeyE {α:Type} (d:TypeDesc) (enc:α→Value):Prop where
 key:∀ a,IsKey d (enc a)
 inj:∀ a b,enc a = enc b→a = b
 bits:∀ a,Instr.sameBits 10000 (enc a) (enc a) = true
theorem zN9:KeyE .string Value.string:=⟨fun _=>trivial,fun a b h=>by injection h,fun a=>by
 show (a == a) = true
 rw [bytes_beq]⟩
section
variable {α β:Type} [DecidableEq α] {P:Program} {B w:World} {Γ:List HProp} {enc:α→Value} {cV:β→Value}
def mrel (enc:α→Value) (cV:β→Value) (es:Array MapEntry) (m:List (α×β)):Prop:=es.toList.map (fun e=>(e.key,e.val)) = m.map fun p=>(enc p.1,cV p.2)
def stamps (es:Array MapEntry) (c:Nat):Prop:=(es.toList.map (·.born)).Nodup∧∀ e ∈ es.toList,e.born < c
theorem zPS (c:Nat):stamps #[] c:=⟨by simp,by simp⟩
theorem zGj {es:Array MapEntry} {c:Nat} (h:stamps es c) (k v:Value):stamps (es.push { key:=k,val:=v,born:=c }) (c + 1):=by
 refine ⟨?_,fun e he=>?_⟩
 ·simp only [Array.toList_push,List.map_append,List.map_cons,List.map_nil]
  rw [List.nodup_append]
  refine ⟨h.1,by simp,fun x hx y hy=>?_⟩
  simp only [List.mem_singleton] at hy
  subst hy
  obtain ⟨e,he,rfl⟩:=List.mem_map.1 hx
  have:=h.2 e he
  omega
 ·simp only [Array.toList_push] at he
  rcases List.mem_append.1 he with he | he
  ·have:=h.2 e he; omega
  ·simp only [List.mem_singleton] at he; subst he; exact Nat.lt_succ_self _
theorem zFv {es:Array MapEntry} {c:Nat} (h:stamps es c) (j:Nat) (k v:Value):stamps (es.modify j fun e=>{ e with key:=k,val:=v }) c:=by
 have e1:(es.modify j fun e=>{ e with key:=k,val:=v }).toList.map (·.born) = es.toList.map (·.born):=by
  apply List.ext_getElem?
  intro i
  simp only [List.getElem?_map,Array.getElem?_toList,Array.getElem?_modify]
  split
  ·cases es[i]? <;> rfl
  ·rfl
 refine ⟨by rw [e1]; exact h.1,fun e he=>?_⟩
 have:e.born ∈ es.toList.map (·.born):=by rw [← e1]; exact List.mem_map_of_mem he
 obtain ⟨e',he',hb⟩:=List.mem_map.1 this
 rw [← hb]; exact h.2 e' he'
theorem zNN {es:Array MapEntry} {c:Nat} (h:stamps es c) (j:Nat):stamps (es.eraseIdxIfInBounds j) c:=by
 have hs:List.Sublist (es.eraseIdxIfInBounds j).toList es.toList:=by
  unfold Array.eraseIdxIfInBounds
  split
  ·rw [Array.toList_eraseIdx]; exact List.eraseIdx_sublist _ _
  ·exact List.Sublist.refl _
 exact ⟨h.1.sublist (hs.map _),fun e he=>h.2 e (hs.subset he)⟩
def MapR (enc:α→Value) (cV:β→Value) (b:Nat) (m:List (α×β)):HProp:=ex fun es:Array MapEntry=>ex fun c:Nat=>fun g=>(mrel enc cV es m∧stamps es c)∧blk b (.map es c) g
theorem MapR.opens {b:Nat} {m:List (α×β)} (h:Holds B (MapR enc cV b m::Γ) w):∃ es c,(mrel enc cV es m∧stamps es c)∧Holds B (blk b (.map es c)::Γ) w:=by
 obtain ⟨es,h⟩:=Holds.ex.1 h
 obtain ⟨c,h⟩:=Holds.ex.1 h
 exact ⟨es,c,h.fact fun g hg=>hg.1,h.imp fun g hg=>hg.2⟩
theorem MapR.shuts {b:Nat} {m:List (α×β)} {es:Array MapEntry} {c:Nat} (hr:mrel enc cV es m∧stamps es c) (h:Holds B (blk b (.map es c)::Γ) w):Holds B (MapR enc cV b m::Γ) w :=
 Holds.ex.2 ⟨es,Holds.ex.2 ⟨c,h.imp fun g hg=>⟨hr,hg⟩⟩⟩
theorem zE1 {es:Array MapEntry} {m:List (α×β)} (hr:mrel enc cV es m) (i:Nat):(es.toList[i]?).map (fun e=>(e.key,e.val)) = (m[i]?).map fun p=>(enc p.1,cV p.2):=by
 have:=congrArg (·[i]?) hr
 simpa using this
theorem zQH {d:TypeDesc} (hE:KeyE d enc) {es:Array MapEntry} {m:List (α×β)} (hr:mrel enc cV es m):∀ x ∈ es.toList,IsKey d x.key:=by
 intro x hx
 have:(x.key,x.val) ∈ m.map fun p=>(enc p.1,cV p.2):=by rw [← hr]; exact List.mem_map_of_mem hx
 obtain ⟨p,_,hp⟩:=List.mem_map.1 this
 have:enc p.1 = x.key:=congrArg Prod.fst hp
 rw [← this]; exact hE.key _
theorem mfound {d:TypeDesc} (hE:KeyE d enc) {es:Array MapEntry} {m:List (α×β)} (hr:mrel enc cV es m) (k:α) :
  (Instr.findNow d (enc k) es.toList 0 = some none∧mget k m = none∧(∀ v,mset k v m = m++[(k,v)])∧mdel k m = m) ∨
  ∃ j x,Instr.findNow d (enc k) es.toList 0 = some (some (j,cV x))∧j < m.length∧m[j]? = some (k,x)∧mget k m = some x∧(∀ v,mset k v m = m.set j (k,v))∧mdel k m = m.eraseIdx j:=by
 have hlen:es.toList.length = m.length:=by have:=congrArg List.length hr; simpa using this
 rcases mfind k m with ⟨h1,h2,h3,h4⟩ | ⟨j,x,hj,h0,hb,h1,h2,h3⟩
 ·refine .inl ⟨?_,h1,h2,h3⟩
  rcases findNow_spec (hE.key k) es.toList 0 (zQH hE hr) with ⟨g1,_⟩ | ⟨i,e,g1,g2,g3⟩
  ·exact g1
  ·have:=zE1 hr i
   rw [g2] at this
   cases hm:m[i]? with
   | none=>rw [hm] at this; simp at this
   | some p =>
    rw [hm] at this
    simp only [Option.map_some,Option.some.injEq,Prod.mk.injEq] at this
    exact absurd (hE.inj _ _ (this.1.symm.trans g3)) (h4 p (List.mem_of_getElem? hm))
 ·have key:∀ (l:List MapEntry) (m:List (α×β)) (j i:Nat),l.map (fun e=>(e.key,e.val)) = m.map (fun p=>(enc p.1,cV p.2))→m[j]? = some (k,x)→(∀ i,i < j→∀ p,m[i]? = some p→p.1 ≠ k) →
    Instr.findNow d (enc k) l i = some (some (i + j,cV x)):=by
   intro l
   induction l with
   | nil=>intro m j i hr hm _; cases m <;> simp at hr hm
   | cons e l ih =>
    intro m j i hr hm hb
    cases m with
    | nil=>simp at hr
    | cons p m =>
     simp only [List.map_cons,List.cons.injEq,Prod.mk.injEq] at hr
     obtain ⟨⟨e1,e2⟩,hr⟩:=hr
     obtain ⟨r,hs,hiff⟩:=sameNow_of_keys (hE.key k) (hE.key p.1)
     unfold Instr.findNow
     rw [e1,hs]
     cases j with
     | zero =>
      simp only [List.getElem?_cons_zero,Option.some.injEq] at hm
      subst hm
      have:r = true:=hiff.2 rfl
      subst this
      simp only [e2,Nat.add_zero]
     | succ j =>
      have hne:p.1 ≠ k:=hb 0 (by omega) p rfl
      have:r = false:=by
       cases r with
       | false=>rfl
       | true=>exact absurd (hE.inj _ _ (hiff.1 rfl)) (fun e=>hne e.symm)
      subst this
      simp only
      rw [ih m j (i + 1) hr (by simpa using hm) (fun i' hi' q hq=>hb (i' + 1) (by omega) q (by simpa using hq))]
      congr 3; omega
  refine .inr ⟨j,x,?_,hj,h0,h1,h2,h3⟩
  have:=key es.toList m j 0 hr h0 hb
  rwa [Nat.zero_add] at this
def mapIs (P:Program) (T:TypeId) (d:TypeDesc) (E:TypeId):Prop:=∃ kt,P.underlying T = some (.map kt E)∧P.underlying kt = some d
theorem zNO {T E:TypeId} {d:TypeDesc} {b:Nat} {m:List (α×β)} {z:β} {a:α} (hT:mapIs P T d E) (hE:KeyE d enc) (hz:zeroT P E (cV z)) {es:Array MapEntry} {c:Nat} (hb:w.heap[b]? = some (.map es c)) (hr:mrel enc cV es m) (ok:Bool) :
  (Instr.lookup T (.map (some b)) (enc a) ok).run P w = .ok (if ok then .tuple #[cV ((mget a m).getD z),.bool (mget a m).isSome] else cV ((mget a m).getD z)) w:=by
 obtain ⟨kt,hT,hd⟩:=hT
 unfold Instr.lookup
 simp only [Sem.run_bind,run_underlying hT,Result.andThen,MapKept.run_getObj_map hb,run_checkKey hd (hE.key a),Sem.run_pure]
 rcases mfound hE hr a with ⟨h1,h2,_⟩ | ⟨j,x,h1,_,_,h2,_⟩
 ·simp only [run_findKey hd h1,Result.andThen,Sem.run_bind,zCu hz,Sem.run_pure,h2]
  cases ok <;> rfl
 ·simp only [run_findKey hd h1,Result.andThen,Sem.run_bind,Sem.run_pure,h2]
  cases ok <;> rfl
theorem zSw {T E:TypeId} {d:TypeDesc} {b:Nat} {m:List (α×β)} {z:β} {a:α} {k:β→K} (hT:mapIs P T d E) (hE:KeyE d enc) (hz:zeroT P E (cV z)) (h:Holds B (MapR enc cV b m::Γ) w)
  (hk:k ((mget a m).getD z) w):Rd P (Instr.lookup T (.map (some b)) (enc a) false) cV k w:=by
 obtain ⟨es,c,⟨hr,hst⟩,h⟩:=MapR.opens h
 exact ⟨_,zNO hT hE hz h.block hr false,hk⟩
theorem Holds.setMap {b:Nat} {es es':Array MapEntry} {c c':Nat} (h:Holds B (blk b (.map es c)::Γ) w):(setObj b (.map es' c')).run P w = .ok () { w with heap:=w.heap.setIfInBounds b (.map es' c') } ∧
  Holds B (blk b (.map es' c')::Γ) { w with heap:=w.heap.setIfInBounds b (.map es' c') } :=
 ⟨run_setObj_map _ h.block,h.setBlock rfl⟩
theorem zRg {γ:Type} {cG:γ→Value} {g:β→γ} {T E:TypeId} {d:TypeDesc} {b:Nat} {m:List (α×β)} {z:β} {a:α} {k:γ→Bool→K} (hc:∀ x,cV x = cG (g x)) (hT:mapIs P T d E) (hE:KeyE d enc) (hz:zeroT P E (cV z)) (h:Holds B (MapR enc cV b m::Γ) w)
  (hk:k (g ((mget a m).getD z)) (mget a m).isSome w):Rd2 P (Instr.lookup T (.map (some b)) (enc a) true) (fun x y=>.tuple #[cG x,.bool y]) k w:=by
 obtain ⟨es,c,⟨hr,hst⟩,h⟩:=MapR.opens h
 have:=zNO (a:=a) hT hE hz h.block hr true
 exact ⟨g ((mget a m).getD z),_,by rw [hc] at this; exact this,hk⟩
theorem r_upd {T E:TypeId} {d:TypeDesc} {b:Nat} {m:List (α×β)} {a:α} {v:β} {k:K} (hT:mapIs P T d E) (hE:KeyE d enc) (h:Holds B (MapR enc cV b m::Γ) w)
  (hk:∀ w',Holds B (MapR enc cV b (mset a v m)::Γ) w'→k w'):DoU P (Instr.mapUpdate T (.map (some b)) (enc a) (cV v)) k w:=by
 obtain ⟨kt,hT,hd⟩:=hT
 obtain ⟨es,c,⟨hr,hst⟩,h⟩:=MapR.opens h
 have hb:=h.block
 have hlen:es.size = m.length:=by have:=congrArg List.length hr; simpa using this
 unfold Instr.mapUpdate DoU
 simp only [Sem.run_bind,run_underlying hT,Result.andThen,MapKept.run_getObj_map hb,run_checkKey hd (hE.key a)]
 rcases mfound hE hr a with ⟨h1,_,h2,_⟩ | ⟨j,x,h1,hj,h0,_,h2,_⟩
 ·simp only [run_findKey hd h1,Result.andThen]
  obtain ⟨e1,h3⟩:=h.setMap (P:=P) (es':=es.push { key:=enc a,val:=cV v,born:=c }) (c':=c + 1)
  refine ⟨_,_,e1,hk _ (MapR.shuts ⟨?_,zGj hst _ _⟩ h3)⟩
  rw [h2]
  simp only [mrel,Array.toList_push,List.map_append,List.map_cons,List.map_nil]
  rw [show es.toList.map (fun e=>(e.key,e.val)) = _ from hr]
 ·have hes:∃ e,es.toList[j]? = some e∧e.key = enc a:=by
   have:=zE1 hr j
   rw [h0] at this
   cases he:es.toList[j]? with
   | none=>rw [he] at this; simp at this
   | some e =>
    rw [he] at this
    simp only [Option.map_some,Option.some.injEq,Prod.mk.injEq] at this
    exact ⟨e,rfl,this.1⟩
  obtain ⟨e,he,hek⟩:=hes
  have he2:es[j]? = some e:=by rw [← he,Array.getElem?_toList]
  simp only [run_findKey hd h1,Result.andThen,Sem.run_bind,he2,Option.map_some,Option.getD_some,hek,Instr.keyThatStays,hE.bits,if_true,Sem.run_pure]
  obtain ⟨e1,h3⟩:=h.setMap (P:=P) (es':=es.modify j fun e=>{ e with key:=enc a,val:=cV v }) (c':=c)
  refine ⟨_,_,e1,hk _ (MapR.shuts ⟨?_,zFv hst _ _ _⟩ h3)⟩
  rw [h2]
  simp only [mrel]
  apply List.ext_getElem?
  intro i
  have hi:=zE1 hr i
  simp only [List.getElem?_map,Array.getElem?_toList,Array.getElem?_modify] at hi ⊢
  by_cases hij:j = i
  ·subst hij
   rw [List.getElem?_set_self hj,he2]
   simp
  ·rw [List.getElem?_set_ne hij,if_neg hij]
   exact hi
end
section
variable {α β γ:Type} [DecidableEq α]
theorem zFY (g:β→γ) (k:α):∀ m:List (α×β),mget k (m.map fun p=>(p.1,g p.2)) = (mget k m).map g
 | []=>rfl
 | p::m=>by
  simp only [List.map_cons,mget]
  split
  ·rfl
  ·exact zFY g k m
theorem zNP (g:β→γ) (k:α) (v:β):∀ m:List (α×β),mset k (g v) (m.map fun p=>(p.1,g p.2)) = (mset k v m).map fun p=>(p.1,g p.2)
 | []=>rfl
 | p::m=>by
  simp only [List.map_cons,mset]
  split
  ·rfl
  ·rw [List.map_cons,zNP g k v m]
theorem zGY {k:α} {v:β} {m:List (α×β)} (h:mget k m = none):mset k v m = m++[(k,v)]:=by
 rcases mfind k m with ⟨_,h2,_⟩ | ⟨_,_,_,_,_,h1,_⟩
 ·exact h2 v
 ·rw [h] at h1; cases h1
end
end Go.Sep
namespace Go.Sep
open Go Go.RowKit
section
variable {α β:Type} [DecidableEq α] {P:Program} {B w:World} {Γ Δ:List HProp} {enc:α→Value} {cV:β→Value} {k:K}
instance (priority:=high) zUl {α β:Type} [DecidableEq α] {enc:α→Value} {cV:β→Value} {b:Nat} {m:List (α×β)} {Γ:List HProp}:Own b (MapR enc cV b m::Γ) (MapR enc cV b m) Γ:=⟨.refl _⟩
theorem zI8 {T:TypeId} {k:Option Nat→K} (h:∀ b,HG B (MapR enc cV b []::Γ) (k (some b))):HG B Γ (Do P (Instr.makeMap T none) Value.map k):=fun w hw=>by
 refine ⟨some w.heap.size,{ w with heap:=w.heap.push (.map #[] 0) },rfl,h _ _ (MapR.shuts (es:=#[]) (c:=0) ⟨rfl,zPS 0⟩ (hw.alloc _))⟩
theorem zSx {γ:Type} {cG:γ→Value} {g:β→γ} {T E:TypeId} {d:TypeDesc} {b:Nat} {m:List (α×β)} {z:β} {a:α} {k:γ→Bool→K} (hc:∀ x,cV x = cG (g x)) (hT:mapIs P T d E) (hE:KeyE d enc) (hz:zeroT P E (cV z)) (h:HG B Γ (k (g ((mget a m).getD z)) (mget a m).isSome)) [p:Own b Γ (MapR enc cV b m) Δ] :
  HG B Γ (Rd2 P (Instr.lookup T (.map (some b)) (enc a) true) (fun x y=>.tuple #[cG x,.bool y]) k):=fun w hw=>zRg hc hT hE hz (hw.perm p.perm) (h w hw)
theorem zSy {γ:Type} {cG:γ→Value} {g:β→γ} {T E:TypeId} {d:TypeDesc} {b:Nat} {m:List (α×β)} {z:β} {a:α} {k:γ→K} (hc:∀ x,cV x = cG (g x)) (hT:mapIs P T d E) (hE:KeyE d enc) (hz:zeroT P E (cV z)) (h:HG B Γ (k (g ((mget a m).getD z)))) [p:Own b Γ (MapR enc cV b m) Δ] :
  HG B Γ (Rd P (Instr.lookup T (.map (some b)) (enc a) false) cG k):=fun w hw=>by
 obtain ⟨x,hx,hk⟩:=zSw (P:=P) (T:=T) (a:=a) (k:=fun y w=>y = (mget a m).getD z∧k (g y) w) hT hE hz (hw.perm p.perm) ⟨rfl,h w hw⟩
 obtain ⟨rfl,hk⟩:=hk
 exact ⟨_,by rw [hx,hc],hk⟩
theorem s_upd {γ:Type} {cG:γ→Value} {T E:TypeId} {d:TypeDesc} {b:Nat} {m:List (α×β)} {a:α} {v:β} {x:Value} (hx:x = cV v) (hT:mapIs P T d E) (hE:KeyE d enc) (h:HG B (MapR enc cV b (mset a v m)::Δ) k) [p:Own b Γ (MapR enc cV b m) Δ] :
  HG B Γ (DoU P (Instr.mapUpdate T (.map (some b)) (enc a) x) k):=fun w hw=>by subst hx; exact r_upd hT hE (hw.perm p.perm) fun w' h'=>h w' h'
theorem s_bldF {zero:Array Value} {pl:Nat→Option (Nat×Nat)} {vs:List (Nat×Value)} {cs:List Value} {k:Array Value→K} (h:HG B Γ (k cs.toArray)) (hc:Instr.fill pl zero vs = some cs.toArray:=by rfl):HG B Γ (Bld zero pl vs k):=fun w hw=>⟨_,hc,h w hw⟩
theorem s_mset {F:α×β→HProp} {m:List (α×β)} {a:α} {v:β} (h:HG B (Sep.stars ((mset a v m).map F)::Γ) k):HG B (F (a,v)::Sep.stars (m.map F)::Γ) k:=by
 rcases mfind a m with ⟨_,h2,_,_⟩ | ⟨j,x,hj,h0,_,_,h2,_⟩
 ·rw [h2 v] at h
  have e:m = m++[]:=by simp
  rw [e]
  exact zCx (A:=m) (C:=[]) (x:=(a,v)) h
 ·rw [h2 v] at h
  have hj':=List.getElem?_eq_some_iff.1 h0
  have e1:m = m.take j++(a,x)::m.drop (j + 1):=by
   obtain ⟨h3,h4⟩:=hj'
   rw [← h4,← List.drop_eq_getElem_cons h3,List.take_append_drop]
  have e2:m.set j (a,v) = m.take j++(a,v)::m.drop (j + 1):=by
   rw [List.set_eq_take_append_cons_drop,if_pos hj]
  rw [e2] at h
  rw [e1]
  refine s_swap ?_
  refine s_mid ?_
  refine s_end (Δ:=F (a,v)::Sep.stars ((m.take j++m.drop (j + 1)).map F)::Γ) ?_
  exact zCx h
theorem zFm (m:List (α×β)) (a a':α) (v:β):mget a' (mset a v m) = if a' = a then some v else mget a' m:=by
 induction m with
 | nil=>simp [mset,mget]
 | cons p m ih =>
  unfold mset
  split
  ·rename_i h
   subst h
   by_cases h2:a' = p.1 <;> simp [mget,h2]
  ·rename_i h
   by_cases h2:a' = p.1
   ·simp [mget,h2]
    intro h3; exact absurd h3.symm h
   ·simp [mget,h2,ih]
theorem zFn (m:List (α×β)) (a:α) (v:β):(mset a v m).map Prod.fst = if a ∈ m.map Prod.fst then m.map Prod.fst else m.map Prod.fst++[a]:=by
 induction m with
 | nil=>simp [mset]
 | cons p m ih =>
  unfold mset
  split
  ·rename_i h; simp [h]
  ·rename_i h
   simp only [List.map_cons,ih,List.mem_cons,h,false_or]
   split <;> simp
theorem zFo {m:List (α×β)} {a:α} {v:β} (h:mget a m = some v):(a,v) ∈ m:=by
 induction m with
 | nil=>cases h
 | cons p m ih =>
  unfold mget at h
  split at h
  ·rename_i h1; injection h with h; subst h1; subst h; exact List.mem_cons_self
  ·exact List.mem_cons_of_mem _ (ih h)
end
end Go.Sep
